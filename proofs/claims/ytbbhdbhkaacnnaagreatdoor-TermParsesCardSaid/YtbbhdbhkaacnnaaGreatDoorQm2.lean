/- Laws of this claim, part 3. -/
import Derived.Test.YtbbhdbhkaacnnaaGreatDoorQm0
import Derived.Test.YtbbhdbhkaacnnaaGreatDoorQm1
set_option maxRecDepth 100000
set_option maxHeartbeats 4000000
namespace Go.Proofs.YtbbhdbhkaacnnaaGreatDoor
open Int renaming eq_ofNat_of_zero_le -> JQ, mul_neg -> JR, neg_mul -> JS, neg_neg -> JT
open List renaming drop_eq_nil_of_le -> Jy, drop_zero -> sy, flatMap_cons -> sr, length -> JA, length_drop -> I9, length_set -> Jr, length_take -> Ab, mem_cons -> gq, mem_cons_of_mem -> JP, mem_cons_self -> JO, mem_singleton -> o0, replicate -> um, set_set -> JK, take_length -> s1, take_of_length_le -> I5, take_set -> JX, toArray -> JY
open Nat renaming add_mul -> I4, add_mul_mod_self_left -> Ju, add_sub_cancel -> Jj, add_zero -> sw, div_add_mod -> I7, div_eq_of_lt -> zY, div_le_self -> zF, div_mul_le_self -> Jg, eq_of_mul_eq_mul_left -> JU, eq_zero_or_pos -> yz, gcd -> JI, gcd_comm -> JJ, gcd_mul_left -> JW, gcd_zero_right -> JZ, le_of_eq -> JN, le_of_lt -> JM, le_total -> JV, le_trans -> ed, lt_of_lt_of_le -> ep, lt_or_ge -> co, lt_trichotomy -> JL, min_eq_left -> Am, min_eq_right -> I8, mod_eq_of_lt -> u9, mod_lt -> va, mul_add -> z7, mul_assoc -> z8, mul_comm -> z2, mul_le_mul_left -> A8, mul_le_mul_right -> ua, mul_lt_mul_of_pos_left -> I0, mul_lt_mul_of_pos_right -> Jm, mul_one -> I1, mul_zero -> Ao, one_mul -> I6, pow_add -> A7, pow_le_pow_right -> A4, pow_mul -> Bs, pow_pos -> F2, pow_succ -> z1, pow_zero -> JG, succ_pos -> JH, two_pow_pos -> A0, zero_add -> tv, zero_le -> JF, zero_mod -> Js, zero_mul -> s9
open Go.RowKit
open Go.RowKit Go.Shelf
theorem EP (n:Nat)(b:n<18446744073709551616)(w:World)(h:Hp)(g:G w h):CV 99 #[mV n] w h (nv n):=by
 have a:=sS g;exact go Tryz.func99 [(0,mV n)] rfl (aG (lA 2 24 ([uV 0,eS]) a (fun d w2 f a=>aE (lL a [.c,.v (.agg #[mV n,eS])] (lP 0 0 ([mV n,eS]) a (fun e a=>af a [(0,0,2)] (.agg #[mV n,eS]) (jT b)))))))
theorem kr (n:Nat)(d:n<18446744073709551616)(w:World)(h:Hp)(g:G w h):CV 104 #[nv n] w h (.tuple #[mV n,.bool true]):=by
 have a:=sS g;refine go Tryz.func104 [(0,nv n)] rfl (aG (lA 1 24 (nc n) a (fun b w2 e a=>lL a aF (ai (aa a [.v (qP b 1),.o (.string (hi n)) 0 1 1] (lV 6 qF ?_ (hr:=rb kR (wt (eA d)))))))));exact ah (cK (aa a [.v (pB b),.o (mV (n%18446744073709551616)) 0 0 1,.c,.c] (af a [] (.tuple #[mV (n%18446744073709551616),qT]) (by rw[u9 d]))))
theorem AM (n:Nat)(c:18446744073709551616<=n)(w:World)(h:Hp)(g:G w h):CV 104 #[nv n] w h (.tuple #[uV 0,.bool false]):=by
 have a:=sS g;refine go Tryz.func104 [(0,nv n)] rfl (aG (lA 1 24 (nc n) a (fun b w2 d a=>lL a aF (ai (aa a [.v (qP b 1),.o (.string (hi n)) 0 1 1] (lV 6 qT ?_ (hr:=rb kR (xd (fC c)))))))));exact ak (aa a aF (af a [] (.tuple #[uV 0,qF]) rfl))
theorem Dl (a b:Nat)(w:World)(h:Hp)(g:G w h):CV 212 #[mV a,mV b] w h (iV (cX a b)):=by
 have c:=sS g;refine go Tryz.func212 [(0,mV a),(1,mV b)] rfl (aa c ac (ai (kZ (aa c aF ?_))));cases d:(decide ((a:Int)<(b:Int)))
 .
  have i:=oF d;refine lB 8 d (lL c ac (ah (aa c aF ?_)));cases e:(decide ((b:Int)<(a:Int)))
  .
   have f:=oF e;exact lB 12 e (lL c ac (ah (cK (aa c ac (af c [] (iV 0) (by rw[ij oM]))))))
  have f:=oT e;exact lB 12 e (lL c ac (ak (aa c ac (af c [] (iV 1) (by rw[eN oM])))))
 have i:=oT d;exact lB 8 d (lL c ac (ak (aa c ac (af c [] (iV (-1)) (by rw[dJ oM])))))
theorem ED (n:Nat)(c:n<18446744073709551616)(w:World)(h:Hp)(g:G w h):CV 105 #[nv n] w h (nV (nb n)):=by
 have a:=sS g;refine go Tryz.func105 [(0,nv n)] rfl (aG (lA 1 24 (nc n) a (fun b w2 f a=>lL a ac (ai (aa a [.v (qP b 1),.o (.string (hi n)) 0 1 1] (lV 5 qT ?_ (hr:=rb kR (iL (eA c)))))))));exact ak (aa a [.v (pB b),.o (mV (n%18446744073709551616)) 0 0 1] (aq 8 a (vZ (n%18446744073709551616) wM _ _ a.g) (fun d e a=>lL a ac (af a [] (nV (nb (n%18446744073709551616))) (by rw[u9 c])))))
theorem E5 (n:Nat)(e:18446744073709551616<=n)(D:(wds n).length<=1000000000)(w:World)(h:Hp)(g:G w h):CV 105 #[nv n] w h (nV (nb n)):=by
 have a:=sS g;have hz:=ir n;have z:=cC e;refine go Tryz.func105 [(0,nv n)] rfl (aG (lA 1 24 (nc n) a (fun b w2 B a=>lL a ac (ai (aa a [.v (qP b 1),.o (.string (hi n)) 0 1 1] (lV 5 qF ?_ (hr:=rb kR (gK (fC e)))))))));refine ah (cK (cQ (cR 14 [] mixed a aw ?_)));refine eV 0 9 (qP b 1) (eO 1 10 [(0,1,1)] (.string (hi n)) a (eV 2 11 (nV ((hi n).size)) (iR 3 12 (8*((hi n).size:Nat)) (8*(hi n).size) (eV 4 13 (qP b 1) (eO 5 14 [(0,1,1)] (.string (hi n)) a (eV 6 15 (qP b 1) (eO 7 16 [(0,1,1)] (.string (hi n)) a (eV 8 17 (nV ((hi n).size)) (iR 9 18 (((hi n).size:Nat)-8) (8*((wds n).length-2)) (eV 10 19 (.string ((hi n).extract (8*((wds n).length-2):Nat) (hi n).size)) ?_ (hv:=fun _=>fv (tx:=9) (x:=.tmp 14) (i:=.tmp 18) (k:=.i64) (s:=hi n) (n:=(8*((wds n).length-2):Nat)) (j:=((8*((wds n).length-2):Nat):Int)) kR kR kR kR oM oM _)))))))))));refine aK 11 20 a (fun _ _ a=>pe ((hi n).extract (8*((wds n).length-2):Nat) (hi n).size) (by rw[gX];omega) _ _ a.g) (fun p C a=>aK 12 21 a (fun _ _ a=>vZ (wv ((hi n).extract (8*((wds n).length-2):Nat) (hi n).size):Nat) wM _ _ a.g) (fun y l a=>?_));have d:=iN n ((wds n).length-2) oM;rw[show (wds n).length-2+1=(wds n).length-1 by omega] at d
 have c:=wH (n:=n) oM;have f:nb (wv ((hi n).extract (8*((wds n).length-2)) (hi n).size))<=64:=jr (k:=64) (CH _);rw[<-d] at c
 exact iR 13 22 ((8*(hi n).size:Nat)+(nb (wv ((hi n).extract (8*((wds n).length-2):Nat) (hi n).size):Nat):Nat)) (nb n) (cG a (fun F u a=>tV 14 2 (nV (nb n)) (tN (kX (a.ret [] (nV (nb n)) rfl)))))
theorem eJ (n:Nat)(a:(wds n).length<=1000000000)(w:World)(h:Hp)(g:G w h):CV 105 #[nv n] w h (nV (nb n)):=by
 rcases co n 18446744073709551616 with hs|hs
 ·exact ED n hs w h g
 ·exact E5 n hs a w h g
theorem q4 (a b:Nat)(V:(wds a).length<=1000000000)(W:(wds b).length<=1000000000)(w:World)(h:Hp)(g:G w h):CV 184 #[nv a,nv b] w h (iV (cX a b)):=by
 have c:=sS g;have M:=ir a;have X:=ir b;refine go Tryz.func184 [(0,nv a),(1,nv b)] rfl (aG (lA 2 24 (nc a) c (fun f w2 h3 c=>lA 3 24 (nc b) c (fun l Z Q c=>lL c ac (ai (aa c [.v (qP f 1),.o (.string (hi a)) 1 1 1,.v (nV ((hi a).size)),.v (qP l 1),.o (.string (hi b)) 0 1 1,.v (nV ((hi b).size))] ?_))))));cases e:((((hi a).size:Nat):Int) != (((hi b).size:Nat):Int))
 .
  have u:=az e;refine lB 14 e (ah (cK (cQ (aa c [.v (qP f 1),.o (.string (hi a)) 1 1 1,.v (nV ((hi a).size))] (lV 25 (iV (8*(((wds a).length-1:Nat):Int)-8)) ?_ (hr:=rS ((((hi a).size:Nat)-8)) kR ((dQ oM oM).trans oM)))))));refine lL c ac (bx ?_);refine bG _ (CG.loop (fun I Γ Y=>∃ (m:Nat)(h_:Hp),I=m/\Γ=[(2,pB f),(3,pB l),(5,iV (8*(m:Int)-8))]/\SS w h Y h_ [⟨l,24,nc b⟩,⟨f,24,nc a⟩] [] []/\m<=(wds a).length-1/\(wds a).length-1=(wds b).length-1/\(wds a).drop (m+1)=(wds b).drop (m+1)) _ ⟨(wds a).length-1,Q,rfl,rfl,c.to _ _,nR _,oM,(by rw[Jy oM,Jy oM])⟩ ?_);rintro _ _ w8 ⟨m,h9,J,rfl,c,hm,p,d⟩;refine cQ (aa c ac ?_);cases z:(decide ((0:Int)<=(8*(m:Int)-8:Int)))
  .
   have K:=oF z;refine lB 27 z (ah (CG.exit ?_))
   show CG _ _ _ _ _ _ _ _
   exact aa c [.v (pB f),.o (mV (a%18446744073709551616)) 1 0 1,.v (pB l),.o (mV (b%18446744073709551616)) 0 0 1] (aq 50 c (Dl (a%18446744073709551616) (b%18446744073709551616) _ _ c.g) (fun _ _ c=>lL c ac (af c [] (iV (cX (a%18446744073709551616) (b%18446744073709551616))) (by rw[pq (a:=a) (b:=b) oM (by have H:m=0:=oM;rw[H] at d;exact d)]))))
  have K:=oT z;refine lB 27 z (ak (cK (cQ (kZ (cQ ?_)))));have C:=c;refine xK 10 [] [] mixed c aw (eV 0 30 (qP f 1) (eO 1 31 [(1,1,1)] (.string (hi a)) c (eV 2 32 (iV (8*(m:Int)-8)) (eV 3 33 (.string ((hi a).extract (8*(m-1)) (hi a).size)) ?_ (hv:=fun _=>fv (tx:=9) (x:=.tmp 31) (i:=.tmp 32) (k:=.i64) (s:=hi a) (n:=8*(m-1)) (j:=(8*(m:Int)-8:Int)) kR kR kR kR oM oM _)))));refine eV 5 35 (qP l 1) (uA 6 36 [(0,1,1)] (.string (hi b)) C c (eV 7 37 (iV (8*(m:Int)-8)) (eV 8 38 (.string ((hi b).extract (8*(m-1)) (hi b).size)) ?_ (hv:=fun _=>fv (tx:=9) (x:=.tmp 36) (i:=.tmp 37) (k:=.i64) (s:=hi b) (n:=8*(m-1)) (j:=(8*(m:Int)-8:Int)) kR kR kR kR oM oM _))));refine aK 4 34 c (fun _ _ c=>pe ((hi a).extract (8*(m-1)) (hi a).size) (by rw[gX];omega) _ _ c.g) (fun _ _ c=>aK 9 39 c (fun _ _ c=>pe ((hi b).extract (8*(m-1)) (hi b).size) (by rw[gX];omega) _ _ c.g) (fun _ _ c=>cG c (fun _ S c=>tV 10 6 (mV (wv ((hi a).extract (8*(m-1)) (hi a).size))) (tV 11 7 (mV (wv ((hi b).extract (8*(m-1)) (hi b).size))) (As ?_)))));have D:=iN a (m-1) oM;have F:=iN b (m-1) oM;rw[show m-1+1=m by omega] at D F
  refine lL c aF ?_;cases y:(((wv ((hi a).extract (8*(m-1)) (hi a).size):Nat):Int) != ((wv ((hi b).extract (8*(m-1)) (hi b).size):Nat):Int))
  .
   have L:=az y;refine lB 42 y (ah (cK (kQ (lL c ac (lV 29 (iV (8*((m-1:Nat):Int)-8)) ?_ (hr:=rS (((8*(m:Int)-8)-8)) kR ((dQ oM oM).trans oM)))))));refine lL c ac (lD ?_);intro a_ U;refine ⟨_,_,?_,⟨m-1,S,rfl,rfl,c.to _ _,oM,p,(by rw[show m-1+1=m by omega];exact eK oM oM d oM)⟩,U.to _ kR⟩
   omega
  have L:=a7 y;exact lB 42 y (ak (aa c aF (aq 45 c (Dl (wv ((hi a).extract (8*(m-1)) (hi a).size):Nat) (wv ((hi b).extract (8*(m-1)) (hi b).size):Nat) _ _ c.g) (fun _ _ c=>lL c ac (af c [] (iV (cX (wv ((hi a).extract (8*(m-1)) (hi a).size):Nat) (wv ((hi b).extract (8*(m-1)) (hi b).size):Nat))) (by rw[iN a (m-1) oM,iN b (m-1) oM,show m-1+1=m by omega];exact congrArg (Value.int .i64) (kH oM oM d oM)))))))
 have u:=a7 e;refine lB 14 e (ak (cQ (aa c [.v (qP f 1),.o (.string (hi a)) 1 1 1,.v (nV ((hi a).size)),.v (qP l 1),.o (.string (hi b)) 0 1 1,.v (nV ((hi b).size))] ?_)));cases B:(decide ((((hi a).size:Nat):Int)<(((hi b).size:Nat):Int)))
 .
  have O:=oF B;exact lB 21 B (ah (cK (aa c ac (af c [] (iV 1) (by rw[eN (fB oM)])))))
 have O:=oT B;exact lB 21 B (ak (aa c ac (af c [] (iV (-1)) (by rw[dJ (fB oM)]))))
theorem qV (hi lo y:Nat)(X:hi<y)(hy:y<18446744073709551616)(hlo:lo<18446744073709551616)(w:World)(h:Hp)(g:G w h):CR 139 #[mV hi,mV lo,mV y] w h (fun v _=>∃ q r:Nat,v=.tuple #[uV q,uV r]/\hi*18446744073709551616+lo=y*q+r/\r<y/\q<18446744073709551616):=by
 have c:=sS g;refine go Tryz.func139 [(0,mV hi),(1,mV lo),(2,mV y)] rfl (aa c aF (ai (aa c ac ?_)));have V:((y:Int) == (0:Int))=false:=hC oM;have bl:=ao V;refine lB 20 V (ah (cK (cQ (aa c aF ?_))));have ⟨hb2,bm⟩:=dF (p:=(y:Int)<=(hi:Int)) oM;refine lB 24 hb2 (ah (cK (cQ (aa c ac ?_))));cases F:((hi:Int) == (0:Int))
 .
  have bb:=ao F;refine lB 27 F (ah (cK (aa c ac (aq 35 c (C5 y wM _ _ c.g) (fun w4 h5 c=>?_)))));obtain ⟨s,hsd⟩:∃ e,e=64-nb y:=⟨_,rfl⟩;refine lV 36 (mV s) ?_ (hr:=aN (aN (n:=IntKind.wrap .u64 ((64-nb y:Nat):Int)) kR (ay oM oM)) (by rw[hsd]));refine lL c ac (aE (lL c aF ?_));obtain ⟨Y,hY⟩:∃ e,e=y*2^s:=⟨_,rfl⟩;have hn:=r8 (y:=y) oM oM;rw[<-hsd,<-hY] at hn
  refine lV 39 (mV Y) ?_ (hr:=aN (gA (t:=22) (u:=159) (x:=.tmp 37) (y:=.tmp 38) (ky:=.u64) (a:=y) (n:=s) kR kR kR _) (by rw[<-hY,u9 hn.2]));refine lL c ac (aE (lL c ac ?_));obtain ⟨y1,hy1⟩:∃ e,e=Y/4294967296:=⟨_,rfl⟩;refine lV 41 (mV y1) ?_ (hr:=aN (aN (n:=Int.fdiv (Y:Int) 4294967296) kR (dI _ 4294967296)) (by rw[hy1]));refine lL c ac (aE (lL c ac ?_));obtain ⟨y0,hy0⟩:∃ e,e=Y%4294967296:=⟨_,rfl⟩;refine lV 43 (mV y0) ?_ (hr:=aN (rg (t:=22) (u:=22) (x:=.tmp 42) (y:=.const (uV 4294967295)) (a:=Y) (m:=4294967295) 32 kR kR kR oM kD _) (by rw[hy0]));refine lL c ac (aE (lL c aF ?_));have hhi:hi*2^s<Y:=by rw[hY];exact Jm X (A0 s)
  obtain ⟨H,hsl⟩:=BE (hi:=hi) (lo:=lo) (s:=s) oM hlo;have hdl:=zF lo (2^(64-s));have d:Y=y1*4294967296+y0:=by omega
  refine lV 46 (mV (hi*2^s)) ?_ (hr:=aN (gA (t:=22) (u:=159) (x:=.tmp 44) (y:=.tmp 45) (ky:=.u64) (a:=hi) (n:=s) kR kR kR _) (by rw[u9 oM]));refine lL c aF (lV 49 (mV (64-s)) ?_ (hr:=rU (((64:Int)-(s:Int))) kR (fh 64 s oM oM)));refine lV 50 (mV (lo/2^(64-s))) ?_ (hr:=fO (t:=22) (u:=159) (x:=.tmp 47) (y:=.tmp 49) (ky:=.u64) (a:=lo) (n:=(64-s)) kR kR kR oM _);obtain ⟨u32,hu32⟩:∃ e,e=hi*2^s+lo/2^(64-s):=⟨_,rfl⟩;rw[<-hu32] at H
  have C:u32<Y:=by
    have e2:(hi+1)*2^s<=y*2^s:=ua _ X;rw[I4,I6,<-hY] at e2
    omega
  refine lV 51 (mV u32) ?_ (hr:=aN (gc (t:=22) (u:=22) (x:=.tmp 46) (y:=.tmp 50) (a:=(hi*2^s)) (b:=(lo/2^(64-s))) kR kR kR oM oM _) (by rw[hu32,Nat.or_comm,fQ s hsl,Nat.add_comm]));refine lL c ac (aE (lL c aF ?_));obtain ⟨u10,hu10⟩:∃ e,e=lo*2^s%18446744073709551616:=⟨_,rfl⟩;rw[<-hu10] at H
  have bd:u10<18446744073709551616:=by omega
  refine lV 54 (mV u10) ?_ (hr:=aN (gA (t:=22) (u:=159) (x:=.tmp 52) (y:=.tmp 53) (ky:=.u64) (a:=lo) (n:=s) kR kR kR _) (by rw[hu10]));refine lL c ac (aE (lL c ac ?_));obtain ⟨u1,hu1⟩:∃ e,e=u10/4294967296:=⟨_,rfl⟩;refine lV 56 (mV u1) ?_ (hr:=aN (aN (n:=Int.fdiv (u10:Int) 4294967296) kR (dI _ 4294967296)) (by rw[hu1]));refine lL c ac (lN (bG [(2,mV Y),(6,uV 0),(7,uV 0),(8,mV s),(9,mV y1),(10,mV y0),(11,mV u32),(12,mV u10),(13,mV u1)] ?_));refine aa c ac ?_;obtain ⟨u0,hu0⟩:∃ e,e=u10%4294967296:=⟨_,rfl⟩;refine lV 58 (mV u0) ?_ (hr:=aN (rg (t:=22) (u:=22) (x:=.tmp 57) (y:=.const (uV 4294967295)) (a:=u10) (m:=4294967295) 32 kR kR kR oM kD _) (by rw[hu0]));refine lL c ac (aE (lL c aF ?_));have L:=lu (Y:=Y) (y1:=y1) (y0:=y0) (u:=u32) (u1:=u1) d oM oM oM C;have hR0:=mC (u:=u32) (y1:=y1) oM;have hM0:=Jg u32 y1;obtain ⟨qa,hqa⟩:∃ e,e=u32/y1:=⟨_,rfl⟩;rw[<-hqa] at L hR0 hM0
  refine lV 61 (mV qa) ?_ (hr:=aN (aN (db (t:=22) (u:=22) (x:=.tmp 59) (y:=.tmp 60) (k:=.u64) (a:=(u32:Int)) (b:=(y1:Int)) kR kR kR oM _) (jD u32 y1 oM)) (by rw[hqa]));refine lL c ac (aE (lL c dx (lV 65 (mV (qa*y1)) ?_ (hr:=rU (((qa:Int)*(y1:Int))) kR (d5 qa y1 oM)))));obtain ⟨ra,hra⟩:∃ e,e=u32-qa*y1:=⟨_,rfl⟩;rw[<-hra] at L hR0
  refine lV 66 (mV ra) ?_ (hr:=aN (aN (n:=IntKind.wrap .u64 ((u32:Int)-((qa*y1:Nat):Int))) kR (fh u32 (qa*y1) oM oM)) (by rw[hra]));refine lL c ac (lN (CG.join (fun Γ J=>∃ (l:Nat)(h_:Hp),Γ=[(2,mV Y),(6,uV 0),(7,uV 0),(8,mV s),(9,mV y1),(10,mV y0),(11,mV u32),(13,mV u1),(14,mV u0),(15,mV l)]/\SS w h J h_ [] [] []/\l=(u32*4294967296+u1)/Y/\(u32*4294967296+u1)-l*Y=(u32*4294967296+u1)%Y/\l*Y<=u32*4294967296+u1) ?_ ?_))
  .
   refine kZ ?_;refine bG _ (CG.loop (fun K Γ J=>∃ (q:Nat)(r:Nat)(h_:Hp),K=q/\Γ=[(2,mV Y),(6,uV 0),(7,uV 0),(8,mV s),(9,mV y1),(10,mV y0),(11,mV u32),(13,mV u1),(14,mV u0),(15,mV q),(16,mV r)]/\SS w h J h_ [] [] []/\HalfQ Y y1 y0 u32 u1 q r/\r<4294967296) _ ⟨qa,ra,h5,rfl,rfl,c.to _ _,L,oM⟩ ?_);rintro _ _ w6 ⟨q,r,Z,hm8,rfl,c,O,hr⟩;have br:=O.qb;refine cQ (aa c ac ?_);cases B:(decide ((4294967296:Int)<=(q:Int)))
   .
    have Q:=oF B;refine lB 68 B (lL c dx (lV 72 (mV (q*y0)) ?_ (hr:=rU (((q:Int)*(y0:Int))) kR (d5 q y0 (Dk oM oM)))));refine lL c ac (lV 74 (mV (4294967296*r)) ?_ (hr:=rU (((4294967296:Int)*(r:Int))) kR (d5 4294967296 r oM)));refine lL c ac (lV 76 (mV ((4294967296*r)+u1)) ?_ (hr:=rU ((((4294967296*r:Nat):Int)+(u1:Int))) kR (dj (4294967296*r) u1 oM)));cases za:(decide ((((4294967296*r)+u1:Nat):Int)<((q*y0:Nat):Int)))
    .
     have zj:=oF za;refine lB 77 za (lL c [.v qF] (ah (CG.exit ?_)));intro D j;exact ⟨_,⟨q,Z,rfl,c.to _ _,(by first|exact O.fin d oM|exact i.brk d oM oM (by have:=i.qb;omega))⟩,j.to _ kR⟩
    have zj:=oT za;refine lB 77 za (lL c [.v qT] (ak (cK (kZ (aa c ac ?_)))));have hq1:0<q:=by first|omega|exact dr (show 4294967296*r+u1<q*y0 by omega)
    have i:=O.dec d oM C (by first|exact .inl oM|exact .inr oM);refine lV 80 (mV (q-1)) ?_ (hr:=rU (((q:Int)-(1:Int))) kR (fh q 1 oM oM));refine lL c ac (aE (lL c aF (lV 83 (mV (r+y1)) ?_ (hr:=rU (((r:Int)+(y1:Int))) kR (dj r y1 oM)))));refine lL c ac (aE (lL c ac ?_));cases zb:(decide ((4294967296:Int)<=((r+y1:Nat):Int)))
    .
     have zk:=oF zb;refine lB 85 zb (ah (CG.skip ?_));intro D j;refine ⟨_,_,?_,⟨q-1,r+y1,Z,rfl,rfl,c.to _ _,i,oM⟩,j.to _ kR⟩
     omega
    have zk:=oT zb;refine lB 85 zb (ak (CG.exit ?_));intro D j;exact ⟨_,⟨(q-1),Z,rfl,c.to _ _,(by first|exact O.fin d oM|exact i.brk d oM oM (by have:=i.qb;omega))⟩,j.to _ kR⟩
   have Q:=oT B;refine lB 68 B (lL c ac (lG 70 ?_));refine lG 71 (lG 72 (lG 73 (lG 74 (lG 75 (lG 76 (lG 77 (lL c [.v qT] (ak (cK (kZ (aa c ac ?_)))))))))));have hq1:0<q:=by first|omega|exact dr (show 4294967296*r+u1<q*y0 by omega)
   have i:=O.dec d oM C (by first|exact .inl oM|exact .inr oM);refine lV 80 (mV (q-1)) ?_ (hr:=rU (((q:Int)-(1:Int))) kR (fh q 1 oM oM));refine lL c ac (aE (lL c aF (lV 83 (mV (r+y1)) ?_ (hr:=rU (((r:Int)+(y1:Int))) kR (dj r y1 oM)))));refine lL c ac (aE (lL c ac ?_));cases zc:(decide ((4294967296:Int)<=((r+y1:Nat):Int)))
   .
    have zl:=oF zc;refine lB 85 zc (ah (CG.skip ?_));intro D j;refine ⟨_,_,?_,⟨q-1,r+y1,Z,rfl,rfl,c.to _ _,i,oM⟩,j.to _ kR⟩
    omega
   have zl:=oT zc;refine lB 85 zc (ak (CG.exit ?_));intro D j;exact ⟨_,⟨(q-1),Z,rfl,c.to _ _,(by first|exact O.fin d oM|exact i.brk d oM oM (by have:=i.qb;omega))⟩,j.to _ kR⟩
  rintro _ _ ⟨l,zq,rfl,c,hF⟩;refine aG ?_;obtain ⟨W,hF2,hF3⟩:=hF;have hF4:=oQ (u1:=u1) C oM;rw[<-W] at hF4
  refine lL c ac (lV 87 (mV ((u32*4294967296)%18446744073709551616)) ?_ (hr:=rU (((u32:Int)*(4294967296:Int))) kR (jg u32 4294967296)));refine lL c ac (lV 89 (mV ((((u32*4294967296)%18446744073709551616)+u1)%18446744073709551616)) ?_ (hr:=rU (((((u32*4294967296)%18446744073709551616:Nat):Int)+(u1:Int))) kR (xA ((u32*4294967296)%18446744073709551616) u1)));refine lL c aF (lV 92 (mV ((l*Y)%18446744073709551616)) ?_ (hr:=rU (((l:Int)*(Y:Int))) kR (jg l Y)));obtain ⟨r1,hr1⟩:∃ e,e=(u32*4294967296+u1)%Y:=⟨_,rfl⟩;have z:r1<Y:=by rw[hr1];exact va _ oM
  refine lV 93 (mV r1) ?_ (hr:=aN (aN (n:=IntKind.wrap .u64 ((((((u32*4294967296)%18446744073709551616)+u1)%18446744073709551616:Nat):Int)-(((l*Y)%18446744073709551616:Nat):Int))) kR (kb ((((u32*4294967296)%18446744073709551616)+u1)%18446744073709551616:Nat) ((l*Y)%18446744073709551616) oM)) (by rw[mp hF3 (hF2.trans hr1.symm) oM]));refine lL c ac (aE (lL c aF ?_));have I:=lu (Y:=Y) (y1:=y1) (y0:=y0) (u:=r1) (u1:=u0) d oM oM oM z;have S:=mC (u:=r1) (y1:=y1) oM;have hL0:=Jg r1 y1;obtain ⟨qb,hqb⟩:∃ e,e=r1/y1:=⟨_,rfl⟩;rw[<-hqb] at I S hL0
  refine lV 96 (mV qb) ?_ (hr:=aN (aN (db (t:=22) (u:=22) (x:=.tmp 94) (y:=.tmp 95) (k:=.u64) (a:=(r1:Int)) (b:=(y1:Int)) kR kR kR oM _) (jD r1 y1 oM)) (by rw[hqb]));refine lL c ac (aE (lL c dx (lV 100 (mV (qb*y1)) ?_ (hr:=rU (((qb:Int)*(y1:Int))) kR (d5 qb y1 oM)))));obtain ⟨rb,hrb⟩:∃ e,e=r1-qb*y1:=⟨_,rfl⟩;rw[<-hrb] at I S
  refine lV 101 (mV rb) ?_ (hr:=aN (aN (n:=IntKind.wrap .u64 ((r1:Int)-((qb*y1:Nat):Int))) kR (fh r1 (qb*y1) oM oM)) (by rw[hrb]));refine lL c ac (lN (CG.join (fun Γ J=>∃ (o:Nat)(h_:Hp),Γ=[(2,mV Y),(6,uV 0),(7,uV 0),(8,mV s),(14,mV u0),(15,mV l),(17,mV r1),(18,mV o)]/\SS w h J h_ [] [] []/\o=(r1*4294967296+u0)/Y/\(r1*4294967296+u0)-o*Y=(r1*4294967296+u0)%Y/\o*Y<=r1*4294967296+u0) ?_ ?_))
  .
   refine kZ ?_;refine bG _ (CG.loop (fun K Γ J=>∃ (p:Nat)(t:Nat)(h_:Hp),K=p/\Γ=[(2,mV Y),(6,uV 0),(7,uV 0),(8,mV s),(9,mV y1),(10,mV y0),(14,mV u0),(15,mV l),(17,mV r1),(18,mV p),(16,mV t)]/\SS w h J h_ [] [] []/\HalfQ Y y1 y0 r1 u0 p t/\t<4294967296) _ ⟨qb,rb,zq,rfl,rfl,c.to _ _,I,oM⟩ ?_);rintro _ _ _ ⟨p,t,U,bp,rfl,c,M,ht⟩;have bk:=M.qb;refine cQ (aa c ac ?_);cases zd:(decide ((4294967296:Int)<=(p:Int)))
   .
    have zm:=oF zd;refine lB 103 zd (lL c dx (lV 107 (mV (p*y0)) ?_ (hr:=rU (((p:Int)*(y0:Int))) kR (d5 p y0 (Dk oM oM)))));refine lL c ac (lV 109 (mV (4294967296*t)) ?_ (hr:=rU (((4294967296:Int)*(t:Int))) kR (d5 4294967296 t oM)));refine lL c ac (lV 111 (mV ((4294967296*t)+u0)) ?_ (hr:=rU ((((4294967296*t:Nat):Int)+(u0:Int))) kR (dj (4294967296*t) u0 oM)));cases ze:(decide ((((4294967296*t)+u0:Nat):Int)<((p*y0:Nat):Int)))
    .
     have zn:=oF ze;refine lB 112 ze (lL c [.v qF] (ah (CG.exit ?_)));intro D j;exact ⟨_,⟨p,U,rfl,c.to _ _,(by first|exact M.fin d oM|exact f.brk d oM oM (by have:=f.qb;omega))⟩,j.to _ kR⟩
    have zn:=oT ze;refine lB 112 ze (lL c [.v qT] (ak (cK (kZ (aa c ac ?_)))));have hq2:0<p:=by first|omega|exact dr (show 4294967296*t+u0<p*y0 by omega)
    have f:=M.dec d oM z (by first|exact .inl oM|exact .inr oM);refine lV 115 (mV (p-1)) ?_ (hr:=rU (((p:Int)-(1:Int))) kR (fh p 1 oM oM));refine lL c ac (aE (lL c aF (lV 118 (mV (t+y1)) ?_ (hr:=rU (((t:Int)+(y1:Int))) kR (dj t y1 oM)))));refine lL c ac (aE (lL c ac ?_));cases zf:(decide ((4294967296:Int)<=((t+y1:Nat):Int)))
    .
     have zo:=oF zf;refine lB 120 zf (ah (CG.skip ?_));intro D j;refine ⟨_,_,?_,⟨p-1,t+y1,U,rfl,rfl,c.to _ _,f,oM⟩,j.to _ kR⟩
     omega
    have zo:=oT zf;refine lB 120 zf (ak (CG.exit ?_));intro D j;exact ⟨_,⟨(p-1),U,rfl,c.to _ _,(by first|exact M.fin d oM|exact f.brk d oM oM (by have:=f.qb;omega))⟩,j.to _ kR⟩
   have zm:=oT zd;refine lB 103 zd (lL c ac (lG 105 ?_));refine lG 106 (lG 107 (lG 108 (lG 109 (lG 110 (lG 111 (lG 112 (lL c [.v qT] (ak (cK (kZ (aa c ac ?_)))))))))));have hq2:0<p:=by first|omega|exact dr (show 4294967296*t+u0<p*y0 by omega)
   have f:=M.dec d oM z (by first|exact .inl oM|exact .inr oM);refine lV 115 (mV (p-1)) ?_ (hr:=rU (((p:Int)-(1:Int))) kR (fh p 1 oM oM));refine lL c ac (aE (lL c aF (lV 118 (mV (t+y1)) ?_ (hr:=rU (((t:Int)+(y1:Int))) kR (dj t y1 oM)))));refine lL c ac (aE (lL c ac ?_));cases zg:(decide ((4294967296:Int)<=((t+y1:Nat):Int)))
   .
    have zp:=oF zg;refine lB 120 zg (ah (CG.skip ?_));intro D j;refine ⟨_,_,?_,⟨p-1,t+y1,U,rfl,rfl,c.to _ _,f,oM⟩,j.to _ kR⟩
    omega
   have zp:=oT zg;refine lB 120 zg (ak (CG.exit ?_));intro D j;exact ⟨_,⟨(p-1),U,rfl,c.to _ _,(by first|exact M.fin d oM|exact f.brk d oM oM (by have:=f.qb;omega))⟩,j.to _ kR⟩
  rintro _ _ ⟨o,_,rfl,c,hE⟩;refine aG ?_;obtain ⟨hE1,hE2,hE3⟩:=hE;have hE4:=oQ (u1:=u0) z oM;rw[<-hE1] at hE4
  refine lL c ac (lV 122 (mV (l*4294967296)) ?_ (hr:=rU (((l:Int)*(4294967296:Int))) kR (d5 l 4294967296 oM)));refine lL c ac (lV 124 (mV ((l*4294967296)+o)) ?_ (hr:=rU ((((l*4294967296:Nat):Int)+(o:Int))) kR (dj (l*4294967296) o oM)));refine lL c ac (lV 126 (mV ((r1*4294967296)%18446744073709551616)) ?_ (hr:=rU (((r1:Int)*(4294967296:Int))) kR (jg r1 4294967296)));refine lL c ac (lV 128 (mV ((((r1*4294967296)%18446744073709551616)+u0)%18446744073709551616)) ?_ (hr:=rU (((((r1*4294967296)%18446744073709551616:Nat):Int)+(u0:Int))) kR (xA ((r1*4294967296)%18446744073709551616) u0)));refine lL c aF (lV 131 (mV ((o*Y)%18446744073709551616)) ?_ (hr:=rU (((o:Int)*(Y:Int))) kR (jg o Y)));obtain ⟨R,hR⟩:∃ e,e=(r1*4294967296+u0)%Y:=⟨_,rfl⟩;have hRY:R<Y:=by rw[hR];exact va _ oM
  refine lV 132 (mV R) ?_ (hr:=aN (aN (n:=IntKind.wrap .u64 ((((((r1*4294967296)%18446744073709551616)+u0)%18446744073709551616:Nat):Int)-(((o*Y)%18446744073709551616:Nat):Int))) kR (kb ((((r1*4294967296)%18446744073709551616)+u0)%18446744073709551616:Nat) ((o*Y)%18446744073709551616) oM)) (by rw[mp hE3 (hE2.trans hR.symm) oM]));refine lL c ac (lV 134 (mV (R/2^s)) ?_ (hr:=fO (t:=22) (u:=159) (x:=.tmp 132) (y:=.tmp 133) (ky:=.u64) (a:=R) (n:=s) kR kR kR oM _));refine lL c aF (lN (kX ?_));obtain ⟨hB1,hB2⟩:=ui (A:=hi*18446744073709551616+lo) (y:=y) hY H (show u10=u1*4294967296+u0 by omega) oM W hr1 hE1 hR;exact c.ret [] (.tuple #[mV ((l*4294967296)+o),mV (R/2^s)]) (⟨_,_,rfl,hB1,hB2,by omega⟩)
 have bb:=eq_of_beq F;refine lB 27 F (ak (cQ (cR 6 [] mixed c aw ?_)));refine eV 0 28 (mV lo) (eV 1 29 (mV y) (eV 2 30 (mV (lo/y)) ?_ (hv:=fun _=>aN (db (t:=22) (u:=22) (x:=.tmp 28) (y:=.tmp 29) (k:=.u64) (a:=(lo:Int)) (b:=(y:Int)) kR kR kR oM _) (jD lo y oM))));refine eV 3 31 (mV lo) (eV 4 32 (mV y) (eV 5 33 (mV (lo%y)) ?_ (hv:=fun _=>aN (d4 (t:=22) (u:=22) (x:=.tmp 31) (y:=.tmp 32) (k:=.u64) (a:=(lo:Int)) (b:=(y:Int)) kR kR kR oM _) (cM lo y))));refine cG c (fun _ _ c=>tV 6 6 (mV (lo/y)) (tV 7 7 (mV (lo%y)) (tN (kX ?_))));have hdm:=I7 lo y;have hml:=va lo (show 0<y by omega);have bq:=zF lo y;have hh0:hi=0:=by omega
 subst hh0;exact c.ret [] (.tuple #[mV (lo/y),mV (lo%y)]) (⟨lo/y,lo%y,rfl,by rw[s9,tv];exact hdm.symm,hml,by omega⟩)
def AY (h1:Hp)(v:Value)(m:Nat)(Q:List Nat->Prop):Prop:=∃ A c,∃ z:List Nat,v=.slice A z.length c/\z.length<=c/\z.length=m/\Wd z/\Q z/\SlO 1 ar 0 h1 A z
theorem Wd.set {l:List Nat}(h:Wd l)(k:Nat){x:Nat}(a:x<18446744073709551616):Wd (l.set k x):=Dg.set h k a
theorem Wd.rep (n:Nat):Wd (um n 0):=Dg.rep kD
theorem o4 {l:List Nat}{k j x:Nat}(a:k<l.length)(h:∀ i,j<=i->l.getD i 0=0)(b:k<j):∀ i,j<=i->(l.set k x).getD i 0=0:=fun i hi=>by rw[bB a,if_neg oM];exact h i hi
theorem CE (A:Z9)(c:Nat)(x:List Nat)(D:Z9)(d:Nat)(y:List Nat)(hx:Wd x)(hy:Wd y)(hlx:x.length<=1000000000)(hly:y.length<=1000000000)(w:World)(h:Hp)(g:G w h)(hA:SlO 1 ar 0 h A x)(hD:SlO 1 ar 0 h D y):CR 224 #[.slice A x.length c,.slice D y.length d] w h (fun v h1=>AY h1 v (x.length+y.length) (fun z=>aA z=aA x*aA y)):=by
 have e:=(((sS g).aS hA).aS hD);refine go Tryz.func224 [(0,qS A x.length c),(1,qS D y.length d)] rfl (aa e ac (aE (lL e [.c,.v (nV x.length),.c,.v (nV y.length)] (bg 19 ((x.length:Nat)+(y.length:Nat)) (x.length+y.length) ?_))));refine lK 20 22 (x.length+y.length) 1 8 (uV 0) ar 0 e (fun B w2 h3 e=>?_);have hl4:(um (x.length+y.length) 0).length=(x.length+y.length):=by simp
 refine lL e ac (ai (aa e [.c,.v (nV x.length),.c] (bx ?_)));refine bG _ (CG.loop (fun S Γ w_=>∃ (i:Nat)(l:List Nat)(F:Hp),S=x.length-i/\Γ=[(1,qS D y.length d),(4,sZ),(5,qS (sB B) (x.length+y.length) (x.length+y.length)),(21,qS A x.length c),(22,nV x.length),(23,nV i)]/\SS w h w_ F [⟨B,22,(l).flatMap ar⟩] [] [fun F=>SlO 1 ar 0 F D y,fun F=>SlO 1 ar 0 F A x]/\i<=x.length/\l.length=x.length+y.length/\Wd l/\aA l=am 18446744073709551616 (x.take i)*aA y/\(∀ k,i+y.length<=k->l.getD k 0=0)) _ ⟨0,um (x.length+y.length) 0,h3,rfl,rfl,e.to _ _,JF _,hl4,Wd.rep _,(by show am _ _=_;rw[di];simp[am]),fun k _=>dG⟩ ?_);rintro _ _ w5 ⟨i,l,h6,hm7,rfl,e,hi,Q,hW,hv,hz⟩;refine aG ?_;cases J:(decide ((i:Int)<(x.length:Int)))
 .
  have W:=oF J;refine lB 24 J (ai (cV (CG.exit ?_)))
  show CG _ _ _ _ _ _ _ _
  refine aa e aF (lN (kX ?_));have hix:i=x.length:=by omega
  rw[hix,s1] at hv
  obtain ⟨h9,e,V,b3,b0⟩:=e.pub 0;replace e:=(e.to [] []).aS (SlO.of_flat (sz:=1) (f:=ar) (d:=0) (b:=B) (o:=0) (l:=l) (fun _=>rfl) V);exact e.ret [] (qS (sB B) (x.length+y.length) (x.length+y.length)) (⟨sB B,_,l,by rw[Q],by omega,Q,hW,hv,e.f.1⟩)
 have W:=oT J;refine lB 24 J (ai (ci (cK (cQ (kZ (aa e ac (lX 26 A x.length c 1 (i:Nat) i ((e.f.2.1).ok oM) ?_)))))));refine lH 27 (mV (x.getD i 0)) e ((e.f.2.1).el i oM) (lL e aF (aE (lL e ac (ai (aa e [.c,.v (nV y.length),.c] (bx ?_))))));refine bG _ (CG.loop (fun S Γ w_=>∃ (j:Nat)(l2:List Nat)(H:Nat)(F:Hp),S=y.length-j/\Γ=[(1,qS D y.length d),(4,sZ),(5,qS (sB B) (x.length+y.length) (x.length+y.length)),(21,qS A x.length c),(22,nV x.length),(23,nV i),(6,nV i),(7,mV (x.getD i 0)),(28,qS D y.length d),(29,nV y.length),(30,nV j),(8,mV H)]/\SS w h w_ F [⟨B,22,(l2).flatMap ar⟩] [] [fun F=>SlO 1 ar 0 F D y,fun F=>SlO 1 ar 0 F A x]/\j<=y.length/\l2.length=x.length+y.length/\Wd l2/\H<18446744073709551616/\am 18446744073709551616 l2+18446744073709551616^(i+j)*H=aA l+18446744073709551616^i*(x.getD i 0*am 18446744073709551616 (y.take j))/\(∀ k,i+y.length<=k->l2.getD k 0=0)) _ ⟨0,l,0,h6,rfl,rfl,e.to _ _,JF _,Q,hW,by omega,(by show am _ l+_=am _ l+_;simp[am]),hz⟩ ?_);rintro _ _ _ ⟨j,l2,H,zi,bq,rfl,e,hj,K,L,hc,M,O⟩;have hlk:=L.get (i+j);refine aG ?_;cases Z:(decide ((j:Int)<(y.length:Int)))
 .
  have zd:=oF Z;refine lB 31 Z (ai (cV (CG.exit ?_)))
  show CG _ _ _ _ _ _ _ _
  refine kQ (lL e [.c,.c,.c,.v (nV y.length)] (bg 75 ((i:Nat)+(y.length:Nat)) (i+y.length) ?_));refine lL e ac (lX 77 (sB B) (x.length+y.length) (x.length+y.length) 1 (i+y.length:Nat) (i+y.length) rfl ?_);refine lW 0 l2 ar 1 (i+y.length) H e oM (fun _ e=>?_);have zf:((l2).set (i+y.length) H).length=(x.length+y.length):=by rw[Jr];exact K
  replace e:=e.to [⟨B,22,((l2).set (i+y.length) H).flatMap ar⟩] [];refine lN (kQ (bg 78 ((i:Nat)+1) (i+1) ?_));refine lL e ac (lD ?_);intro a_ ka;refine ⟨_,_,?_,⟨i+1,(l2).set (i+y.length) H,zi,rfl,rfl,e.to _ _,oM,zf,(L.set _ hc),(by have hjy:j=y.length:=oM;rw[hjy] at M;exact (rR oM M (O _ oM)).trans (rE hv)),(o4 oM (fun k hk=>O k oM) oM)⟩,ka.to _ kR⟩
  omega
 have zd:=oT Z;refine lB 31 Z (ai (ci (cK (cQ (kZ (aa e ac (lX 33 D y.length d 1 (j:Nat) j ((e.f.1).ok oM) ?_)))))));refine lH 34 (mV (y.getD j 0)) e ((e.f.1).el j oM) (lL e aF (aE (lL e aF (lC 38 e (l9 (x.getD i 0) (y.getD j 0) wM wM _ _ e.g) ?_))));rintro _ _ zj e ⟨p,ze,rfl,b4,bd,bm,bw⟩;have bb:=gN (a:=(x.getD i 0)) (b:=(y.getD j 0)) wM wM;refine lL e [.c,.v (mV p),.v (mV ze),.c,.c] (aE (lL e m4 (bg 46 ((i:Nat)+(j:Nat)) (i+j) ?_)));refine lX 47 (sB B) (x.length+y.length) (x.length+y.length) 1 (i+j:Nat) (i+j) rfl (lQ 48 0 l2 ar 1 0 (i+j) (mV ((l2).getD (i+j) 0)) e oM ?_);obtain ⟨I,C,bt,br,b2,X⟩:=dM ze ((l2).getD (i+j) 0) 0 wM wM oM;refine lV 49 (.tuple #[mV I,mV C]) ?_ (hr:=dV kR (X _));refine lL e [.c,.v (mV I),.v (mV C),.c,.c] (aE (lL e aF (lV 54 (mV (p+C)) ?_ (hr:=rU (((p:Int)+(C:Int))) kR (dj p C oM)))));refine lL e ac (lN (bG [(1,qS D y.length d),(4,sZ),(5,qS (sB B) (x.length+y.length) (x.length+y.length)),(21,qS A x.length c),(22,nV x.length),(23,nV i),(6,nV i),(7,mV (x.getD i 0)),(28,qS D y.length d),(29,nV y.length),(30,nV j),(8,mV H),(9,nV j),(11,mV (p+C)),(13,mV I),(14,mV C)] ?_));refine aa e aF ?_;obtain ⟨u,U,bl,bp,bk,Y⟩:=dM I H 0 wM wM oM;refine lV 58 (.tuple #[mV u,mV U]) ?_ (hr:=dV kR (Y _));refine lL e [.c,.v (mV u),.v (mV U),.c,.c] (lN (kQ (lL e dx (bg 64 ((i:Nat)+(j:Nat)) (i+j) ?_))));refine lL e dx (lV 68 (mV ((p+C)+U)) ?_ (hr:=rU ((((p+C:Nat):Int)+(U:Int))) kR (dj (p+C) U oM)));refine lX 69 (sB B) (x.length+y.length) (x.length+y.length) 1 (i+j:Nat) (i+j) rfl (lW 0 l2 ar 1 (i+j) u e oM (fun _ e=>?_));have zg:((l2).set (i+j) u).length=(x.length+y.length):=by rw[Jr];exact K
 replace e:=e.to [⟨B,22,((l2).set (i+j) u).flatMap ar⟩] [];refine lL e ac (lN (kQ (bg 70 ((j:Nat)+1) (j+1) ?_)));refine lL e ac (lD ?_);intro a_ ka;refine ⟨_,_,?_,⟨j+1,(l2).set (i+j) u,((p+C)+U),zj,rfl,rfl,e.to _ _,oM,zg,(L.set _ oM),oM,(lm oM M oM),(o4 oM O oM)⟩,ka.to _ kR⟩
 omega
theorem Ch {x:List Nat}(a:Wd x){n:Nat}(h:x.length<=n/64):aA x<2^n:=by
 have h1:=bW a;have b:(18446744073709551616:Nat)^x.length=2^(64*x.length):=by rw[Bs]
 have c:(2:Nat)^(64*x.length)<=2^n:=A4 oM oM
 show am _ x<_
 omega
theorem mw {l:List Nat}{k x:Nat}(a:k<l.length)(h:∀ i,k<=i->l.getD i 0=0):∀ i,k+1<=i->(l.set k x).getD i 0=0:=fun i hi=>by rw[bB a,if_neg oM];exact h i oM
theorem wE (A:Z9)(c:Nat)(x:List Nat)(hx:Wd x)(hlx:x.length<=1000000000)(n:Nat)(hn:n<=1000000000)(w:World)(h:Hp)(g:G w h)(hA:SlO 1 ar 0 h A x):CR 247 #[.slice A x.length c,nV n] w h (fun v h1=>AY h1 v (x.length+n/64+1) (fun z=>aA z=aA x*2^n)):=by
 have e:=((sS g).aS hA);refine go Tryz.func247 [(0,qS A x.length c),(1,nV n)] rfl (aa e ac (aE (lL e ac (lV 11 (nV (n/64)) ?_ (hr:=aN (db (t:=3) (u:=3) (x:=.tmp 10) (y:=.const (iV 64)) (k:=.i64) (a:=(n:Int)) (b:=(64:Int)) kR kR kR oM _) (de n 64 oM))))));refine lL e ac (lV 13 (nV (n%64)) ?_ (hr:=aN (d4 (t:=3) (u:=3) (x:=.tmp 12) (y:=.const (iV 64)) (k:=.i64) (a:=(n:Int)) (b:=(64:Int)) kR kR kR oM _) (cM n 64)));refine lV 14 (mV (n%64)) ?_ (hr:=rU (((n%64:Nat):Int)) kR (ay oM oM));refine lL e aF (aE (lL e [.c,.v (nV x.length),.c] (bg 18 ((x.length:Nat)+(n/64:Nat)) (x.length+(n/64)) ?_)));refine bg 19 ((x.length+(n/64):Nat)+1) ((x.length+(n/64))+1) (lK 20 22 ((x.length+(n/64))+1:Nat) 1 8 (uV 0) ar 0 e (fun j w2 h3 e=>?_));have J:(um ((x.length+(n/64))+1:Nat) 0).length=((x.length+(n/64))+1:Nat):=by simp
 refine lL e ac (ai (aa e [.c,.v (nV x.length),.c] (bx ?_)));refine bG _ (CG.loop (fun O Γ w_=>∃ (i:Nat)(l:List Nat)(M:Hp),O=x.length-i/\Γ=[(4,sZ),(5,nV (n/64)),(6,mV (n%64)),(7,qS (sB j) ((x.length+(n/64))+1:Nat) ((x.length+(n/64))+1:Nat)),(21,qS A x.length c),(22,nV x.length),(23,nV i)]/\SS w h w_ M [⟨j,22,(l).flatMap ar⟩] [] [fun M=>SlO 1 ar 0 M A x]/\i<=x.length/\l.length=x.length+n/64+1/\Wd l/\aA l=2^(n%64)*(18446744073709551616^(n/64)*am 18446744073709551616 (x.take i))/\l.getD (i+n/64) 0<2^(n%64)/\(∀ k,i+n/64+1<=k->l.getD k 0=0)) _ ⟨0,um ((x.length+(n/64))+1:Nat) 0,h3,rfl,rfl,e.to _ _,JF _,J,Wd.rep _,(by show am _ _=_;rw[di];simp[am]),(by rw[dG];exact A0 _),fun k _=>dG⟩ ?_);rintro _ _ w5 ⟨i,l,h6,Z,rfl,e,hi,C,U,hv,ho,hz⟩;refine aG ?_;cases B:(decide ((i:Int)<(x.length:Int)))
 .
  have F:=oF B;refine lB 24 B (ai (cV (CG.exit ?_)))
  show CG _ _ _ _ _ _ _ _
  refine aa e aF (lN (kX ?_));have K:i=x.length:=by omega
  rw[K,s1] at hv
  obtain ⟨h9,e,D,W,V⟩:=e.pub 0;replace e:=(e.to [] []).aS (SlO.of_flat (sz:=1) (f:=ar) (d:=0) (b:=j) (o:=0) (l:=l) (fun _=>rfl) D);exact e.ret [] (qS (sB j) ((x.length+(n/64))+1:Nat) ((x.length+(n/64))+1:Nat)) (⟨sB j,_,l,by rw[C],by omega,C,U,(by show aA l=_;rw[hv,vJ n];show _*(_*aA x)=_;ac_rfl),e.f.1⟩)
 have F:=oT B;refine lB 24 B (ai (ci (cK (cQ (kZ (aa e ac (lX 26 A x.length c 1 (i:Nat) i ((e.f.1).ok oM) ?_)))))));refine lH 27 (mV (x.getD i 0)) e ((e.f.1).el i oM) (lL e aF (aE (lL e dx (bg 31 ((i:Nat)+(n/64:Nat)) (i+(n/64)) ?_))));refine lX 32 (sB j) ((x.length+(n/64))+1:Nat) ((x.length+(n/64))+1:Nat) 1 (i+(n/64):Nat) (i+(n/64)) rfl (lQ 33 0 l ar 1 0 (i+(n/64)) (mV ((l).getD (i+(n/64)) 0)) e oM (lL e aF (lV 36 (mV ((x.getD i 0)*2^(n%64)%18446744073709551616)) ?_ (hr:=gA (t:=22) (u:=159) (x:=.tmp 34) (y:=.tmp 35) (ky:=.u64) (a:=(x.getD i 0)) (n:=(n%64)) kR kR kR _))));have L:=hx.get i;obtain ⟨S,H,I,Q⟩:=uF (x:=x.getD i 0) (p:=n%64) (o:=l.getD (i+n/64) 0) oM L ho;have hlg:=U.get (i+n/64);refine lV 37 (mV (l.getD (i+n/64) 0+x.getD i 0*2^(n%64)%18446744073709551616)) ?_ (hr:=aN (gc (t:=22) (u:=22) (x:=.tmp 33) (y:=.tmp 36) (a:=((l).getD (i+(n/64)) 0:Nat)) (b:=((x.getD i 0)*2^(n%64)%18446744073709551616)) kR kR kR oM oM _) (by rw[S]));refine lX 38 (sB j) ((x.length+(n/64))+1:Nat) ((x.length+(n/64))+1:Nat) 1 (i+(n/64):Nat) (i+(n/64)) rfl (lW 0 l ar 1 (i+(n/64)) (l.getD (i+n/64) 0+x.getD i 0*2^(n%64)%18446744073709551616) e oM (fun _ e=>?_));have Y:((l).set (i+(n/64)) (l.getD (i+n/64) 0+x.getD i 0*2^(n%64)%18446744073709551616)).length=((x.length+(n/64))+1:Nat):=by rw[Jr];exact C
 replace e:=e.to [⟨j,22,((l).set (i+(n/64)) (l.getD (i+n/64) 0+x.getD i 0*2^(n%64)%18446744073709551616)).flatMap ar⟩] [];refine lN (kQ (lL e dx (bg 42 ((i:Nat)+(n/64:Nat)) (i+(n/64)) ?_)));refine bg 43 ((i+(n/64):Nat)+1) ((i+(n/64))+1) (lL e aF (lV 46 (mV (64-(n%64))) ?_ (hr:=rU (((64:Int)-((n%64:Nat):Int))) kR (fh 64 (n%64) oM oM))));refine lV 47 (mV ((x.getD i 0)/2^(64-(n%64)))) ?_ (hr:=fO (t:=22) (u:=159) (x:=.tmp 44) (y:=.tmp 46) (ky:=.u64) (a:=(x.getD i 0)) (n:=(64-(n%64))) kR kR kR oM _);refine lX 48 (sB j) ((x.length+(n/64))+1:Nat) ((x.length+(n/64))+1:Nat) 1 ((i+(n/64))+1:Nat) ((i+(n/64))+1:Nat) rfl (lW 0 ((l).set (i+(n/64)) (l.getD (i+n/64) 0+x.getD i 0*2^(n%64)%18446744073709551616)) ar 1 ((i+(n/64))+1:Nat) ((x.getD i 0)/2^(64-(n%64)):Nat) e oM (fun _ e=>?_));have X:(((l).set (i+(n/64)) (l.getD (i+n/64) 0+x.getD i 0*2^(n%64)%18446744073709551616)).set ((i+(n/64))+1:Nat) ((x.getD i 0)/2^(64-(n%64)):Nat)).length=((x.length+(n/64))+1:Nat):=by rw[Jr];exact Y
 replace e:=e.to [⟨j,22,(((l).set (i+(n/64)) (l.getD (i+n/64) 0+x.getD i 0*2^(n%64)%18446744073709551616)).set ((i+(n/64))+1:Nat) ((x.getD i 0)/2^(64-(n%64)):Nat)).flatMap ar⟩] [];refine lN (kQ (bg 49 ((i:Nat)+1) (i+1) ?_));refine lL e ac (lD ?_);intro a_ ka;refine ⟨_,_,?_,⟨i+1,((l).set (i+(n/64)) (l.getD (i+n/64) 0+x.getD i 0*2^(n%64)%18446744073709551616)).set ((i+(n/64))+1:Nat) ((x.getD i 0)/2^(64-(n%64)):Nat),h6,rfl,rfl,e.to _ _,oM,X,((U.set _ H).set _ (by have:=zF (x.getD i 0) (2^(64-n%64));omega)),(wQ oM hv (hz _ oM) I rfl rfl),(by rw[show i+1+n/64=i+n/64+1 by omega,bB (by rw[Jr];omega),if_pos rfl];exact Q),(fun k hk=>by rw[bB (by rw[Jr];omega),if_neg oM,bB oM,if_neg oM];exact hz k oM)⟩,ka.to _ kR⟩
 omega
theorem FM (A:Z9)(c:Nat)(x:List Nat)(U:Wd x)(hlx:x.length<=1000000000)(n:Nat)(hn:n<=1000000000)(w:World)(h:Hp)(g:G w h)(hA:SlO 1 ar 0 h A x):CR 249 #[.slice A x.length c,nV n] w h (fun v h1=>AY h1 v (x.length-n/64) (fun z=>aA z=aA x/2^n)):=by
 have e:=((sS g).aS hA);refine go Tryz.func249 [(0,qS A x.length c),(1,nV n)] rfl (aa e ac (aE (lL e ac (lV 10 (nV (n/64)) ?_ (hr:=aN (db (t:=3) (u:=3) (x:=.tmp 9) (y:=.const (iV 64)) (k:=.i64) (a:=(n:Int)) (b:=(64:Int)) kR kR kR oM _) (de n 64 oM))))));refine lL e ac (lV 12 (nV (n%64)) ?_ (hr:=aN (d4 (t:=3) (u:=3) (x:=.tmp 11) (y:=.const (iV 64)) (k:=.i64) (a:=(n:Int)) (b:=(64:Int)) kR kR kR oM _) (cM n 64)));refine lV 13 (mV (n%64)) ?_ (hr:=rU (((n%64:Nat):Int)) kR (ay oM oM));refine lL e aF (ai (aa e [.c,.c,.v (nV x.length)] ?_));cases D:(decide ((x.length:Int)<=((n/64:Nat):Int)))
 .
  have K:=oF D;refine lB 17 D (ah (cK (aa e [.c,.v (nV x.length),.c] (bg 21 ((x.length:Nat)-(n/64:Nat)) (x.length-(n/64)) ?_))));refine lK 22 22 (x.length-(n/64)) 1 8 (uV 0) ar 0 e (fun B w3 h4 e=>?_);have Z:(um (x.length-(n/64)) 0).length=(x.length-(n/64)):=by simp
  refine lL e ac (ai (aa e [.c,.v (nV (x.length-(n/64))),.c] (bx ?_)));refine bG _ (CG.loop (fun Y Γ w_=>∃ (i:Nat)(l:List Nat)(X:Hp),Y=x.length-n/64-i/\Γ=[(0,qS A x.length c),(4,sZ),(5,nV (n/64)),(6,mV (n%64)),(7,qS (sB B) (x.length-(n/64)) (x.length-(n/64))),(24,nV (x.length-(n/64))),(25,nV i)]/\SS w h w_ X [⟨B,22,(l).flatMap ar⟩] [] [fun X=>SlO 1 ar 0 X A x]/\i<=x.length-n/64/\l.length=x.length-n/64/\Wd l/\2^(n%64)*am 18446744073709551616 l+(x.drop (n/64)).getD 0 0%2^(n%64)=am 18446744073709551616 ((x.drop (n/64)).take i)+18446744073709551616^i*((x.drop (n/64)).getD i 0%2^(n%64))/\(∀ k,i<=k->l.getD k 0=0)) _ ⟨0,um (x.length-(n/64)) 0,h4,rfl,rfl,e.to _ _,JF _,Z,Wd.rep _,(by rw[di];simp[am]),fun k _=>dG⟩ ?_);rintro _ _ w6 ⟨i,l,h7,hm8,rfl,e,hi,J,hW,F,hz⟩;refine aG ?_;cases C:(decide ((i:Int)<(((x.length-(n/64)):Nat):Int)))
  .
   have H:=oF C;refine lB 26 C (ai (cV (CG.exit ?_)))
   show CG _ _ _ _ _ _ _ _
   refine aa e aF (lN (kX ?_));have hix:i=x.length-n/64:=by omega
   have hE:=Cb (W:=x.drop (n/64)) (m:=i) (by rw[I9];omega) F;rw[mF U oM,Nat.div_div_eq_div_mul,<-vJ n] at hE
   obtain ⟨_,e,L,bd,bb⟩:=e.pub 0;replace e:=(e.to [] []).aS (SlO.of_flat (sz:=1) (f:=ar) (d:=0) (b:=B) (o:=0) (l:=l) (fun _=>rfl) L);exact e.ret [] (qS (sB B) (x.length-(n/64)) (x.length-(n/64))) (⟨sB B,_,l,by rw[J],by omega,by omega,hW,hE,e.f.1⟩)
  have H:=oT C;refine lB 26 C (ai (ci (cK (cQ (kZ (aa e aF (aE (lL e m5 (bg 33 ((i:Nat)+(n/64:Nat)) (i+(n/64)) ?_)))))))));refine lX 34 A x.length c 1 (i+(n/64):Nat) (i+(n/64)) ((e.f.1).ok oM) (lH 35 (mV (x.getD (i+(n/64)) 0)) e ((e.f.1).el (i+(n/64)) oM) (lL e ac ?_));have S:=U.get (i+n/64);refine lV 37 (mV ((x.getD (i+(n/64)) 0:Nat)/2^(n%64))) ?_ (hr:=fO (t:=22) (u:=159) (x:=.tmp 35) (y:=.tmp 36) (ky:=.u64) (a:=(x.getD (i+(n/64)) 0:Nat)) (n:=(n%64)) kR kR kR oM _);refine lX 38 (sB B) (x.length-(n/64)) (x.length-(n/64)) 1 (i:Nat) i rfl (lW 0 l ar 1 i ((x.getD (i+(n/64)) 0:Nat)/2^(n%64):Nat) e oM (fun _ e=>?_));have zb:((l).set i ((x.getD (i+(n/64)) 0:Nat)/2^(n%64):Nat)).length=(x.length-(n/64)):=by rw[Jr];exact J
  replace e:=e.to [⟨B,22,((l).set i ((x.getD (i+(n/64)) 0:Nat)/2^(n%64):Nat)).flatMap ar⟩] [];refine aE (lL e aF (bg 41 ((i:Nat)+(n/64:Nat)) (i+(n/64)) ?_));refine bg 42 ((i+(n/64):Nat)+1) ((i+(n/64))+1) (lL e [.c,.v (nV x.length)] ?_);cases M:(decide ((((i+(n/64))+1:Nat):Int)<(x.length:Int)))
  .
   have zc:=oF M;refine lB 45 M (ah (cK (kQ (bg 62 ((i:Nat)+1) (i+1) ?_))));refine lL e ac (lD ?_);intro a_ V;refine ⟨_,_,?_,⟨i+1,(l).set i ((x.getD (i+(n/64)) 0:Nat)/2^(n%64):Nat),h7,rfl,rfl,e.to _ _,oM,zb,(hW.set _ (by have:=zF (x.getD (i+n/64) 0) (2^(n%64));omega)),(oG oM F (hz _ (nR _)) (by rw[bK,bK,show n/64+i=i+n/64 by omega,cP (show x.length<=n/64+(i+1) by omega),Js,Ao,sw];exact I7 _ _)),(mw oM hz)⟩,V.to _ kR⟩
   omega
  have zc:=oT M;refine lB 45 M (ak (cR 15 [] mixed e aw ?_));refine eV 0 46 (qS (sB B) (x.length-(n/64)) (x.length-(n/64))) (eV 1 47 (nV i) (eX 2 48 (sB B) (x.length-(n/64)) (x.length-(n/64)) 1 (i:Nat) i rfl (eQ 3 49 0 ((l).set i ((x.getD (i+(n/64)) 0:Nat)/2^(n%64):Nat)) ar 1 0 i (mV (((l).set i ((x.getD (i+(n/64)) 0:Nat)/2^(n%64):Nat)).getD i 0)) e oM (eV 4 50 (qS A x.length c) (eV 5 51 (nV i) (eV 6 52 (nV (n/64)) (iR 7 53 ((i:Nat)+(n/64:Nat)) (i+(n/64)) (iR 8 54 ((i+(n/64):Nat)+1) ((i+(n/64))+1) (eX 9 55 A x.length c 1 ((i+(n/64))+1:Nat) ((i+(n/64))+1:Nat) ((e.f.1).ok oM) (eH 10 56 (mV (x.getD ((i+(n/64))+1:Nat) 0)) e ((e.f.1).el ((i+(n/64))+1:Nat) oM) (eV 11 57 (mV (n%64)) (eV 12 58 (mV (64-(n%64))) ?_ (hv:=fun _=>rU (((64:Int)-((n%64:Nat):Int))) kR (fh 64 (n%64) oM oM))))))))))))));refine eV 13 59 (mV ((x.getD ((i+(n/64))+1:Nat) 0:Nat)*2^(64-(n%64))%18446744073709551616)) ?_ (hv:=fun _=>gA (t:=22) (u:=159) (x:=.tmp 56) (y:=.tmp 58) (ky:=.u64) (a:=(x.getD ((i+(n/64))+1:Nat) 0:Nat)) (n:=(64-(n%64))) kR kR kR _);obtain ⟨hS1,O,Q⟩:=pD (x:=x.getD (i+n/64) 0) (y:=x.getD (i+n/64+1) 0) (p:=n%64) oM S;have hdv:=zF (x.getD (i+n/64) 0) (2^(n%64));have I:=bB (l:=l) (k:=i) (j:=i) (x:=x.getD (i+n/64) 0/2^(n%64)) oM;rw[if_pos rfl] at I
  refine eV 14 60 (mV (x.getD (i+n/64) 0/2^(n%64)+x.getD (i+n/64+1) 0*2^(64-n%64)%18446744073709551616)) ?_ (hv:=fun _=>aN (gc (t:=22) (u:=22) (x:=.tmp 49) (y:=.tmp 59) (a:=(((l).set i ((x.getD (i+(n/64)) 0:Nat)/2^(n%64):Nat)).getD i 0:Nat)) (b:=((x.getD ((i+(n/64))+1:Nat) 0:Nat)*2^(64-(n%64))%18446744073709551616:Nat)) kR kR kR oM oM _) (by rw[I,hS1]));refine cG e (fun _ ze e=>tX 15 61 (sB B) (x.length-(n/64)) (x.length-(n/64)) 1 (i:Nat) i rfl (tW 16 0 ((l).set i ((x.getD (i+(n/64)) 0:Nat)/2^(n%64):Nat)) ar 1 i (x.getD (i+n/64) 0/2^(n%64)+x.getD (i+n/64+1) 0*2^(64-n%64)%18446744073709551616) e oM (fun _ e=>?_)));have zd:(((l).set i ((x.getD (i+(n/64)) 0:Nat)/2^(n%64):Nat)).set i (x.getD (i+n/64) 0/2^(n%64)+x.getD (i+n/64+1) 0*2^(64-n%64)%18446744073709551616)).length=(x.length-(n/64)):=by rw[Jr];exact zb
  replace e:=e.to [⟨B,22,(((l).set i ((x.getD (i+(n/64)) 0:Nat)/2^(n%64):Nat)).set i (x.getD (i+n/64) 0/2^(n%64)+x.getD (i+n/64+1) 0*2^(64-n%64)%18446744073709551616)).flatMap ar⟩] [];refine tN (bG [(0,qS A x.length c),(4,sZ),(5,nV (n/64)),(6,mV (n%64)),(7,qS (sB B) (x.length-(n/64)) (x.length-(n/64))),(24,nV (x.length-(n/64))),(25,nV i)] ?_);refine kQ (bg 62 ((i:Nat)+1) (i+1) ?_);refine lL e ac (lD ?_);intro a_ V;refine ⟨_,_,?_,⟨i+1,((l).set i ((x.getD (i+(n/64)) 0:Nat)/2^(n%64):Nat)).set i (x.getD (i+n/64) 0/2^(n%64)+x.getD (i+n/64+1) 0*2^(64-n%64)%18446744073709551616),ze,rfl,rfl,e.to _ _,oM,zd,((hW.set _ oM).set _ O),(by rw[JK];exact oG oM F (hz _ (nR _)) (by rw[bK,bK,show n/64+i=i+n/64 by omega,show n/64+(i+1)=i+n/64+1 by omega];exact Q)),(by rw[JK];exact mw oM hz)⟩,V.to _ kR⟩
  omega
 have K:=oT D;exact lB 17 D (ak (aa e ac (af e [] (sZ) (⟨none,0,[],rfl,by simp,by simp;omega,Dg.nil,(by show 0=_;exact (zY (Ch U oM)).symm),SlO.nil⟩))))
theorem Ih {a b:Nat}(ha:a<18446744073709551616)(d:b<18446744073709551616):a*b<=340282366920938463426481119284349108225:=by
 have h1:a<=18446744073709551615:=by omega
 have c:b<=18446744073709551615:=by omega
 exact Nat.mul_le_mul h1 c
def w3 (u2 u1 u0:Nat):Nat:=18446744073709551616*(18446744073709551616*u2+u1)+u0
def w2 (v1 v0:Nat):Nat:=18446744073709551616*v1+v0
structure Gss (u2 u1 u0 v1 v0 g r o:Nat):Prop where
  e:g*v1+(r+18446744073709551616*o)=18446744073709551616*u2+u1
  lt:g+1=18446744073709551616\/w3 u2 u1 u0<(g+1)*w2 v1 v0
  gb:g<18446744073709551616
def AV (u2 u1 u0 v1 v0 g:Nat):Prop:=g*w2 v1 v0<=w3 u2 u1 u0/\(g+1=18446744073709551616\/w3 u2 u1 u0<(g+1)*w2 v1 v0)/\g<18446744073709551616
theorem gv {g a b:Nat}:g*w2 a b=18446744073709551616*(g*a)+g*b:=by unfold w2;rw[z7,Nat.mul_left_comm]
theorem Gss.fin {c u1 b d a g r o:Nat}(h:Gss c u1 b d a g r o)(f:g*a<=18446744073709551616*(r+18446744073709551616*o)+b):AV c u1 b d a g:=by
 refine ⟨?_,h.lt,h.gb⟩;rw[gv]
 unfold w3
 rw[<-h.e,z7]
 omega
theorem Gss.over {c u1 b d a g r o:Nat}(h:Gss c u1 b d a g r o)(e:0<o)(h0:a<18446744073709551616):AV c u1 b d a g:=by
 refine h.fin ?_;have h1:=Ih h.gb h0
 omega
theorem Gss.dec {d u1 c a b g r f o':Nat}(h:Gss d u1 c a b g r 0)(k:18446744073709551616*r+c<g*b)(e:f+18446744073709551616*o'=r+a):0<g/\Gss d u1 c a b (g-1) f o':=by
 have j:0<g:=dr k;obtain ⟨p,rfl⟩:∃ p,g=p+1:=⟨g-1,by omega⟩;have i:=h.e;rw[Ao,sw] at i
 have h1:w3 d u1 c<(p+1)*w2 a b:=by
  rw[gv]
  unfold w3
  rw[<-i,z7]
  omega
 have l:(p+1)*a=p*a+a:=by rw[I4,I6]
 rw[Jj];exact ⟨j,⟨by omega,Or.inr h1,by have:=h.gb;omega⟩⟩
theorem AO {b u1 c a d r o:Nat}(h:b=a)(e:r+18446744073709551616*o=u1+a):Gss b u1 c a d 18446744073709551615 r o:=by
 subst h;exact ⟨by omega,.inl rfl,by decide⟩
theorem AS {b u1 c a d q r:Nat}(e:b*18446744073709551616+u1=a*q+r)(hr:r<a)(h0:c<18446744073709551616)(f:q<18446744073709551616):Gss b u1 c a d q r 0:=by
 rw[z2 b] at e
 refine ⟨by rw[z2 q];omega,.inr ?_,f⟩;rw[gv,I4 q 1 a,I6,z2 q a]
 unfold w3
 rw[e]
 have h1:18446744073709551616*(a*q+r)+18446744073709551616<=18446744073709551616*(a*q+a):=by
  rw[<-Nat.mul_succ];exact A8 _ oM
 have h:0<=(q+1)*d:=JF _
 omega
theorem Eh (o u1 k f i:Nat)(h0:o<18446744073709551616)(h1:u1<18446744073709551616)(h2:k<18446744073709551616)(h3:f<18446744073709551616)(h4:i<18446744073709551616)(hle:o<=f)(hv:0<f)(w:World)(h:Hp)(g:G w h):CR 248 #[mV o,mV u1,mV k,mV f,mV i] w h (fun v _=>∃ g:Nat,v=mV g/\AV o u1 k f i g):=by
 have d:=sS g;refine go Tryz.func248 [(0,mV o),(1,mV u1),(2,mV k),(3,mV f),(4,mV i)] rfl ?_;refine aa d ac (aE (lL d dx (lN (CG.join (fun Γ Z=>∃ (L:Nat)(C:Nat)(F:Nat)(h_:Hp),Γ=[(2,mV k),(3,mV f),(4,mV i),(10,uV 0),(11,mV L),(12,mV C),(13,mV F)]/\SS w h Z h_ [] [] []/\Gss o u1 k f i L C F/\C<18446744073709551616/\F<=1) ?_ ?_))))
 .
  refine aa d aF ?_;cases p:((o:Int) == (f:Int))
  .
   have J:=ao p;refine lB 18 p (ah (kQ (lL d dx (lC 29 d (qV o u1 f oM wM wM _ _ d.g) ?_))));rintro _ w7 h8 d ⟨q2,r3,rfl,he4,hl5,hm6⟩;refine lL d [.c,.v (mV q2),.v (mV r3),.c,.c] (lD ?_);intro a_ x;exact ⟨_,⟨q2,r3,0,h8,rfl,d.to _ _,(AS oM oM h2 oM),oM,oM⟩,x.to _ kR⟩
  have J:=eq_of_beq p;refine lB 18 p (ak (aa d ac (lN (kQ (lL d aF ?_)))));obtain ⟨y,X,bp,br,bd,I⟩:=dM u1 f 0 wM wM oM;refine lV 22 (.tuple #[mV y,mV X]) ?_ (hr:=dV kR (I _));refine lL d [.c,.v (mV y),.v (mV X),.c,.c] (lD ?_);intro a_ x;exact ⟨_,⟨18446744073709551615,y,X,h,rfl,d.to _ _,(AO oM oM),oM,oM⟩,x.to _ kR⟩
 rintro _ _ ⟨L,C,F,zo,rfl,d,V,W,H⟩;refine cQ (kZ ?_);refine bG _ (CG.loop (fun μ_ Γ Z=>∃ (g:Nat)(r:Nat)(l:Nat)(h_:Hp),μ_=g/\Γ=[(2,mV k),(3,mV f),(4,mV i),(10,uV 0),(11,mV g),(12,mV r),(13,mV l)]/\SS w h Z h_ [] [] []/\Gss o u1 k f i g r l/\r<18446744073709551616/\l<=1) _ ⟨L,C,F,zo,rfl,rfl,d.to _ _,V,W,H⟩ ?_);rintro _ _ _ ⟨g,r,l,_,b3,rfl,d,e,hr,hov⟩;have hgl:=e.gb;refine cQ (aa d ac ?_);cases M:((l:Int) == (0:Int))
 .
  have zi:=ao M;refine lB 33 M (ah (CG.exit ?_))
  show CG _ _ _ _ _ _ _ _
  exact aa d aF (af d [] (mV g) (⟨g,rfl,(by first|exact e.over oM h4|(rw[show l=0 by omega] at e;exact e.fin oM))⟩))
 have zi:=eq_of_beq M;refine lB 33 M (ak (cK (kZ (aa d aF (lC 37 d (l9 g i wM wM _ _ d.g) ?_)))));rintro _ _ zm d ⟨B,zn,rfl,bq,b0,bb,bm⟩;have Q:=gN (a:=g) (b:=i) wM wM;refine lL d [.c,.v (mV B),.v (mV zn),.c,.c] (ai (aa d aF ?_));cases U:(decide ((B:Int)<(r:Int)))
 .
  have zj:=oF U;refine lB 42 U (lL d dx ?_);cases O:((B:Int) == (r:Int))
  .
   have zk:=ao O;refine lB 46 O (lL d ac (lG 48 ?_));refine lG 49 (lG 50 (lL d [.v qF,.v qF] (ah (cK (aG ?_)))));have j:18446744073709551616*r+k<g*i:=by omega
   rw[show l=0 by omega] at e
   have hg0:=dr j;have hgb:=e.gb;refine lL d ac (lV 54 (mV (g-1)) ?_ (hr:=rU (((g:Int)-(1:Int))) kR (fh g 1 oM oM)));refine lL d ac (lN (kQ (lL d aF ?_)));obtain ⟨z,zf,b1,b2,bw,D⟩:=dM r f 0 wM wM oM;refine lV 58 (.tuple #[mV z,mV zf]) ?_ (hr:=dV kR (D _));refine lL d [.c,.v (mV z),.v (mV zf),.c,.c] (lD ?_);intro a_ x;refine ⟨_,_,?_,⟨g-1,z,zf,zm,rfl,rfl,d.to _ _,((e.dec j oM).2),oM,oM⟩,x.to _ kR⟩
   omega
  have zk:=eq_of_beq O;refine lB 46 O (lL d dx ?_);cases S:(decide ((zn:Int)<=(k:Int)))
  .
   have zl:=oF S;refine lB 50 S (lL d [.v qF,.v qF] (ah (cK (aG ?_))));have j:18446744073709551616*r+k<g*i:=by omega
   rw[show l=0 by omega] at e
   have hg0:=dr j;have hgb:=e.gb;refine lL d ac (lV 54 (mV (g-1)) ?_ (hr:=rU (((g:Int)-(1:Int))) kR (fh g 1 oM oM)));refine lL d ac (lN (kQ (lL d aF ?_)));obtain ⟨u,Y,bk,bl,bt,K⟩:=dM r f 0 wM wM oM;refine lV 58 (.tuple #[mV u,mV Y]) ?_ (hr:=dV kR (K _));refine lL d [.c,.v (mV u),.v (mV Y),.c,.c] (lD ?_);intro a_ x;refine ⟨_,_,?_,⟨g-1,u,Y,zm,rfl,rfl,d.to _ _,((e.dec j oM).2),oM,oM⟩,x.to _ kR⟩
   omega
  have zl:=oT S;refine lB 50 S (lL d [.v qT,.v qT] (ak (CG.exit ?_)))
  show CG _ _ _ _ _ _ _ _
  exact aa d aF (af d [] (mV g) (⟨g,rfl,(by first|exact e.over oM h4|(rw[show l=0 by omega] at e;exact e.fin oM))⟩))
 have zj:=oT U;refine lB 42 U (lL d ac (lG 44 ?_));refine lG 45 (lG 46 (lG 47 (lG 48 (lG 49 (lG 50 (lG 51 (lL d [.v qT] (ak (CG.exit ?_)))))))))
 show CG _ _ _ _ _ _ _ _
 exact aa d aF (af d [] (mV g) (⟨g,rfl,(by first|exact e.over oM h4|(rw[show l=0 by omega] at e;exact e.fin oM))⟩))
theorem vr (A:Z9)(c:Nat)(l:List Nat)(n:Nat)(b:l.length=n)(e:l.length<=1099511627776)(d:l.length<=c)(w:World)(h:Hp)(g:G w h)(a:SlO 1 ar 0 h A l):CV 140 #[.slice A n c] w h (.slice A (tl l n) c):=by
 subst b;exact C9 A c l e d w h g a
theorem Gd (rb:Nat)(l:List Nat)(c d:Nat)(W:0<d)(X:d<18446744073709551616)(hW:Wd l)(hl:l.length<=1000000000)(hc:l.length<=c)(w:World)(h:Hp)(g:G w h)(ho:Own w rb 22 (l.flatMap ar))(Q:h[rb]?=some junk):Calls Tryz.prog 113 #[.slice (sB rb) l.length c,mV d] w (bV rb w h fun v w' _=>∃ z:List Nat,∃ r:Nat,v=.tuple #[.slice (sB rb) (tl z z.length) c,uV r]/\z.length=l.length/\Wd z/\aA l=d*aA z+r/\r<d/\Own w' rb 22 (z.flatMap ar)):=by
 have e:UpM [rb] w h w h:=UpM.refl g;obtain ⟨wz,hz,a⟩:=SS.at_ g ho Q;have hll:l.length=l.length:=rfl;refine go Tryz.func113 [(0,qS (sB rb) l.length c),(1,mV d)] rfl (aa a aF (aE (lL a ac (ai (aa a [.c,.v (nV l.length)] (lV 10 (iV ((l.length:Int)-1)) ?_ (hr:=rS (((l.length:Nat)-1)) kR ((dQ oM oM).trans oM))))))));refine lL a ac (bx ?_);refine bG _ (CG.loop (fun F Γ L=>∃ (m:Nat)(z:List Nat)(r:Nat)(h_:Hp),F=m/\Γ=[(0,qS (sB rb) l.length c),(1,mV d),(4,sZ),(5,uV 0),(7,iV ((m:Int)-1)),(6,mV r)]/\SS wz hz L h_ [⟨rb,22,(z).flatMap ar⟩] [] []/\m<=l.length/\z.length=l.length/\Wd z/\aA l=d*(18446744073709551616^m*am 18446744073709551616 (z.drop m))+(18446744073709551616^m*r+am 18446744073709551616 (z.take m))/\r<d/\UpM [rb] w h L h_) _ ⟨l.length,l,0,h,rfl,rfl,a.to _ _,nR _,rfl,hW,(by show am _ l=_;simp[am,Jy]),W,e⟩ ?_);rintro _ _ w1 ⟨m,z,r,h2,U,rfl,a,hm,i,C,j,y,e⟩;refine cQ (aa a ac ?_);cases k:(decide ((0:Int)<=((m:Int)-1:Int)))
 .
  have u:=oF k;refine lB 12 k (ah (CG.exit ?_))
  show CG _ _ _ _ _ _ _ _
  refine aa a ac (vC 29 0 a (fun _ Y f_ B=>vr (sB rb) c (z) (l.length) i oM oM _ _ Y (SlO.of_flat (sz:=1) (f:=ar) (d:=0) (b:=rb) (o:=0) (l:=z) (fun _=>rfl) B)) ?_);rintro _ w5 h6 M a rfl;replace e:=e.trans (M.m _);refine lL a dx (lN (kX ?_));have D:m=0:=by omega
  rw[D] at j
  exact a.retM e [] (.tuple #[qS (sB rb) (tl (z) l.length) c,mV r]) ⟨z,r,by rw[i],i,C,(by simp only[JG,I6,sy,List.take_zero,am] at j;exact j),y,a.own 0⟩
 have u:=oT k;refine lB 12 k (ak (cK (cQ (kZ (kQ (lL a m5 (lX 21 (sB rb) l.length c 1 ((m:Int)-1) (m-1) rfl ?_)))))));have S:=C.get (m-1);refine lQ 22 0 z ar 1 0 (m-1) (mV ((z).getD (m-1) 0)) a oM (lL a ac (ec 24 (qV r ((z).getD (m-1) 0) d oM wM wM _ _ a.g) ?_));rintro _ _ O p ⟨x,K,rfl,J,H,I⟩;replace e:=e.trans (p.m _);replace a:=a.step p;refine lL a [.c,.v (mV x),.v (mV K)] (lX 27 (sB rb) l.length c 1 ((m:Int)-1) (m-1) rfl ?_);refine F6 0 z ar 1 (m-1) x a oM (fun _ Z a=>?_);replace e:=e.put Z (o0.2 rfl) a.g;have V:((z).set (m-1) x).length=l.length:=by rw[Jr];exact i
 replace a:=a.to [⟨rb,22,((z).set (m-1) x).flatMap ar⟩] [];refine lL a ac (lN (kQ (lL a ac (lV 14 (iV (((m-1:Nat):Int)-1)) ?_ (hr:=rS ((((m:Int)-1)-1)) kR ((dQ oM oM).trans oM))))));refine lL a ac (lD ?_);intro a_ ka;refine ⟨_,_,?_,⟨m-1,(z).set (m-1) x,K,O,rfl,rfl,a.to _ _,oM,V,(C.set _ oM),(rN oM (by rw[show m-1+1=m by omega];exact j) oM),oM,e⟩,ka.to _ kR⟩
 omega
theorem Ek {u:List Nat}{k:Nat}(a:2<=k):w3 (u.getD k 0) (u.getD (k-1) 0) (u.getD (k-2) 0)=u.getD k 0*18446744073709551616*18446744073709551616+u.getD (k-1) 0*18446744073709551616+u.getD (k-2) 0:=by
 unfold w3
 rw[z2 (u.getD k 0) 18446744073709551616,z2 (18446744073709551616*u.getD k 0) 18446744073709551616,z2 (u.getD (k-1) 0),z7]
theorem EC {a b:Nat}:w2 a b=a*18446744073709551616+b:=by unfold w2;rw[z2]
section
variable {n j G:Nat}{u v:List Nat}
theorem Fp (o:2<=n)(y:v.length=n)(a:Wd v)(d:Wd u)(hu:j+n<u.length)(i:aA u<18446744073709551616^(j+1)*aA v):u.getD (j+n) 0<=v.getD (n-1) 0:=by
 rcases co (v.getD (n-1) 0) (u.getD (j+n) 0) with h|h
 ·exfalso
  have b:=aJ 18446744073709551616 (l:=v) (k:=n-1) oM;rw[show n-1+1=v.length by omega,s1] at b
  have h1:=bW (Dg.take a (n-1));rw[Ab,Am oM] at h1
  have c:=aJ 18446744073709551616 (l:=u) (k:=j+n) oM;have e:=bX 18446744073709551616 (l:=u) (k:=j+n+1) oM;have p:18446744073709551616^(j+n)*(v.getD (n-1) 0+1)<=18446744073709551616^(j+n)*u.getD (j+n) 0:=A8 _ h
  have f:18446744073709551616^(j+1)*aA v<18446744073709551616^(j+1)*(18446744073709551616^(n-1)*(v.getD (n-1) 0+1)):=by
   refine I0 ?_ (F2 kD)
   show am _ v<_
   rw[b,z7,I1];omega
  rw[<-z8,<-A7,show j+1+(n-1)=j+n by omega] at f
  have z:aA u=am 18446744073709551616 (u.take (j+n))+18446744073709551616^(j+n)*u.getD (j+n) 0+18446744073709551616^(j+n+1)*am 18446744073709551616 (u.drop (j+n+1)):=by
   show am _ u=_
   rw[e,c]
  have x:=JF (18446744073709551616^(j+n+1)*am 18446744073709551616 (u.drop (j+n+1)))
  omega
 ·exact h
theorem xa (f:2<=n)(i:v.length=n)(c:Wd v)(b:Wd u)(hu:j+n<u.length)(a:v.getD (n-1) 0≠0)(e:aA u<18446744073709551616^(j+1)*aA v)(h:AV (u.getD (j+n) 0) (u.getD (j+n-1) 0) (u.getD (j+n-2) 0) (v.getD (n-1) 0) (v.getD (n-2) 0) G) :
  aA u/(18446744073709551616^j*aA v)<=G/\G<=aA u/(18446744073709551616^j*aA v)+1:=by
 obtain ⟨h1,d,k⟩:=h;rw[Ek oM,EC] at h1 d
 exact mQ kD f i c b hu a e h1 d k
theorem xB (f:2<=n)(e:v.length=n)(a:Wd v)(b:v.getD (n-1) 0≠0):18446744073709551616^(n-1)<=aA v/\aA v<18446744073709551616^n:=by
 have c:=bW a;rw[e] at c
 refine ⟨?_,c⟩;have d:=aJ 18446744073709551616 (l:=v) (k:=n-1) oM;rw[show n-1+1=v.length by omega,s1] at d
 have h:18446744073709551616^(n-1)*1<=18446744073709551616^(n-1)*v.getD (n-1) 0:=A8 _ oM
 show _<=am _ v
 omega
theorem xQ (d:2<=n)(c:v.length=n)(a:Wd v)(e:aA u<18446744073709551616^(j+1)*aA v):aA u<18446744073709551616^(j+n+1):=by
 have b:=bW a;rw[c] at b
 have h1:18446744073709551616^(j+1)*aA v<18446744073709551616^(j+1)*18446744073709551616^n:=I0 b (F2 kD);rw[<-A7,show j+1+n=j+n+1 by omega] at h1
 omega
theorem B6 {u1:List Nat}(f:2<=n)(l:v.length=n)(c:Wd v)(i:Wd u)(h:Wd u1)(hu:j+n<u.length)(a:v.getD (n-1) 0≠0)(k:aA u<18446744073709551616^(j+1)*aA v)
  (p:aA u/(18446744073709551616^j*aA v)<=G/\G<=aA u/(18446744073709551616^j*aA v)+1)(d:Above u1 u (j+n+1))(e:aA u1+18446744073709551616^j*(G*aA v)=aA u+18446744073709551616^(j+n+1)*0) :
  aA u1<18446744073709551616^j*aA v/\aA u1+18446744073709551616^j*(G*aA v)=aA u:=by
 obtain ⟨x,o⟩:=xB f l c a;have y:=ei (b:=18446744073709551616) kD d h i (by rw[d.1];omega) (xQ f l c k);have:=(fa (b:=18446744073709551616) kD f x o k y e (JF 1) p).1 rfl;rw[Ao,sw] at e
 exact ⟨this.2.2.1,e⟩
theorem FN {b a W K T c:Nat}(e:a+T*c=b+W)(i:b+W=K+T)(k:a<T)(f:K<W)(l:W<=T):a=K:=by
 have d:c=1:=by
  rcases JL c 1 with h|h|h
  ·have:c=0:=by omega
   subst this;omega
  ·exact h
  ·have j:T*2<=T*c:=A8 _ h
   omega
 subst d
 omega
theorem Fe {u1 d:List Nat}{c:Nat}(z:2<=n)(H:v.length=n)(o:Wd v)(h:Wd u)(p:Wd u1)(x:Wd d)(hu:j+n<u.length)(l:v.getD (n-1) 0≠0)(F:aA u<18446744073709551616^(j+1)*aA v)
  (I:aA u/(18446744073709551616^j*aA v)<=G/\G<=aA u/(18446744073709551616^j*aA v)+1)(i:Above u1 u (j+n+1))(a:Above d u (j+n+1))(e:aA u1+18446744073709551616^j*(G*aA v)=aA u+18446744073709551616^(j+n+1)*1)
  (M:aA d+18446744073709551616^(j+n+1)*c=aA u1+18446744073709551616^j*aA v) :
  aA d<18446744073709551616^j*aA v/\aA d+18446744073709551616^j*((G-1)*aA v)=aA u/\0<G:=by
 obtain ⟨Q,C⟩:=xB z H o l;have k:=xQ z H o F;have J:=ei (b:=18446744073709551616) kD i p h (by rw[i.1];omega) k;have y:=ei (b:=18446744073709551616) kD a x h (by rw[a.1];omega) k;obtain ⟨L,O,B,S⟩:=(fa (b:=18446744073709551616) kD z Q C F J e oM I).2 rfl
 have f:18446744073709551616^j*aA v<=18446744073709551616^(j+n+1):=by
  have h1:18446744073709551616^j*aA v<=18446744073709551616^j*18446744073709551616^n:=A8 _ (JM C);rw[<-A7] at h1
  have K:(18446744073709551616:Nat)^(j+n)<=18446744073709551616^(j+n+1):=A4 kD oM;exact ed h1 K
 have D:aA d=aA u-18446744073709551616^j*((G-1)*aA v):=FN M O y B f;exact ⟨by rw[D];exact B,by rw[D];exact Nat.sub_add_cancel S,by rw[L];exact JH _⟩
theorem DM {u1:List Nat}(f:2<=n)(l:v.length=n)(c:Wd v)(i:Wd u)(h:Wd u1)(hu:j+n<u.length)(a:v.getD (n-1) 0≠0)(k:aA u<18446744073709551616^(j+1)*aA v)
  (p:aA u/(18446744073709551616^j*aA v)<=G/\G<=aA u/(18446744073709551616^j*aA v)+1)(d:Above u1 u (j+n+1))(e:aA u1+18446744073709551616^j*(G*aA v)=aA u+18446744073709551616^(j+n+1)*1):0<G:=by
 obtain ⟨x,o⟩:=xB f l c a;have y:=ei (b:=18446744073709551616) kD d h i (by rw[d.1];omega) (xQ f l c k);obtain ⟨z,_⟩:=(fa (b:=18446744073709551616) kD f x o k y e (Nat.le_refl 1) p).2 rfl;rw[z];exact JH _
theorem Bn (f:n<=u.length)(h:v.length=n)(b:Wd v)(a:Wd u)(d:aA u<aA v):aA (u.take n)=aA u:=by
 have c:=bW b;rw[h] at c
 have o:am 18446744073709551616 u<18446744073709551616^(n+0):=Nat.lt_trans d c;have hz:=(gJ 18446744073709551616 (l:=u) (k:=n) (m:=0) oM kD a o).2;have e:=bX 18446744073709551616 (l:=u) (k:=n) f;have j:am 18446744073709551616 (u.drop n)=0:=gx _ (fun i=>by rw[bK];exact hz _ oM);rw[j,Ao,sw] at e
 exact e.symm
end
theorem vd {q:List Nat}{j Q X V R R':Nat}(c:j<q.length)(h0:q.getD j 0=0)(a:X=aA q*V+R)(e:R'+18446744073709551616^j*(Q*V)=R):X=aA (q.set j Q)*V+R':=by
 have b:=ct 18446744073709551616 (l:=q) (k:=j) Q c;rw[h0,Ao,sw] at b
 have d:aA (q.set j Q)=aA q+18446744073709551616^j*Q:=b;rw[d,I4,a,<-e,z8];omega
theorem E0 {X V R q a b s:Nat}(d:V=b*2^s)(k:X=a*2^s)(c:X=q*V+R)(i:R<V):q=a/b/\R/2^s=a%b:=by
 have p:=A0 s;have j:0<V:=by omega
 have o:0<b:=by
  rcases yz b with h|h
  ·rw[h,s9] at d;omega
  ·exact h
 have l:a*2^s=V*q+R:=by rw[<-k,c,z2]
 obtain ⟨h1,e⟩:=jI (A:=a) (y:=b) (Q:=q) d l i;have f:a=R/2^s+b*q:=by omega
 constructor
 ·rw[f,Nat.add_mul_div_left _ _ o,zY e,tv]
 ·rw[f,Ju,u9 e]
theorem xx {a s:Nat}(c:s<=64)(h:a*2^s<18446744073709551616):a*2^s+2^s<=18446744073709551616:=by
 have e:=xf c;rw[e] at h ⊢
 have h1:a<2^(64-s):=Nat.lt_of_mul_lt_mul_right h;have b:(a+1)*2^s<=2^(64-s)*2^s:=ua _ h1;rw[I4,I6] at b
 exact b
theorem u5 {x y:List Nat}{s:Nat}(f:Wd x)(j:Wd y)(i:1<=y.length)(a:y.getD (y.length-1) 0≠0)(d:y.length<=x.length):aA x*2^s<18446744073709551616^(x.length-y.length+1)*(aA y*2^s):=by
 have e:=aJ 18446744073709551616 (l:=y) (k:=y.length-1) oM;rw[show y.length-1+1=y.length by omega,s1] at e
 have o:18446744073709551616^(y.length-1)*1<=18446744073709551616^(y.length-1)*y.getD (y.length-1) 0:=A8 _ oM;have h:18446744073709551616^(y.length-1)<=aA y:=by show _<=am _ y;omega
 have b:18446744073709551616^(x.length-y.length+1)*18446744073709551616^(y.length-1)<=18446744073709551616^(x.length-y.length+1)*aA y:=A8 _ h;rw[<-A7,show x.length-y.length+1+(y.length-1)=x.length by omega] at b
 have c:aA x<18446744073709551616^x.length:=bW f;rw[<-z8];exact Jm (ep c b) (A0 s)
theorem DX (A:Z9)(c:Nat)(x:List Nat)(m:Nat)(f:x.length=m)(d:Wd x)(a:x.length<=1000000000)(n:Nat)(e:n<=1000000000)(w:World)(h:Hp)(g:G w h)(b:SlO 1 ar 0 h A x):CR 249 #[.slice A m c,nV n] w h (fun v h1=>AY h1 v (x.length-n/64) (fun z=>aA z=aA x/2^n)):=by
 subst f;exact FM A c x d a n e w h g b
theorem EA {y z:List Nat}{s:Nat}(a:s<=64)(o:Wd y)(hz:Wd z)(f:aA z=aA y*2^s)(C:1<=y.length)(B:y.getD (y.length-1) 0*2^s<18446744073709551616)(j:y.length<=z.length):aA (z.take y.length)=aA y*2^s:=by
 have d:aA z<18446744073709551616^(y.length+0):=by
  rw[f,sw];have h:=aJ 18446744073709551616 (l:=y) (k:=y.length-1) oM;rw[show y.length-1+1=y.length by omega,s1] at h
  have h1:=bW (Dg.take o (y.length-1));rw[Ab,Am oM] at h1
  have p:aA y<18446744073709551616^(y.length-1)*(y.getD (y.length-1) 0+1):=by
   show am _ y<_
   rw[h,z7,I1];omega
  have x:aA y*2^s<18446744073709551616^(y.length-1)*(y.getD (y.length-1) 0+1)*2^s:=Jm p (A0 s)
  have c:18446744073709551616^(y.length-1)*(y.getD (y.length-1) 0+1)*2^s<=18446744073709551616^y.length:=by
   have u:(18446744073709551616:Nat)^y.length=18446744073709551616^(y.length-1)*18446744073709551616:=by rw[<-z1];congr 1;omega
   rw[u,z8];refine A8 _ ?_;rw[I4,I6];exact xx a B
  exact ep x c
 have b:=(gJ 18446744073709551616 (l:=z) (k:=y.length) (m:=0) oM kD hz d).2;have e:=bX 18446744073709551616 (l:=z) (k:=y.length) oM;have c:am 18446744073709551616 (z.drop y.length)=0:=gx _ (fun i=>by rw[bK];exact b _ oM);rw[c,Ao,sw] at e
 rw[<-f];exact e.symm
theorem BC {y v:List Nat}{s:Nat}(j:Wd y)(hv:Wd v)(b:v.length=y.length)(h:aA v=aA y*2^s)(f:1<=y.length)(i:9223372036854775808<=y.getD (y.length-1) 0*2^s):v.getD (v.length-1) 0≠0:=by
 intro h0;have a:=aJ 18446744073709551616 (l:=v) (k:=v.length-1) oM;rw[show v.length-1+1=v.length by omega,s1,h0,Ao,sw] at a
 have h1:=bW (Dg.take hv (v.length-1));rw[Ab,Am oM] at h1
 have c:=aJ 18446744073709551616 (l:=y) (k:=y.length-1) oM;rw[show y.length-1+1=y.length by omega,s1] at c
 have d:18446744073709551616^(y.length-1)*y.getD (y.length-1) 0<=aA y:=by show _<=am _ y;omega
 have e:18446744073709551616^(y.length-1)*y.getD (y.length-1) 0*2^s<=aA y*2^s:=ua _ d;rw[z8] at e
 have p:18446744073709551616^(y.length-1)*1<=18446744073709551616^(y.length-1)*(y.getD (y.length-1) 0*2^s):=A8 _ oM
 have o:aA v<18446744073709551616^(y.length-1):=by
  show am _ v<_
  rw[a,<-b];exact h1
 omega
theorem Fd (A:Z9)(c:Nat)(x:List Nat)(D:Z9)(d:Nat)(y:List Nat)(hx:Wd x)(hy:Wd y)(hlx:x.length<=1000000000)(hny:2<=y.length)(hxy:y.length<=x.length)(b6:y.getD (y.length-1) 0≠0)(w:World)(h:Hp)(g:G w h)(hA:SlO 1 ar 0 h A x)(hD:SlO 1 ar 0 h D y):CR 237 #[.slice A x.length c,.slice D y.length d] w h (fun v h1=>∃ Aq cq,∃ q:List Nat,∃ Ar cr,∃ r:List Nat,v=.tuple #[.slice Aq q.length cq,.slice Ar r.length cr]/\q.length<=cq/\r.length<=cr/\Wd q/\Wd r/\aA q=aA x/aA y/\aA r=aA x%aA y/\q.length<=x.length/\r.length<=y.length/\SlO 1 ar 0 h1 Aq q/\SlO 1 ar 0 h1 Ar r):=by
 have e:=(((sS g).aS hA).aS hD);refine go Tryz.func237 [(0,qS A x.length c),(1,qS D y.length d)] rfl (aa e aF (aE (lL e [.c,.v (nV y.length),.c] (aE (lL e aF (bg 25 ((y.length:Nat)-1) (y.length-1) ?_))))));refine lX 26 D y.length d 1 (y.length-1:Nat) (y.length-1) ((e.f.1).ok oM) (lH 27 (mV (y.getD (y.length-1) 0)) e ((e.f.1).el (y.length-1) oM) ?_);have hyt:=hy.get (y.length-1);refine aq 28 e (C5 (y.getD (y.length-1) 0) wM _ _ e.g) (fun w1 h2 e=>lL e ac (aE (lL e aF (lC 31 e (wE D d y hy oM (64-nb (y.getD (y.length-1) 0)) oM _ _ e.g e.f.1) ?_))));rintro _ w3 h4 e ⟨V,vc,zv,rfl,hvc,dk,hWv,hVv,hFv⟩;replace e:=e.aS hFv;refine lL e ac (lT 33 V zv.length vc 1 (y.length:Nat) y.length ?_);obtain ⟨p,hvl_⟩:∃ p,p=zv.take y.length:=⟨_,rfl⟩;have bm:p.length=y.length:=by rw[hvl_,Ab];omega
 have C:Wd p:=by rw[hvl_];exact Dg.take hWv _
 have d0:=(cl (n:=y.getD (y.length-1) 0) oM).2.2;have bd:=r8 (y:=y.getD (y.length-1) 0) oM (hy.get _);have X:aA p=aA y*2^(64-nb (y.getD (y.length-1) 0)):=by rw[hvl_];exact EA oM hy hWv hVv oM bd.2 oM
 have O:p.getD (p.length-1) 0≠0:=BC hy C bm X oM bd.1;replace e:=e.aS ((e.f.1).take y.length);rw[<-hvl_] at e
 refine lL e ac (aE (lL e [.c,.v (nV x.length)] (bg 36 ((x.length:Nat)+1) (x.length+1) ?_)));refine lK 37 22 (x.length+1) 1 8 (uV 0) ar 0 e (fun z w6 h7 e=>?_);have hl8:(um (x.length+1) 0).length=(x.length+1):=by simp
 refine lL e ac (aE (lL e dx (lC 41 e (wE A c x hx hlx (64-nb (y.getD (y.length-1) 0)) oM _ _ e.g e.f.r.2.1) ?_)));rintro _ w9 _ e ⟨Uo,uc,zu,rfl,huc,ds,b4,hVu,hFu⟩;replace e:=e.aS hFu;have bw:zu.length=x.length+1:=by omega
 refine Iz 42 0 (.tmp 38) (.tmp 41) 146 22 ar 0 Uo zu (x.length+1) zu.length uc (x.length+1) e e.f.1 rfl oM oM (by show ((um (x.length+1) 0).flatMap ar).length=_;rw[da (sz:=1) (fun _=>rfl)];simp) (fun _ e=>?_);replace e:=e.to [⟨z,22,(zu).flatMap ar⟩] [];refine aE (lL e [.c,.v (nV x.length),.c] (bg 46 ((x.length:Nat)-(y.length:Nat)) (x.length-y.length) ?_));refine bg 47 ((x.length-y.length:Nat)+1) ((x.length-y.length)+1) (lK 48 22 ((x.length-y.length)+1) 1 8 (uV 0) ar 0 e (fun M _ zD e=>?_));have zt:(um ((x.length-y.length)+1) 0).length=((x.length-y.length)+1):=by simp
 refine lL e ac (ai (aa e [.c,.v (nV x.length),.c] (lV 52 (iV (((x.length-y.length+1:Nat):Int)-1)) ?_ (hr:=rS (((x.length:Nat)-(y.length:Nat))) kR ((dQ oM oM).trans oM)))));refine lL e ac (lN (bG [(4,qS (sB M) ((x.length-y.length)+1) ((x.length-y.length)+1)),(5,sZ),(6,nV y.length),(7,nV (64-nb (y.getD (y.length-1) 0))),(8,qS V y.length vc),(9,qS (sB z) (x.length+1) (x.length+1)),(10,iV (((x.length-y.length+1:Nat):Int)-1))] ?_));refine kZ ?_;refine bG _ (CG.loop (fun Z Γ w_=>∃ (m:Nat)(H:List Nat)(K:List Nat)(B:Hp),Z=m/\Γ=[(4,qS (sB M) ((x.length-y.length)+1) ((x.length-y.length)+1)),(5,sZ),(6,nV y.length),(7,nV (64-nb (y.getD (y.length-1) 0))),(8,qS V y.length vc),(9,qS (sB z) (x.length+1) (x.length+1)),(10,iV ((m:Int)-1))]/\SS w h w_ B [⟨M,22,(K).flatMap ar⟩,⟨z,22,(H).flatMap ar⟩] [] [fun B=>SlO 1 ar 0 B Uo zu,fun B=>SlO 1 ar 0 B V p,fun B=>SlO 1 ar 0 B V zv,fun B=>SlO 1 ar 0 B D y,fun B=>SlO 1 ar 0 B A x]/\m<=x.length-y.length+1/\H.length=x.length+1/\Wd H/\K.length=x.length-y.length+1/\Wd K/\aA H<18446744073709551616^m*aA p/\aA zu=aA K*aA p+aA H/\(∀ k,k<m->K.getD k 0=0)) _ ⟨x.length-y.length+1,zu,um ((x.length-y.length)+1) 0,zD,rfl,rfl,e.to _ _,nR _,bw,b4,zt,Wd.rep _,(by rw[hVu,X];exact u5 hx hy oM b6 oM),(by show _=am _ _*_+_;rw[di,s9,tv]),fun k _=>dG⟩ ?_);rintro _ _ _ ⟨m,H,K,_,hd,rfl,e,hm,hul,J,hql,hWq,hR,inv,hq0⟩;refine cQ (aa e ac ?_);cases zd:(decide ((0:Int)<=((m:Int)-1:Int)))
 .
  have zl:=oF zd;refine lB 54 zd (ah (CG.exit ?_))
  show CG _ _ _ _ _ _ _ _
  refine aG ?_;have hm0:m=0:=by omega
  obtain ⟨_,e,b1,fp,f1⟩:=e.pub 0;replace e:=(e.to [⟨z,22,(H).flatMap ar⟩] []).aS (SlO.of_flat (sz:=1) (f:=ar) (d:=0) (b:=M) (o:=0) (l:=K) (fun _=>rfl) b1);obtain ⟨_,e,b0,d2,f3⟩:=e.pub 0;replace e:=(e.to [] []).aS (SlO.of_flat (sz:=1) (f:=ar) (d:=0) (b:=z) (o:=0) (l:=H) (fun _=>rfl) b0);refine lL e dx (lT 190 (sB z) (x.length+1) (x.length+1) 1 (y.length:Nat) y.length ?_);refine lL e ac (lC 192 e (DX (sB z) (x.length+1) (H.take y.length) y.length (by rw[Ab];omega) (Dg.take J _) (by rw[Ab];omega) (64-nb (y.getD (y.length-1) 0)) oM _ _ e.g ((e.f.1).take y.length)) ?_);rintro _ _ _ e ⟨Ar,cr,zr,rfl,hcr,hlr,hWr,hVr,hFr⟩;replace e:=e.aS hFr;refine lL e aF (lN (kX ?_));rw[hm0,JG,I6] at hR
  obtain ⟨hQ,hRm⟩:=E0 X hVu inv hR;rw[Bn (v:=p) oM oM C J hR] at hVr
  exact e.ret [] (.tuple #[qS (sB M) ((x.length-y.length)+1) ((x.length-y.length)+1),qS Ar zr.length cr]) (⟨_,_,K,Ar,cr,zr,by rw[hql],by omega,hcr,hWq,hWr,hQ,hVr.trans hRm,by omega,(by have:=List.length_take_le y.length H;omega),e.f.r.1,e.f.1⟩)
 have zl:=oT zd;refine lB 54 zd (ak (cK (cQ (kZ (cQ (cR 31 [] mixed e aw ?_))))));have hm1:0<m:=by omega
 have W:2<=p.length:=by omega
 have hjn:m-1+p.length<H.length:=by omega
 have hR1:aA H<18446744073709551616^(m-1+1)*aA p:=by rw[show m-1+1=m by omega];exact hR
 have hle:=Fp (n:=p.length) (j:=m-1) W rfl C J hjn hR1;refine eV 0 57 (qS (sB z) (x.length+1) (x.length+1)) (eV 1 58 (iV ((m:Int)-1)) (eV 2 59 (nV y.length) (iR 3 60 (((m:Int)-1)+(y.length:Nat)) (m-1+p.length) (eX 4 61 (sB z) (x.length+1) (x.length+1) 1 (m-1+p.length:Nat) (m-1+p.length) rfl (eQ 5 62 1 H ar 1 0 (m-1+p.length) (mV ((H).getD (m-1+p.length) 0)) e oM (eV 6 63 (qS (sB z) (x.length+1) (x.length+1)) (eV 7 64 (iV ((m:Int)-1)) (eV 8 65 (nV y.length) (iR 9 66 (((m:Int)-1)+(y.length:Nat)) (m-1+p.length) (iR 10 67 ((m-1+p.length:Nat)-1) (m-1+p.length-1) (eX 11 68 (sB z) (x.length+1) (x.length+1) 1 (m-1+p.length-1:Nat) (m-1+p.length-1) rfl (eQ 12 69 1 H ar 1 0 (m-1+p.length-1) (mV ((H).getD (m-1+p.length-1) 0)) e oM (eV 13 70 (qS (sB z) (x.length+1) (x.length+1)) (eV 14 71 (iV ((m:Int)-1)) (eV 15 72 (nV y.length) (iR 16 73 (((m:Int)-1)+(y.length:Nat)) (m-1+p.length) (iR 17 74 ((m-1+p.length:Nat)-2) (m-1+p.length-2) (eX 18 75 (sB z) (x.length+1) (x.length+1) 1 (m-1+p.length-2:Nat) (m-1+p.length-2) rfl (eQ 19 76 1 H ar 1 0 (m-1+p.length-2) (mV ((H).getD (m-1+p.length-2) 0)) e oM (eV 20 77 (qS V y.length vc) (eV 21 78 (nV y.length) (iR 22 79 ((y.length:Nat)-1) (p.length-1) (eX 23 80 V y.length vc 1 (p.length-1:Nat) (p.length-1) ((e.f.2.1).ok oM) (eH 24 81 (mV (p.getD (p.length-1) 0)) e ((e.f.2.1).el (p.length-1) oM) (eV 25 82 (qS V y.length vc) (eV 26 83 (nV y.length) (iR 27 84 ((y.length:Nat)-2) (p.length-2) (eX 28 85 V y.length vc 1 (p.length-2:Nat) (p.length-2) ((e.f.2.1).ok oM) (eH 29 86 (mV (p.getD (p.length-2) 0)) e ((e.f.2.1).el (p.length-2) oM) (eC 30 87 e (fun _ _ e=>Eh (((H).getD (m-1+p.length) 0)) (((H).getD (m-1+p.length-1) 0)) (((H).getD (m-1+p.length-2) 0)) ((p.getD (p.length-1) 0)) ((p.getD (p.length-2) 0)) (J.get _) (J.get _) (J.get _) (C.get _) (C.get _) hle oM _ _ e.g) ?_))))))))))))))))))))))))))))));rintro _ _ _ _ _ e ⟨g,rfl,hG0⟩;have hG:=xa (n:=p.length) (j:=m-1) W rfl C J hjn O hR1 hG0;have hgb:=hG0.2.2;refine cG e (fun _ zE e=>tV 31 11 (mV g) (tN (bG [(4,qS (sB M) ((x.length-y.length)+1) ((x.length-y.length)+1)),(5,sZ),(6,nV y.length),(7,nV (64-nb (y.getD (y.length-1) 0))),(8,qS V y.length vc),(9,qS (sB z) (x.length+1) (x.length+1)),(10,iV ((m:Int)-1)),(11,mV g)] ?_)));refine aa e aF (ai (aa e aF (bx ?_)));refine bG _ (CG.loop (fun Z Γ w_=>∃ (i:Nat)(u1:List Nat)(cy:Nat)(bo:Nat)(B:Hp),Z=y.length-i/\Γ=[(4,qS (sB M) ((x.length-y.length)+1) ((x.length-y.length)+1)),(5,sZ),(6,nV y.length),(7,nV (64-nb (y.getD (y.length-1) 0))),(8,qS V y.length vc),(9,qS (sB z) (x.length+1) (x.length+1)),(10,iV ((m:Int)-1)),(11,mV g),(88,nV y.length),(89,nV i),(12,mV cy),(13,mV bo)]/\SS w h w_ B [⟨M,22,(K).flatMap ar⟩,⟨z,22,(u1).flatMap ar⟩] [] [fun B=>SlO 1 ar 0 B Uo zu,fun B=>SlO 1 ar 0 B V p,fun B=>SlO 1 ar 0 B V zv,fun B=>SlO 1 ar 0 B D y,fun B=>SlO 1 ar 0 B A x]/\i<=y.length/\u1.length=x.length+1/\Wd u1/\cy<18446744073709551616/\bo<=1/\am 18446744073709551616 u1+18446744073709551616^(m-1)*(g*am 18446744073709551616 (p.take i))=aA H+18446744073709551616^(m-1+i)*(cy+bo)/\Above u1 H (m-1+p.length+1)) _ ⟨0,H,0,0,zE,rfl,rfl,e.to _ _,JF _,hul,J,oM,oM,(by show am _ H+_=am _ H+_;simp[am]),Above.refl _ _⟩ ?_);rintro _ _ _ ⟨i,u1,cy,bo,zq,d1,rfl,e,hi,hu1,hW1,hcy,hbo,bb,bl⟩;have df:=hW1.get (m-1+i);have hvk:=C.get i;refine aG ?_;cases ze:(decide ((i:Int)<(y.length:Int)))
 .
  have zm:=oF ze;refine lB 90 ze (ai (cV (CG.exit ?_)))
  show CG _ _ _ _ _ _ _ _
  refine aG ?_;rw[show i=p.length by omega] at bb
  have dp:=hW1.get (m-1+p.length);refine lL e dx (bg 132 (((m:Int)-1)+(y.length:Nat)) (m-1+p.length) ?_);refine lL e dx (bg 136 (((m:Int)-1)+(y.length:Nat)) (m-1+p.length) ?_);refine lX 137 (sB z) (x.length+1) (x.length+1) 1 (m-1+p.length:Nat) (m-1+p.length) rfl (lQ 138 1 u1 ar 1 0 (m-1+p.length) (mV ((u1).getD (m-1+p.length) 0)) e oM (lL e aF ?_));obtain ⟨I,zc,fz,c4,c8,bt⟩:=oo ((u1).getD (m-1+p.length) 0) cy bo wM wM oM;refine lV 141 (.tuple #[mV I,mV zc]) ?_ (hr:=dV kR (bt _));refine lL e [.c,.v (mV I),.v (mV zc)] (lX 144 (sB z) (x.length+1) (x.length+1) 1 (m-1+p.length:Nat) (m-1+p.length) rfl ?_);refine lW 1 u1 ar 1 (m-1+p.length) I e oM (fun _ e=>?_);have zk:((u1).set (m-1+p.length) I).length=(x.length+1):=by rw[Jr];exact hu1
  replace e:=e.to [⟨M,22,(K).flatMap ar⟩,⟨z,22,((u1).set (m-1+p.length) I).flatMap ar⟩] [];refine lL e ac (ai (aG ?_));have hE:=vN oM bb (s:=I) (bo':=zc) oM;have hW4:Wd ((u1).set (m-1+p.length) I):=hW1.set _ oM;have S:=bl.set (x:=I) (show m-1+p.length<m-1+p.length+1 by omega) oM;refine lL e ac ?_;cases zf:((zc:Int) != (0:Int))
  .
   have zn:=az zf;refine lB 146 zf (ah (cK (kQ ?_)));have hD_:=B6 W rfl C J hW4 hjn O hR1 hG S (by rw[show zc=0 by omega] at hE;exact hE);have hDw:=hW4;have hDg:=hgb;have hDu:=hD_.1;have hDe:=hD_.2;refine lL e dx (lX 186 (sB M) ((x.length-y.length)+1) ((x.length-y.length)+1) 1 ((m:Int)-1) (m-1) rfl ?_);refine lW 0 K ar 1 (m-1) g e oM (fun _ e=>?_);have zw:((K).set (m-1) g).length=((x.length-y.length)+1):=by rw[Jr];exact hql
   replace e:=e.to [⟨M,22,((K).set (m-1) g).flatMap ar⟩,⟨z,22,((u1).set (m-1+p.length) I).flatMap ar⟩] [];refine lN (kQ (lL e ac (lV 56 (iV (((m-1:Nat):Int)-1)) ?_ (hr:=rS ((((m:Int)-1)-1)) kR ((dQ oM oM).trans oM)))));refine lL e ac (lD ?_);intro a_ ka;refine ⟨_,_,?_,⟨m-1,(u1).set (m-1+p.length) I,(K).set (m-1) g,zq,rfl,rfl,e.to _ _,oM,zk,hDw,zw,(hWq.set _ hDg),hDu,(vd oM (hq0 _ oM) inv hDe),(fun k hk=>by rw[bB oM,if_neg oM];exact hq0 k oM)⟩,ka.to _ kR⟩
   omega
  have zn:=a7 zf;refine lB 146 zf (ak (aa e ac ?_));have hE1:=hE;rw[show zc=1 by omega] at hE1
  have hgp:=DM W rfl C J hW4 hjn O hR1 hG S hE1;refine lV 148 (mV (g-1)) ?_ (hr:=rU (((g:Int)-(1:Int))) kR (fh g 1 oM oM));refine lL e ac (aE (lL e ac (ai (aa e aF (bx ?_)))));refine bG _ (CG.loop (fun Z Γ w_=>∃ (u:Nat)(F:List Nat)(c2:Nat)(B:Hp),Z=y.length-u/\Γ=[(4,qS (sB M) ((x.length-y.length)+1) ((x.length-y.length)+1)),(5,sZ),(6,nV y.length),(7,nV (64-nb (y.getD (y.length-1) 0))),(8,qS V y.length vc),(9,qS (sB z) (x.length+1) (x.length+1)),(10,iV ((m:Int)-1)),(11,mV (g-1)),(149,nV y.length),(150,nV u),(19,mV c2)]/\SS w h w_ B [⟨M,22,(K).flatMap ar⟩,⟨z,22,(F).flatMap ar⟩] [] [fun B=>SlO 1 ar 0 B Uo zu,fun B=>SlO 1 ar 0 B V p,fun B=>SlO 1 ar 0 B V zv,fun B=>SlO 1 ar 0 B D y,fun B=>SlO 1 ar 0 B A x]/\u<=y.length/\F.length=x.length+1/\Wd F/\c2<=1/\am 18446744073709551616 F+18446744073709551616^(m-1+u)*c2=am 18446744073709551616 ((u1).set (m-1+p.length) I)+18446744073709551616^(m-1)*am 18446744073709551616 (p.take u)/\Above F H (m-1+p.length+1)) _ ⟨0,(u1).set (m-1+p.length) I,0,zq,rfl,rfl,e.to _ _,JF _,zk,hW4,oM,(by simp[am]),S⟩ ?_);rintro _ _ _ ⟨u,F,c2,zG,c5,rfl,e,hi2,hu2,hW2,hc2,Y,bk⟩;have br:=hW2.get (m-1+u);have dn:=C.get u;refine aG ?_;cases zg:(decide ((u:Int)<(y.length:Int)))
  .
   have zo:=oF zg;refine lB 151 zg (ai (cV (CG.exit ?_)))
   show CG _ _ _ _ _ _ _ _
   refine kQ (lL e dx (bg 177 (((m:Int)-1)+(y.length:Nat)) (m-1+p.length) ?_));refine lX 178 (sB z) (x.length+1) (x.length+1) 1 (m-1+p.length:Nat) (m-1+p.length) rfl (lQ 179 1 F ar 1 0 (m-1+p.length) (mV ((F).getD (m-1+p.length) 0)) e oM (lL e ac (lV 181 (mV ((((F).getD (m-1+p.length) 0)+c2)%18446744073709551616)) ?_ (hr:=rU (((((F).getD (m-1+p.length) 0:Nat):Int)+(c2:Int))) kR (xA ((F).getD (m-1+p.length) 0) c2)))));refine lX 182 (sB z) (x.length+1) (x.length+1) 1 (m-1+p.length:Nat) (m-1+p.length) rfl (lW 1 F ar 1 (m-1+p.length) ((((F).getD (m-1+p.length) 0)+c2)%18446744073709551616:Nat) e oM (fun _ e=>?_));have zx:((F).set (m-1+p.length) ((((F).getD (m-1+p.length) 0)+c2)%18446744073709551616:Nat)).length=(x.length+1):=by rw[Jr];exact hu2
   replace e:=e.to [⟨M,22,(K).flatMap ar⟩,⟨z,22,((F).set (m-1+p.length) ((((F).getD (m-1+p.length) 0)+c2)%18446744073709551616:Nat)).flatMap ar⟩] [];refine lN (kQ ?_);have b2:u=p.length:=by omega
   rw[b2] at Y
   have br:=hW2.get (m-1+p.length);have hE3:=vP (s:=(F.getD (m-1+p.length) 0+c2)%18446744073709551616) (c':=(F.getD (m-1+p.length) 0+c2)/18446744073709551616) oM Y (Nat.mod_add_div _ _);have hDw:Wd ((F).set (m-1+p.length) ((((F).getD (m-1+p.length) 0)+c2)%18446744073709551616:Nat)):=hW2.set _ (va _ kD);obtain ⟨hDu,hDe,hDp⟩:=Fe W rfl C J hW4 hDw hjn O hR1 hG S (bk.set oM oM) hE1 hE3;have hDg:g-1<18446744073709551616:=by omega
   refine lL e dx (lX 186 (sB M) ((x.length-y.length)+1) ((x.length-y.length)+1) 1 ((m:Int)-1) (m-1) rfl ?_);refine lW 0 K ar 1 (m-1) (g-1) e oM (fun _ e=>?_);have zA:((K).set (m-1) (g-1)).length=((x.length-y.length)+1):=by rw[Jr];exact hql
   replace e:=e.to [⟨M,22,((K).set (m-1) (g-1)).flatMap ar⟩,⟨z,22,((F).set (m-1+p.length) ((((F).getD (m-1+p.length) 0)+c2)%18446744073709551616:Nat)).flatMap ar⟩] [];refine lN (kQ (lL e ac (lV 56 (iV (((m-1:Nat):Int)-1)) ?_ (hr:=rS ((((m:Int)-1)-1)) kR ((dQ oM oM).trans oM)))));refine lL e ac (lD ?_);intro a_ ka;refine ⟨_,_,?_,⟨m-1,(F).set (m-1+p.length) ((((F).getD (m-1+p.length) 0)+c2)%18446744073709551616:Nat),(K).set (m-1) (g-1),zG,rfl,rfl,e.to _ _,oM,zx,hDw,zA,(hWq.set _ hDg),hDu,(vd oM (hq0 _ oM) inv hDe),(fun k hk=>by rw[bB oM,if_neg oM];exact hq0 k oM)⟩,ka.to _ kR⟩
   omega
  have zo:=oT zg;refine lB 151 zg (ai (ci (cK (cQ (kZ (aa e aF (lN (cR 19 [] mixed e aw ?_))))))));refine eV 0 154 (qS (sB z) (x.length+1) (x.length+1)) (eV 1 155 (iV ((m:Int)-1)) (eV 2 156 (nV u) (iR 3 157 (((m:Int)-1)+(u:Nat)) (m-1+u) (eV 4 158 (qS (sB z) (x.length+1) (x.length+1)) (eV 5 159 (iV ((m:Int)-1)) (eV 6 160 (nV u) (iR 7 161 (((m:Int)-1)+(u:Nat)) (m-1+u) (eX 8 162 (sB z) (x.length+1) (x.length+1) 1 (m-1+u:Nat) (m-1+u) rfl (eQ 9 163 1 F ar 1 0 (m-1+u) (mV ((F).getD (m-1+u) 0)) e oM (eV 10 164 (qS V y.length vc) (eV 11 165 (nV u) (eX 12 166 V y.length vc 1 (u:Nat) u ((e.f.2.1).ok oM) (eH 13 167 (mV (p.getD u 0)) e ((e.f.2.1).el u oM) (eV 14 168 (mV c2) ?_))))))))))))));obtain ⟨Q,zj,hb,c7,fn,b3⟩:=dM ((F).getD (m-1+u) 0) (p.getD u 0) c2 wM wM oM;refine eV 15 169 (.tuple #[mV Q,mV zj]) ?_ (hv:=fun _=>dV kR (b3 _));refine eV 16 153 (.tuple #[mV Q,mV zj]) (eV 17 170 (mV Q) (eV 18 171 (mV zj) (cG e (fun _ zH e=>tX 19 172 (sB z) (x.length+1) (x.length+1) 1 (m-1+u:Nat) (m-1+u) rfl (tW 20 1 F ar 1 (m-1+u) Q e oM (fun _ e=>?_))))));have zB:((F).set (m-1+u) Q).length=(x.length+1):=by rw[Jr];exact hu2
  replace e:=e.to [⟨M,22,(K).flatMap ar⟩,⟨z,22,((F).set (m-1+u) Q).flatMap ar⟩] [];refine tV 21 19 (mV zj) (tN (kQ (bg 173 ((u:Nat)+1) (u+1) ?_)));refine lL e ac (lD ?_);intro a_ ka;refine ⟨_,_,?_,⟨u+1,(F).set (m-1+u) Q,zj,zH,rfl,rfl,e.to _ _,oM,zB,(hW2.set _ oM),oM,(sl oM Y oM),(bk.set oM oM)⟩,ka.to _ kR⟩
  omega
 have zm:=oT ze;refine lB 90 ze (ai (ci (cK (cQ (kZ (aa e aF (aE (lL e dx (lX 96 V y.length vc 1 (i:Nat) i ((e.f.2.1).ok oM) ?_)))))))));refine lH 97 (mV (p.getD i 0)) e ((e.f.2.1).el i oM) (lC 98 e (l9 g (p.getD i 0) wM wM _ _ e.g) ?_);rintro _ _ zI e ⟨U,zs,rfl,fm,c6,dc,hc⟩;have b7:=gN (a:=g) (b:=(p.getD i 0)) wM wM;refine lL e [.c,.v (mV U),.v (mV zs),.c,.c] (aE (lL e aF ?_));obtain ⟨s99,zb,cz,cm,ch,bp⟩:=dM zs cy 0 wM wM oM;refine lV 104 (.tuple #[mV s99,mV zb]) ?_ (hr:=dV kR (bp _));refine lL e [.c,.v (mV s99),.v (mV zb),.c,.c] (aE (lL e aF (lV 109 (mV (U+zb)) ?_ (hr:=rU (((U:Int)+(zb:Int))) kR (dj U zb oM)))));refine lL e ac (lN (kQ (lL e dx (bg 114 (((m:Int)-1)+(i:Nat)) (m-1+i) ?_))));refine lL e dx (bg 118 (((m:Int)-1)+(i:Nat)) (m-1+i) ?_);refine lX 119 (sB z) (x.length+1) (x.length+1) 1 (m-1+i:Nat) (m-1+i) rfl (lQ 120 1 u1 ar 1 0 (m-1+i) (mV ((u1).getD (m-1+i) 0)) e oM (lL e aF ?_));obtain ⟨L,zi,c3,b9,cx,bq⟩:=oo ((u1).getD (m-1+i) 0) s99 bo wM wM oM;refine lV 123 (.tuple #[mV L,mV zi]) ?_ (hr:=dV kR (bq _));refine lL e [.c,.v (mV L),.v (mV zi)] (lX 126 (sB z) (x.length+1) (x.length+1) 1 (m-1+i:Nat) (m-1+i) rfl ?_);refine lW 1 u1 ar 1 (m-1+i) L e oM (fun _ e=>?_);have zp:((u1).set (m-1+i) L).length=(x.length+1):=by rw[Jr];exact hu1
 replace e:=e.to [⟨M,22,(K).flatMap ar⟩,⟨z,22,((u1).set (m-1+i) L).flatMap ar⟩] [];refine lL e ac (lN (bG [(4,qS (sB M) ((x.length-y.length)+1) ((x.length-y.length)+1)),(5,sZ),(6,nV y.length),(7,nV (64-nb (y.getD (y.length-1) 0))),(8,qS V y.length vc),(9,qS (sB z) (x.length+1) (x.length+1)),(10,iV ((m:Int)-1)),(11,mV g),(88,nV y.length),(89,nV i),(12,mV (U+zb)),(13,mV zi)] ?_));refine kQ (bg 127 ((i:Nat)+1) (i+1) ?_);refine lL e ac (lD ?_);intro a_ ka;refine ⟨_,_,?_,⟨i+1,(u1).set (m-1+i) L,(U+zb),zi,zI,rfl,rfl,e.to _ _,oM,zp,(hW1.set _ oM),oM,oM,(si (t:=s99) oM bb oM oM),(bl.set oM oM)⟩,ka.to _ kR⟩
 omega
theorem du (A:Z9)(c:Nat)(l:List Nat)(m x:Nat)(b:l.length=m)(e:Wd l)(hv:aA l=x)(f:l.length<=1099511627776)(d:l.length<=c)(w:World)(h:Hp)(g:G w h)(a:SlO 1 ar 0 h A l):CV 128 #[.slice A m c] w h (nv x):=by
 subst b hv;exact oD A c l e f d w h g a
theorem Gi (a b:Nat)(K:(wds a).length<=1000000000)(L:(wds b).length<=1000000000)(p:a<18446744073709551616)(k:b<18446744073709551616)(w:World)(h:Hp)(g:G w h):CV 194 #[nv a,nv b] w h (nv (a+b)):=by
 have e:=sS g;have F:=u9 p;have J:=u9 k;refine go Tryz.func194 [(0,nv a),(1,nv b)] rfl (aG (lA 2 24 (nc a) e (fun z w2 U e=>lA 3 24 (nc b) e (fun D M S e=>lA 4 24 ([uV 0,eS]) e (fun O V Q e=>ai (aa e [.v (qP z 1),.o (.string (hi a)) 2 1 1] (lV 14 qT ?_ (hr:=rb kR (iL (eA p))))))))));refine lL e [.c,.v (qP D 1),.o (.string (hi b)) 1 1 1] (lV 18 qT ?_ (hr:=rb kR (iL (eA k))));refine lL e [.v qT] (ak (aa e [.v (pB z),.o (mV (a%18446744073709551616)) 2 0 1,.v (pB D),.o (mV (b%18446744073709551616)) 1 0 1] ?_));obtain ⟨i,j,B,C,y,u⟩:=dM (a%18446744073709551616) (b%18446744073709551616) 0 wM wM oM;refine lV 25 (.tuple #[mV i,mV j]) ?_ (hr:=dV kR (u _));refine lL e [.c,.v (mV i),.v (mV j),.c,.c] (ai (aa e ac ?_));cases x:((j:Int) == (0:Int))
 .
  have I:=ao x;refine lB 29 x (ah (cK (aa e aF (lR 34 22 2 ([mV i,mV j]) e (fun H _ _ e=>?_)))));replace e:=e.aS (SlO.of_flat (sz:=1) (f:=ar) (d:=0) (l:=[i,j]) (fun _=>rfl) e.f.1);exact aq 35 e (du (sB H) 2 ([i,j]) 2 ((a+b)) (by first|rfl|assumption|(simp;done)|(simp;omega)|omega) (Dg.cons oM (Dg.one oM)) (by show i+18446744073709551616*(j+18446744073709551616*0)=a+b;omega) sM sM _ _ e.g e.f.1) (fun _ _ e=>lP 0 0 (nc (a+b)) e (fun _ e=>af e [(0,0,2)] (nv (a+b)) rfl))
 have I:=eq_of_beq x;exact lB 29 x (ak (aa e [.c,.v (.agg #[mV i,eS])] (lP 0 0 ([mV i,eS]) e (fun _ e=>af e [(0,0,2)] (.agg #[mV i,eS]) (by rw[show i=a+b by omega];exact jT oM)))))
theorem Gu (a b:Nat)(hla:(wds a).length<=1000000000)(hlb:(wds b).length<=1000000000)(has:18446744073709551616<=a)(hb0:0<b)(hle:(wds b).length<=(wds a).length)(w:World)(h:Hp)(g:G w h):CV 194 #[nv a,nv b] w h (nv (a+b)):=by
 have e:=sS g;refine go Tryz.func194 [(0,nv a),(1,nv b)] rfl (aG (lA 2 24 (nc a) e (fun C w2 h3 e=>lA 3 24 (nc b) e (fun F w5 h6 e=>lA 4 24 ([uV 0,eS]) e (fun D w8 h9 e=>ai (aa e [.v (qP C 1),.o (.string (hi a)) 2 1 1] (lV 14 qF ?_ (hr:=rb kR (gK (fC has))))))))));refine lL e ac (lG 16 ?_);refine lG 17 (lG 18 (lL e [.v qF] (ah (cK (cQ ?_)))));obtain ⟨L,hK_⟩:∃ L,L=w8.heap.size:=⟨_,rfl⟩;have bd:D<L:=by rw[hK_];exact gm e 0
 have H:F<L:=by rw[hK_];exact gm e 1
 have K:C<L:=by rw[hK_];exact gm e 2
 refine AU ⟨[],some (L,[])⟩ 0 mixed ?_;have bm:=e.g.size;replace e:=e.drew;have B:=JN hK_;refine zO 0 36 [(2,0,2)] (nv a) rfl B e (fun p hp=>by obtain rfl:=o0.1 hp;exact K) (zO 2 38 [(1,0,2)] (nv b) rfl B e (fun p hp=>by obtain rfl:=o0.1 hp;exact H) (xo 1 37 (fe a oM oM _ _ e.g) rfl B ?_));rintro _ _ _ u12 B ⟨j,rfl,X,O,b3⟩;obtain ⟨_,e,-,-⟩:=e.take u12 X O;replace e:=e.to [⟨j,22,(wds a).flatMap ar⟩,⟨D,24,[uV 0,eS]⟩,⟨F,24,nc b⟩,⟨C,24,nc a⟩] [];refine xo 3 39 (fe b oM oM _ _ e.g) rfl B ?_;rintro _ _ _ u16 B ⟨u,rfl,S,W,bw⟩;obtain ⟨zn,e,-,-⟩:=e.take u16 S W;replace e:=e.to [⟨u,22,(wds b).flatMap ar⟩,⟨j,22,(wds a).flatMap ar⟩,⟨D,24,[uV 0,eS]⟩,⟨F,24,nc b⟩,⟨C,24,nc a⟩] [];refine zV 4 7 (qS (sB j) ((wds a).length) ((wds a).length)) (zV 5 8 (qS (sB u) ((wds b).length) ((wds b).length)) (tN (cQ (aa e [.c,.v (nV ((wds a).length)),.c,.v (nV ((wds b).length))] ?_))));have ⟨zk,bb⟩:=dF (p:=(((wds a).length:Nat):Int)<(((wds b).length:Nat):Int)) oM;refine lB 44 zk (ah (cK (aa e ac (ai (aa e [.c,.v (nV ((wds a).length)),.c] (bx ?_))))));refine bG _ (CG.loop (fun μ_ Γ w_=>∃ (i:Nat)(l:List Nat)(x:Nat)(h_:Hp),μ_=(wds a).length-i/\Γ=[(4,pB D),(7,qS (sB j) ((wds a).length) ((wds a).length)),(8,qS (sB u) ((wds b).length) ((wds b).length)),(48,nV ((wds a).length)),(49,nV i),(9,mV x)]/\SS w h w_ h_ [⟨u,22,(wds b).flatMap ar⟩,⟨j,22,(l).flatMap ar⟩,⟨D,24,[uV 0,eS]⟩,⟨F,24,nc b⟩,⟨C,24,nc a⟩] [] []/\i<=(wds a).length/\l.length=(wds a).length/\Wd l/\x<=1/\am 18446744073709551616 l+18446744073709551616^i*x=a+am 18446744073709551616 ((wds b:List Nat).take i)) _ ⟨0,wds a,0,zn,rfl,rfl,e.to _ _,JF _,rfl,Wd.wds _,oM,(by have hx_:am 18446744073709551616 (wds a)=a:=aZ _;rw[hx_];simp[am])⟩ ?_);rintro _ _ _ ⟨i,l,x,zj,bl,rfl,e,hi,U,Q,hcy,J⟩;have hlk:=Q.get i;have hyk:=(Wd.wds b).get i;refine aG ?_;cases Z:(decide ((i:Int)<(((wds a).length:Nat):Int)))
 .
  have zf:=oF Z;refine lB 50 Z (ai (cV (CG.exit ?_)))
  show CG _ _ _ _ _ _ _ _
  refine cQ (aG ?_);have I:=J;rw[I5 (show (wds b).length<=i by first|omega|(simp;done)|(simp;omega))] at I
  rw[show i=l.length by omega] at I
  have hE_:am 18446744073709551616 (wds b)=b:=aZ _;replace I:am 18446744073709551616 l+18446744073709551616^l.length*x=(a+b):=by rw[I,hE_];first|done|omega
  refine lL e ac ?_;cases zb:((x:Int) != (0:Int))
  .
   have zg:=az zb;refine lB 75 zb (ah (cK (aG ?_)));obtain ⟨_,e,M,b0,bq⟩:=e.pub 1;replace e:=(e.to [⟨u,22,(wds b).flatMap ar⟩,⟨D,24,[uV 0,eS]⟩,⟨F,24,nc b⟩,⟨C,24,nc a⟩] []).aS (SlO.of_flat (sz:=1) (f:=ar) (d:=0) (b:=j) (o:=0) (l:=l) (fun _=>rfl) M);exact lL e ac (aq 81 e (du (sB j) ((wds a).length) (l) ((wds a).length) ((a+b)) (by first|rfl|assumption|(simp;done)|(simp;omega)|omega) (Q) (by rw[show x=0 by omega,Ao,sw] at I;exact I) sM sM _ _ e.g e.f.1) (fun _ _ e=>lP 1 0 (nc (a+b)) e (fun _ e=>af e [(1,0,2)] (nv (a+b)) rfl)))
  have zg:=a7 zb;refine lB 75 zb (ak (kQ (lL e aF (lR 78 22 1 ([mV x]) e (fun zo _ _ e=>Hs 79 1 ((wds a).length) zo l ar 0 x 8 (uV 0) e e.f.1 oM oM (fun zp zq _ _ e bk=>?_))))));replace e:=e.to [⟨u,22,(wds b).flatMap ar⟩,⟨D,24,[uV 0,eS]⟩,⟨F,24,nc b⟩,⟨C,24,nc a⟩] [];exact lL e ac (aE (lL e ac (aq 81 e (du zp zq (l++[x]) ((wds a).length+1) ((a+b)) (by first|rfl|assumption|(simp;done)|(simp;omega)|omega) (Dg.append Q (Dg.one oM)) (by show am _ (l++[x])=_;rw[cA];show _+_*(x+_*0)=_;rw[Ao,sw];exact I) sM sM _ _ e.g e.f.1) (fun _ _ e=>lP 1 0 (nc (a+b)) e (fun _ e=>af e [(1,0,2)] (nv (a+b)) rfl)))))
 have zf:=oT Z;refine lB 50 Z (ai (ci (cK (cQ (kZ (aa e aF (aE (lL e ac (ai (aa e [.c,.c,.v (nV ((wds b).length))] ?_))))))))));cases zc:(decide ((i:Int)<(((wds b).length:Nat):Int)))
 .
  have zi:=oF zc;refine lB 55 zc (ah (cK (kQ (lL e m4 (lX 65 (sB j) ((wds a).length) ((wds a).length) 1 (i:Nat) i rfl ?_)))));refine lQ 66 1 l ar 1 0 i (mV ((l).getD i 0)) e oM (lL e aF ?_);obtain ⟨y,zd,b5,bt,b2,V⟩:=dM ((l).getD i 0) 0 x wM wM oM;refine lV 69 (.tuple #[mV y,mV zd]) ?_ (hr:=dV kR (V _));refine lL e [.c,.v (mV y),.v (mV zd)] (lX 72 (sB j) ((wds a).length) ((wds a).length) 1 (i:Nat) i rfl ?_);refine lW 1 l ar 1 i y e oM (fun _ e=>?_);have zl:((l).set i y).length=(wds a).length:=by rw[Jr];exact U
  replace e:=e.to [⟨u,22,(wds b).flatMap ar⟩,⟨j,22,((l).set i y).flatMap ar⟩,⟨D,24,[uV 0,eS]⟩,⟨F,24,nc b⟩,⟨C,24,nc a⟩] [];refine lL e ac (lN (kQ (bg 73 ((i:Nat)+1) (i+1) ?_)));refine lL e ac (lD ?_);intro a_ ka;refine ⟨_,_,?_,⟨i+1,(l).set i y,zd,zj,rfl,rfl,e.to _ _,oM,zl,(Q.set _ oM),oM,(fP oM J (by first|omega|(have hy0:=cP (l:=(wds b:List Nat)) (k:=i) (by first|omega|(simp;done));omega)))⟩,ka.to _ kR⟩
  omega
 have zi:=oT zc;refine lB 55 zc (ak (kQ (lL e aF (lX 58 (sB u) ((wds b).length) ((wds b).length) 1 (i:Nat) i rfl ?_))));refine lQ 59 0 (wds b) ar 1 0 i (mV ((wds b).getD i 0)) e oM (lL e ac (lN (kQ (lL e m4 (lX 65 (sB j) ((wds a).length) ((wds a).length) 1 (i:Nat) i rfl ?_)))));refine lQ 66 1 l ar 1 0 i (mV ((l).getD i 0)) e oM (lL e aF ?_);obtain ⟨z,ze,bp,br,b6,Y⟩:=dM ((l).getD i 0) ((wds b).getD i 0) x wM wM oM;refine lV 69 (.tuple #[mV z,mV ze]) ?_ (hr:=dV kR (Y _));refine lL e [.c,.v (mV z),.v (mV ze)] (lX 72 (sB j) ((wds a).length) ((wds a).length) 1 (i:Nat) i rfl ?_);refine lW 1 l ar 1 i z e oM (fun _ e=>?_);have zm:((l).set i z).length=(wds a).length:=by rw[Jr];exact U
 replace e:=e.to [⟨u,22,(wds b).flatMap ar⟩,⟨j,22,((l).set i z).flatMap ar⟩,⟨D,24,[uV 0,eS]⟩,⟨F,24,nc b⟩,⟨C,24,nc a⟩] [];refine lL e ac (lN (kQ (bg 73 ((i:Nat)+1) (i+1) ?_)));refine lL e ac (lD ?_);intro a_ ka;refine ⟨_,_,?_,⟨i+1,(l).set i z,ze,zj,rfl,rfl,e.to _ _,oM,zm,(Q.set _ oM),oM,(fP oM J (by first|omega|(have hy0:=cP (l:=(wds b:List Nat)) (k:=i) (by first|omega|(simp;done));omega)))⟩,ka.to _ kR⟩
 omega
theorem CW (a b:Nat)(hla:(wds a).length<=1000000000)(hlb:(wds b).length<=1000000000)(ha0:0<a)(hbs:18446744073709551616<=b)(hlt:(wds a).length<(wds b).length)(w:World)(h:Hp)(g:G w h):CV 194 #[nv a,nv b] w h (nv (a+b)):=by
 have e:=sS g;refine go Tryz.func194 [(0,nv a),(1,nv b)] rfl (aG (lA 2 24 (nc a) e (fun C w2 h3 e=>lA 3 24 (nc b) e (fun F w5 h6 e=>lA 4 24 ([uV 0,eS]) e (fun D w8 h9 e=>?_)))));refine lN (CG.join (fun Γ w_=>∃  (h_:Hp),Γ=[(2,pB C),(3,pB F),(4,pB D)]/\SS w h w_ h_ [⟨D,24,[uV 0,eS]⟩,⟨F,24,nc b⟩,⟨C,24,nc a⟩] [] []) ?_ ?_)
 .
  refine aa e [.v (qP C 1),.o (.string (hi a)) 2 1 1] ?_;cases za:(kl (hi a) (⟨#[]⟩))
  .
   have zg:=gh za;refine lB 14 za (lL e ac (lG 16 ?_));refine lG 17 (lG 18 (lL e [.v qF] (ah (CG.skip ?_))));intro a_ K;exact ⟨_,⟨h9,rfl,e.to _ _⟩,K.to _ kR⟩
  have zg:=gu za;refine lB 14 za (lL e [.c,.v (qP F 1),.o (.string (hi b)) 1 1 1] (lV 18 qF ?_ (hr:=rb kR (gK (fC hbs)))));refine lL e [.v qF] (ah (CG.skip ?_));intro a_ K;exact ⟨_,⟨h9,rfl,e.to _ _⟩,K.to _ kR⟩
 rintro _ zp ⟨_,rfl,e⟩;refine cQ ?_;obtain ⟨M,hK_⟩:∃ M,M=zp.heap.size:=⟨_,rfl⟩;have bd:D<M:=by rw[hK_];exact gm e 0
 have H:F<M:=by rw[hK_];exact gm e 1
 have L:C<M:=by rw[hK_];exact gm e 2
 refine AU ⟨[],some (M,[])⟩ 0 mixed ?_;have bm:=e.g.size;replace e:=e.drew;have B:=JN hK_;refine zO 0 36 [(2,0,2)] (nv a) rfl B e (fun p hp=>by obtain rfl:=o0.1 hp;exact L) (zO 2 38 [(1,0,2)] (nv b) rfl B e (fun p hp=>by obtain rfl:=o0.1 hp;exact H) (xo 1 37 (fe a oM oM _ _ e.g) rfl B ?_));rintro _ _ _ u15 B ⟨u,rfl,Z,O,b6⟩;obtain ⟨_,e,-,-⟩:=e.take u15 Z O;replace e:=e.to [⟨u,22,(wds a).flatMap ar⟩,⟨D,24,[uV 0,eS]⟩,⟨F,24,nc b⟩,⟨C,24,nc a⟩] [];refine xo 3 39 (fe b oM oM _ _ e.g) rfl B ?_;rintro _ _ _ u19 B ⟨j,rfl,S,X,br⟩;obtain ⟨zq,e,-,-⟩:=e.take u19 S X;replace e:=e.to [⟨j,22,(wds b).flatMap ar⟩,⟨u,22,(wds a).flatMap ar⟩,⟨D,24,[uV 0,eS]⟩,⟨F,24,nc b⟩,⟨C,24,nc a⟩] [];refine zV 4 7 (qS (sB u) ((wds a).length) ((wds a).length)) (zV 5 8 (qS (sB j) ((wds b).length) ((wds b).length)) (tN (cQ (aa e [.c,.v (nV ((wds a).length)),.c,.v (nV ((wds b).length))] ?_))));have ⟨zm,bb⟩:=dT (p:=(((wds a).length:Nat):Int)<(((wds b).length:Nat):Int)) oM;refine lB 44 zm (ak (kQ (lL e m4 (aE (lL e ac (ai (aa e [.c,.v (nV ((wds b).length)),.c] (bx ?_))))))));refine bG _ (CG.loop (fun μ_ Γ w_=>∃ (i:Nat)(l:List Nat)(x:Nat)(h_:Hp),μ_=(wds b).length-i/\Γ=[(4,pB D),(7,qS (sB j) ((wds b).length) ((wds b).length)),(8,qS (sB u) ((wds a).length) ((wds a).length)),(48,nV ((wds b).length)),(49,nV i),(9,mV x)]/\SS w h w_ h_ [⟨j,22,(l).flatMap ar⟩,⟨u,22,(wds a).flatMap ar⟩,⟨D,24,[uV 0,eS]⟩,⟨F,24,nc b⟩,⟨C,24,nc a⟩] [] []/\i<=(wds b).length/\l.length=(wds b).length/\Wd l/\x<=1/\am 18446744073709551616 l+18446744073709551616^i*x=b+am 18446744073709551616 ((wds a:List Nat).take i)) _ ⟨0,wds b,0,zq,rfl,rfl,e.to _ _,JF _,rfl,Wd.wds _,oM,(by have hx_:am 18446744073709551616 (wds b)=b:=aZ _;rw[hx_];simp[am])⟩ ?_);rintro _ _ _ ⟨i,l,x,zl,bt,rfl,e,hi,U,Q,hcy,J⟩;have hlk:=Q.get i;have hyk:=(Wd.wds a).get i;refine aG ?_;cases zb:(decide ((i:Int)<(((wds b).length:Nat):Int)))
 .
  have zi:=oF zb;refine lB 50 zb (ai (cV (CG.exit ?_)))
  show CG _ _ _ _ _ _ _ _
  refine cQ (aG ?_);have I:=J;rw[I5 (show (wds a).length<=i by first|omega|(simp;done)|(simp;omega))] at I
  rw[show i=l.length by omega] at I
  have hE_:am 18446744073709551616 (wds a)=a:=aZ _;replace I:am 18446744073709551616 l+18446744073709551616^l.length*x=(a+b):=by rw[I,hE_];first|done|omega
  refine lL e ac ?_;cases zc:((x:Int) != (0:Int))
  .
   have zj:=az zc;refine lB 75 zc (ah (cK (aG ?_)));obtain ⟨_,e,V,b0,b2⟩:=e.pub 0;replace e:=(e.to [⟨u,22,(wds a).flatMap ar⟩,⟨D,24,[uV 0,eS]⟩,⟨F,24,nc b⟩,⟨C,24,nc a⟩] []).aS (SlO.of_flat (sz:=1) (f:=ar) (d:=0) (b:=j) (o:=0) (l:=l) (fun _=>rfl) V);exact lL e ac (aq 81 e (du (sB j) ((wds b).length) (l) ((wds b).length) ((a+b)) (by first|rfl|assumption|(simp;done)|(simp;omega)|omega) (Q) (by rw[show x=0 by omega,Ao,sw] at I;exact I) sM sM _ _ e.g e.f.1) (fun _ _ e=>lP 1 0 (nc (a+b)) e (fun _ e=>af e [(1,0,2)] (nv (a+b)) rfl)))
  have zj:=a7 zc;refine lB 75 zc (ak (kQ (lL e aF (lR 78 22 1 ([mV x]) e (fun zr _ _ e=>Hs 79 0 ((wds b).length) zr l ar 0 x 8 (uV 0) e e.f.1 oM oM (fun zs zt _ _ e bk=>?_))))));replace e:=e.to [⟨u,22,(wds a).flatMap ar⟩,⟨D,24,[uV 0,eS]⟩,⟨F,24,nc b⟩,⟨C,24,nc a⟩] [];exact lL e ac (aE (lL e ac (aq 81 e (du zs zt (l++[x]) ((wds b).length+1) ((a+b)) (by first|rfl|assumption|(simp;done)|(simp;omega)|omega) (Dg.append Q (Dg.one oM)) (by show am _ (l++[x])=_;rw[cA];show _+_*(x+_*0)=_;rw[Ao,sw];exact I) sM sM _ _ e.g e.f.1) (fun _ _ e=>lP 1 0 (nc (a+b)) e (fun _ e=>af e [(1,0,2)] (nv (a+b)) rfl)))))
 have zi:=oT zb;refine lB 50 zb (ai (ci (cK (cQ (kZ (aa e aF (aE (lL e ac (ai (aa e [.c,.c,.v (nV ((wds a).length))] ?_))))))))));cases zd:(decide ((i:Int)<(((wds a).length:Nat):Int)))
 .
  have zk:=oF zd;refine lB 55 zd (ah (cK (kQ (lL e m4 (lX 65 (sB j) ((wds b).length) ((wds b).length) 1 (i:Nat) i rfl ?_)))));refine lQ 66 0 l ar 1 0 i (mV ((l).getD i 0)) e oM (lL e aF ?_);obtain ⟨y,ze,b3,bl,bp,Y⟩:=dM ((l).getD i 0) 0 x wM wM oM;refine lV 69 (.tuple #[mV y,mV ze]) ?_ (hr:=dV kR (Y _));refine lL e [.c,.v (mV y),.v (mV ze)] (lX 72 (sB j) ((wds b).length) ((wds b).length) 1 (i:Nat) i rfl ?_);refine lW 0 l ar 1 i y e oM (fun _ e=>?_);have zn:((l).set i y).length=(wds b).length:=by rw[Jr];exact U
  replace e:=e.to [⟨j,22,((l).set i y).flatMap ar⟩,⟨u,22,(wds a).flatMap ar⟩,⟨D,24,[uV 0,eS]⟩,⟨F,24,nc b⟩,⟨C,24,nc a⟩] [];refine lL e ac (lN (kQ (bg 73 ((i:Nat)+1) (i+1) ?_)));refine lL e ac (lD ?_);intro a_ K;refine ⟨_,_,?_,⟨i+1,(l).set i y,ze,zl,rfl,rfl,e.to _ _,oM,zn,(Q.set _ oM),oM,(fP oM J (by first|omega|(have hy0:=cP (l:=(wds a:List Nat)) (k:=i) (by first|omega|(simp;done));omega)))⟩,K.to _ kR⟩
  omega
 have zk:=oT zd;refine lB 55 zd (ak (kQ (lL e aF (lX 58 (sB u) ((wds a).length) ((wds a).length) 1 (i:Nat) i rfl ?_))));refine lQ 59 1 (wds a) ar 1 0 i (mV ((wds a).getD i 0)) e oM (lL e ac (lN (kQ (lL e m4 (lX 65 (sB j) ((wds b).length) ((wds b).length) 1 (i:Nat) i rfl ?_)))));refine lQ 66 0 l ar 1 0 i (mV ((l).getD i 0)) e oM (lL e aF ?_);obtain ⟨z,zf,b5,bq,bw,W⟩:=dM ((l).getD i 0) ((wds a).getD i 0) x wM wM oM;refine lV 69 (.tuple #[mV z,mV zf]) ?_ (hr:=dV kR (W _));refine lL e [.c,.v (mV z),.v (mV zf)] (lX 72 (sB j) ((wds b).length) ((wds b).length) 1 (i:Nat) i rfl ?_);refine lW 0 l ar 1 i z e oM (fun _ e=>?_);have zo:((l).set i z).length=(wds b).length:=by rw[Jr];exact U
 replace e:=e.to [⟨j,22,((l).set i z).flatMap ar⟩,⟨u,22,(wds a).flatMap ar⟩,⟨D,24,[uV 0,eS]⟩,⟨F,24,nc b⟩,⟨C,24,nc a⟩] [];refine lL e ac (lN (kQ (bg 73 ((i:Nat)+1) (i+1) ?_)));refine lL e ac (lD ?_);intro a_ K;refine ⟨_,_,?_,⟨i+1,(l).set i z,zf,zl,rfl,rfl,e.to _ _,oM,zo,(Q.set _ oM),oM,(fP oM J (by first|omega|(have hy0:=cP (l:=(wds a:List Nat)) (k:=i) (by first|omega|(simp;done));omega)))⟩,K.to _ kR⟩
 omega
theorem Ft (b:Nat)(hl:(wds b).length<=1000000000)(I:18446744073709551616<=b)(w:World)(h:Hp)(g:G w h):CV 194 #[nv 0,nv b] w h (nv (0+b)):=by
 have a:=sS g;have h2l:=cC I;refine go Tryz.func194 [(0,nv 0),(1,nv b)] rfl (aG (lA 2 24 (nc 0) a (fun y w2 h3 a=>lA 3 24 (nc b) a (fun F w5 h6 a=>lA 4 24 ([uV 0,eS]) a (fun B w8 h9 a=>ai (aa a [.v (qP y 1),.o (.string (hi 0)) 2 1 1] (lV 14 qT ?_ (hr:=rb kR (iL rfl)))))))));refine lL a [.c,.v (qP F 1),.o (.string (hi b)) 1 1 1] (lV 18 qF ?_ (hr:=rb kR (gK (fC I))));refine lL a [.v qF] (ah (cK (cQ ?_)));obtain ⟨H,hK_⟩:∃ H,H=w8.heap.size:=⟨_,rfl⟩;have bd:B<H:=by rw[hK_];exact gm a 0
 have z:F<H:=by rw[hK_];exact gm a 1
 have D:y<H:=by rw[hK_];exact gm a 2
 refine AU ⟨[],some (H,[])⟩ 0 mixed ?_;have bw:=a.g.size;replace a:=a.drew;have u:=JN hK_;refine zO 0 36 [(2,0,2)] (nv 0) rfl u a (fun p hp=>by obtain rfl:=o0.1 hp;exact D) (zO 2 38 [(1,0,2)] (nv b) rfl u a (fun p hp=>by obtain rfl:=o0.1 hp;exact z) (xo 1 37 (jA _ _ a.g) rfl u ?_));rintro _ _ _ X u rfl;replace a:=a.step X;refine xo 3 39 (fe b oM oM _ _ a.g) rfl u ?_;rintro _ _ _ u15 u ⟨e,rfl,K,O,br⟩;obtain ⟨zj,a,-,-⟩:=a.take u15 K O;replace a:=a.to [⟨e,22,(wds b).flatMap ar⟩,⟨B,24,[uV 0,eS]⟩,⟨F,24,nc b⟩,⟨y,24,nc 0⟩] [];refine zV 4 7 (sZ) (zV 5 8 (qS (sB e) ((wds b).length) ((wds b).length)) (tN (cQ (aa a [.c,.v (iV 0),.c,.v (nV ((wds b).length))] ?_))));have ⟨zf,bb⟩:=dT (p:=(0:Int)<(((wds b).length:Nat):Int)) oM;refine lB 44 zf (ak (kQ (lL a m4 (aE (lL a ac (ai (aa a [.c,.v (nV ((wds b).length)),.c] (bx ?_))))))));refine bG _ (CG.loop (fun μ_ Γ w_=>∃ (i:Nat)(l:List Nat)(j:Nat)(h_:Hp),μ_=(wds b).length-i/\Γ=[(4,pB B),(7,qS (sB e) ((wds b).length) ((wds b).length)),(8,sZ),(48,nV ((wds b).length)),(49,nV i),(9,mV j)]/\SS w h w_ h_ [⟨e,22,(l).flatMap ar⟩,⟨B,24,[uV 0,eS]⟩,⟨F,24,nc b⟩,⟨y,24,nc 0⟩] [] []/\i<=(wds b).length/\l.length=(wds b).length/\Wd l/\j<=1/\am 18446744073709551616 l+18446744073709551616^i*j=b+am 18446744073709551616 (([]:List Nat).take i)) _ ⟨0,wds b,0,zj,rfl,rfl,a.to _ _,JF _,rfl,Wd.wds _,oM,(by have W:am 18446744073709551616 (wds b)=b:=aZ _;rw[W];simp[am])⟩ ?_);rintro _ _ _ ⟨i,l,j,zk,bk,rfl,a,hi,hll,U,hcy,L⟩;have hlk:=U.get i;have hyk:=Wd.get (l:=[]) Dg.nil i;refine aG ?_;cases S:(decide ((i:Int)<(((wds b).length:Nat):Int)))
 .
  have zd:=oF S;refine lB 50 S (ai (cV (CG.exit ?_)))
  show CG _ _ _ _ _ _ _ _
  refine cQ (aG ?_);have C:=L;rw[I5 (show ([]).length<=i by first|omega|(simp;done)|(simp;omega))] at C
  rw[show i=l.length by omega] at C
  have hE_:([]:List Nat)=[]:=rfl;replace C:am 18446744073709551616 l+18446744073709551616^l.length*j=(0+b):=by rw[C];simp[am]
  refine lL a ac ?_;cases Q:((j:Int) != (0:Int))
  .
   have ze:=az Q;refine lB 75 Q (ah (cK (aG ?_)));obtain ⟨_,a,J,bq,bp⟩:=a.pub 0;replace a:=(a.to [⟨B,24,[uV 0,eS]⟩,⟨F,24,nc b⟩,⟨y,24,nc 0⟩] []).aS (SlO.of_flat (sz:=1) (f:=ar) (d:=0) (b:=e) (o:=0) (l:=l) (fun _=>rfl) J);exact lL a ac (aq 81 a (du (sB e) ((wds b).length) (l) ((wds b).length) ((0+b)) (by first|rfl|assumption|(simp;done)|(simp;omega)|omega) (U) (by rw[show j=0 by omega,Ao,sw] at C;exact C) sM sM _ _ a.g a.f.1) (fun _ _ a=>lP 0 0 (nc (0+b)) a (fun _ a=>af a [(0,0,2)] (nv (0+b)) rfl)))
  have ze:=a7 Q;refine lB 75 Q (ak (kQ (lL a aF (lR 78 22 1 ([mV j]) a (fun zl _ _ a=>Hs 79 0 ((wds b).length) zl l ar 0 j 8 (uV 0) a a.f.1 oM oM (fun zm zn _ _ a Y=>?_))))));replace a:=a.to [⟨B,24,[uV 0,eS]⟩,⟨F,24,nc b⟩,⟨y,24,nc 0⟩] [];exact lL a ac (aE (lL a ac (aq 81 a (du zm zn (l++[j]) ((wds b).length+1) ((0+b)) (by first|rfl|assumption|(simp;done)|(simp;omega)|omega) (Dg.append U (Dg.one oM)) (by show am _ (l++[j])=_;rw[cA];show _+_*(j+_*0)=_;rw[Ao,sw];exact C) sM sM _ _ a.g a.f.1) (fun _ _ a=>lP 0 0 (nc (0+b)) a (fun _ a=>af a [(0,0,2)] (nv (0+b)) rfl)))))
 have zd:=oT S;refine lB 50 S (ai (ci (cK (cQ (kZ (aa a aF (aE (lL a ac (ai (aa a [.c,.c,.v (iV 0)] ?_))))))))));have ⟨zg,V⟩:=dF (p:=(i:Int)<(0:Int)) oM;refine lB 55 zg (ah (cK (kQ (lL a m4 (lX 65 (sB e) ((wds b).length) ((wds b).length) 1 (i:Nat) i rfl ?_)))));refine lQ 66 0 l ar 1 0 i (mV ((l).getD i 0)) a oM (lL a aF ?_);obtain ⟨x,Z,bm,bl,bt,M⟩:=dM ((l).getD i 0) 0 j wM wM oM;refine lV 69 (.tuple #[mV x,mV Z]) ?_ (hr:=dV kR (M _));refine lL a [.c,.v (mV x),.v (mV Z)] (lX 72 (sB e) ((wds b).length) ((wds b).length) 1 (i:Nat) i rfl ?_);refine lW 0 l ar 1 i x a oM (fun _ a=>?_);have zi:((l).set i x).length=(wds b).length:=by rw[Jr];exact hll
 replace a:=a.to [⟨e,22,((l).set i x).flatMap ar⟩,⟨B,24,[uV 0,eS]⟩,⟨F,24,nc b⟩,⟨y,24,nc 0⟩] [];refine lL a ac (lN (kQ (bg 73 ((i:Nat)+1) (i+1) ?_)));refine lL a ac (lD ?_);intro a_ ka;refine ⟨_,_,?_,⟨i+1,(l).set i x,Z,zk,rfl,rfl,a.to _ _,oM,zi,(U.set _ oM),oM,(fP oM L (by first|omega|(have hy0:=cP (l:=([]:List Nat)) (k:=i) (by first|omega|(simp;done));omega)))⟩,ka.to _ kR⟩
 omega
theorem DD (a:Nat)(hl:(wds a).length<=1000000000)(L:18446744073709551616<=a)(w:World)(h:Hp)(g:G w h):CV 194 #[nv a,nv 0] w h (nv (a+0)):=by
 have e:=sS g;have h2l:=cC L;refine go Tryz.func194 [(0,nv a),(1,nv 0)] rfl (aG (lA 2 24 (nc a) e (fun z w2 h3 e=>lA 3 24 (nc 0) e (fun I w5 h6 e=>lA 4 24 ([uV 0,eS]) e (fun C w8 h9 e=>ai (aa e [.v (qP z 1),.o (.string (hi a)) 2 1 1] (lV 14 qF ?_ (hr:=rb kR (gK (fC L))))))))));refine lL e ac (lG 16 ?_);refine lG 17 (lG 18 (lL e [.v qF] (ah (cK (cQ ?_)))));obtain ⟨H,hK_⟩:∃ H,H=w8.heap.size:=⟨_,rfl⟩;have bk:C<H:=by rw[hK_];exact gm e 0
 have B:I<H:=by rw[hK_];exact gm e 1
 have F:z<H:=by rw[hK_];exact gm e 2
 refine AU ⟨[],some (H,[])⟩ 0 mixed ?_;have b0:=e.g.size;replace e:=e.drew;have x:=JN hK_;refine zO 0 36 [(2,0,2)] (nv a) rfl x e (fun p hp=>by obtain rfl:=o0.1 hp;exact F) (zO 2 38 [(1,0,2)] (nv 0) rfl x e (fun p hp=>by obtain rfl:=o0.1 hp;exact B) (xo 1 37 (fe a oM oM _ _ e.g) rfl x ?_));rintro _ _ _ Z x ⟨j,rfl,K,Q,bt⟩;obtain ⟨_,e,-,-⟩:=e.take Z K Q;replace e:=e.to [⟨j,22,(wds a).flatMap ar⟩,⟨C,24,[uV 0,eS]⟩,⟨I,24,nc 0⟩,⟨z,24,nc a⟩] [];refine xo 3 39 (jA _ _ e.g) rfl x ?_;rintro _ _ zj W x rfl;replace e:=e.step W;refine zV 4 7 (qS (sB j) ((wds a).length) ((wds a).length)) (zV 5 8 (sZ) (tN (cQ (aa e [.c,.v (nV ((wds a).length)),.c,.v (iV 0)] ?_))));have ⟨zf,bd⟩:=dF (p:=(((wds a).length:Nat):Int)<(0:Int)) oM;refine lB 44 zf (ah (cK (aa e ac (ai (aa e [.c,.v (nV ((wds a).length)),.c] (bx ?_))))));refine bG _ (CG.loop (fun μ_ Γ w_=>∃ (i:Nat)(l:List Nat)(u:Nat)(h_:Hp),μ_=(wds a).length-i/\Γ=[(4,pB C),(7,qS (sB j) ((wds a).length) ((wds a).length)),(8,sZ),(48,nV ((wds a).length)),(49,nV i),(9,mV u)]/\SS w h w_ h_ [⟨j,22,(l).flatMap ar⟩,⟨C,24,[uV 0,eS]⟩,⟨I,24,nc 0⟩,⟨z,24,nc a⟩] [] []/\i<=(wds a).length/\l.length=(wds a).length/\Wd l/\u<=1/\am 18446744073709551616 l+18446744073709551616^i*u=a+am 18446744073709551616 (([]:List Nat).take i)) _ ⟨0,wds a,0,zj,rfl,rfl,e.to _ _,JF _,rfl,Wd.wds _,oM,(by have Y:am 18446744073709551616 (wds a)=a:=aZ _;rw[Y];simp[am])⟩ ?_);rintro _ _ _ ⟨i,l,u,zk,bl,rfl,e,hi,hll,V,hcy,M⟩;have hlk:=V.get i;have hyk:=Wd.get (l:=[]) Dg.nil i;refine aG ?_;cases U:(decide ((i:Int)<(((wds a).length:Nat):Int)))
 .
  have zd:=oF U;refine lB 50 U (ai (cV (CG.exit ?_)))
  show CG _ _ _ _ _ _ _ _
  refine cQ (aG ?_);have D:=M;rw[I5 (show ([]).length<=i by first|omega|(simp;done)|(simp;omega))] at D
  rw[show i=l.length by omega] at D
  have hE_:([]:List Nat)=[]:=rfl;replace D:am 18446744073709551616 l+18446744073709551616^l.length*u=(a+0):=by rw[D];simp[am]
  refine lL e ac ?_;cases S:((u:Int) != (0:Int))
  .
   have ze:=az S;refine lB 75 S (ah (cK (aG ?_)));obtain ⟨_,e,J,br,bq⟩:=e.pub 0;replace e:=(e.to [⟨C,24,[uV 0,eS]⟩,⟨I,24,nc 0⟩,⟨z,24,nc a⟩] []).aS (SlO.of_flat (sz:=1) (f:=ar) (d:=0) (b:=j) (o:=0) (l:=l) (fun _=>rfl) J);exact lL e ac (aq 81 e (du (sB j) ((wds a).length) (l) ((wds a).length) ((a+0)) (by first|rfl|assumption|(simp;done)|(simp;omega)|omega) (V) (by rw[show u=0 by omega,Ao,sw] at D;exact D) sM sM _ _ e.g e.f.1) (fun _ _ e=>lP 0 0 (nc (a+0)) e (fun _ e=>af e [(0,0,2)] (nv (a+0)) rfl)))
  have ze:=a7 S;refine lB 75 S (ak (kQ (lL e aF (lR 78 22 1 ([mV u]) e (fun zl _ _ e=>Hs 79 0 ((wds a).length) zl l ar 0 u 8 (uV 0) e e.f.1 oM oM (fun zm zn _ _ e bb=>?_))))));replace e:=e.to [⟨C,24,[uV 0,eS]⟩,⟨I,24,nc 0⟩,⟨z,24,nc a⟩] [];exact lL e ac (aE (lL e ac (aq 81 e (du zm zn (l++[u]) ((wds a).length+1) ((a+0)) (by first|rfl|assumption|(simp;done)|(simp;omega)|omega) (Dg.append V (Dg.one oM)) (by show am _ (l++[u])=_;rw[cA];show _+_*(u+_*0)=_;rw[Ao,sw];exact D) sM sM _ _ e.g e.f.1) (fun _ _ e=>lP 0 0 (nc (a+0)) e (fun _ e=>af e [(0,0,2)] (nv (a+0)) rfl)))))
 have zd:=oT U;refine lB 50 U (ai (ci (cK (cQ (kZ (aa e aF (aE (lL e ac (ai (aa e [.c,.c,.v (iV 0)] ?_))))))))));have ⟨zg,X⟩:=dF (p:=(i:Int)<(0:Int)) oM;refine lB 55 zg (ah (cK (kQ (lL e m4 (lX 65 (sB j) ((wds a).length) ((wds a).length) 1 (i:Nat) i rfl ?_)))));refine lQ 66 0 l ar 1 0 i (mV ((l).getD i 0)) e oM (lL e aF ?_);obtain ⟨y,zc,bp,bm,bw,O⟩:=dM ((l).getD i 0) 0 u wM wM oM;refine lV 69 (.tuple #[mV y,mV zc]) ?_ (hr:=dV kR (O _));refine lL e [.c,.v (mV y),.v (mV zc)] (lX 72 (sB j) ((wds a).length) ((wds a).length) 1 (i:Nat) i rfl ?_);refine lW 0 l ar 1 i y e oM (fun _ e=>?_);have zi:((l).set i y).length=(wds a).length:=by rw[Jr];exact hll
 replace e:=e.to [⟨j,22,((l).set i y).flatMap ar⟩,⟨C,24,[uV 0,eS]⟩,⟨I,24,nc 0⟩,⟨z,24,nc a⟩] [];refine lL e ac (lN (kQ (bg 73 ((i:Nat)+1) (i+1) ?_)));refine lL e ac (lD ?_);intro a_ ka;refine ⟨_,_,?_,⟨i+1,(l).set i y,zc,zk,rfl,rfl,e.to _ _,oM,zi,(V.set _ oM),oM,(fP oM M (by first|omega|(have hy0:=cP (l:=([]:List Nat)) (k:=i) (by first|omega|(simp;done));omega)))⟩,ka.to _ kR⟩
 omega
theorem A3 (a b:Nat)(c:(wds a).length<=1000000000)(d:(wds b).length<=1000000000)(w:World)(h:Hp)(g:G w h):CV 194 #[nv a,nv b] w h (nv (a+b)):=by
 rcases co a 18446744073709551616 with h1|h1
 ·rcases co b 18446744073709551616 with h2|h2
  ·exact Gi a b c d h1 h2 w h g
  ·rcases yz a with h3|h3
   ·subst h3;exact Ft b d h2 w h g
   ·exact CW a b c d h3 h2 (by have:=cC h2;have:=(fE (n:=a)).2 h1;omega) w h g
 ·rcases yz b with h3|h3
  ·subst h3;exact DD a c h1 w h g
  ·rcases co (wds a).length (wds b).length with h4|h4
   ·exact CW a b c d oM (by have:=cC h1;rcases co b 18446744073709551616 with h5|h5;(have:=(fE (n:=b)).2 h5;omega);exact h5) h4 w h g
   ·exact Gu a b c d h1 h3 h4 w h g
theorem CC {l:List Nat}{a b c:Nat}(e:Wd l)(d:am 18446744073709551616 l+b=a+18446744073709551616^l.length*c)(i:b<=a)(f:c<=1):aA l=a-b:=by
 have h1:=bW e
 have:c=0:=by
  rcases yz c with h|h
  ·exact h
  ·have:c=1:=by omega
   subst this;rw[I1] at d
   omega
 subst this;rw[Ao,sw] at d
 show am _ l=_
 omega
theorem B8 {a b q r:Nat}(h:a=b*q+r)(hr:r<b):q=a/b/\r=a%b:=by
 subst h;rw[Nat.mul_add_div oM,zY hr,Nat.mul_add_mod,u9 hr];simp
theorem fu (n:Nat)(e:(wds n).length<=1000000000)(w:World)(h:Hp)(g:G w h):CR 111 #[nv n] w h (fun v h1=>∃ A c,v=.slice A (wds n).length c/\(wds n).length<=c/\SlO 1 ar 0 h1 A (wds n)):=by
 rcases yz n with h0|h0
 ·subst h0
  refine (jA w h g).mono ?_;rintro _ w' ⟨_,a,rfl,u,rfl⟩;exact ⟨_,a,rfl,u,none,0,rfl,nR _,SlO.nil⟩
 ·refine (fe n h0 e w h g).mono ?_
  rintro _ w' ⟨_,a,rfl,u,b,rfl,_,_,d⟩;exact ⟨_,a,rfl,u,_,_,rfl,nR _,d⟩
theorem Gf (a b:Nat)(L:(wds a).length<=1000000000)(M:(wds b).length<=1000000000)(p:a<18446744073709551616)(k:b<18446744073709551616)(w:World)(h:Hp)(g:G w h):CV 193 #[nv a,nv b] w h (nv (a*b)):=by
 have e:=sS g;have z:=u9 p;have B:=u9 k;refine go Tryz.func193 [(0,nv a),(1,nv b)] rfl (aG (lA 2 24 (nc a) e (fun D w2 V e=>lA 3 24 (nc b) e (fun H O U e=>lA 4 24 ([uV 0,eS]) e (fun Q W S e=>ai (aa e [.v (qP D 1),.o (.string (hi a)) 2 1 1] (lV 9 qT ?_ (hr:=rb kR (iL (eA p))))))))));refine lL e [.c,.v (qP H 1),.o (.string (hi b)) 1 1 1] (lV 13 qT ?_ (hr:=rb kR (iL (eA k))));refine lL e [.v qT] (ak (aa e [.v (pB D),.o (mV (a%18446744073709551616)) 2 0 1,.v (pB H),.o (mV (b%18446744073709551616)) 1 0 1] (lC 20 e (l9 (a%18446744073709551616) (b%18446744073709551616) wM wM _ _ e.g) ?_)));rintro _ _ _ e ⟨i,j,rfl,u,F,C,I⟩;have y:=gN (a:=(a%18446744073709551616)) (b:=(b%18446744073709551616)) wM wM;refine lL e [.c,.v (mV i),.v (mV j),.c,.c] (ai (aG ?_));rw[z,B] at u
 refine lL e ac ?_;cases x:((i:Int) == (0:Int))
 .
  have K:=ao x;refine lB 24 x (ah (cK (aa e aF (lR 29 22 2 ([mV j,mV i]) e (fun J _ _ e=>?_)))));replace e:=e.aS (SlO.of_flat (sz:=1) (f:=ar) (d:=0) (l:=[j,i]) (fun _=>rfl) e.f.1);exact aq 30 e (du (sB J) 2 ([j,i]) 2 ((a*b)) (by first|rfl|assumption|(simp;done)|(simp;omega)|omega) (Dg.cons oM (Dg.one oM)) (by show j+18446744073709551616*(i+18446744073709551616*0)=a*b;omega) sM sM _ _ e.g e.f.1) (fun _ _ e=>lP 0 0 (nc (a*b)) e (fun _ e=>af e [(0,0,2)] (nv (a*b)) rfl))
 have K:=eq_of_beq x;exact lB 24 x (ak (aa e [.c,.v (.agg #[mV j,eS])] (lP 0 0 ([mV j,eS]) e (fun _ e=>af e [(0,0,2)] (.agg #[mV j,eS]) (by rw[show j=a*b by omega];exact jT oM)))))
theorem F7 (a b:Nat)(H:(wds a).length<=1000000000)(I:(wds b).length<=1000000000)(j:18446744073709551616<=a)(w:World)(h:Hp)(g:G w h):CV 193 #[nv a,nv b] w h (nv (a*b)):=by
 have c:=sS g;refine go Tryz.func193 [(0,nv a),(1,nv b)] rfl (aG (lA 2 24 (nc a) c (fun D w2 V c=>lA 3 24 (nc b) c (fun W M U c=>lA 4 24 ([uV 0,eS]) c (fun Q O S c=>ai (aa c [.v (qP D 1),.o (.string (hi a)) 2 1 1] (lV 9 qF ?_ (hr:=rb kR (gK (fC j))))))))));refine lL c ac (lG 11 ?_);refine lG 12 (lG 13 (lL c [.v qF] (ah (cK (cQ (cR 6 [] mixed c aw ?_))))));refine eO 0 31 [(2,0,2)] (nv a) c (eO 2 33 [(1,0,2)] (nv b) c (eC 1 32 c (fun _ _ c=>fu a oM _ _ c.g) ?_));rintro _ _ _ _ _ c ⟨i,k,rfl,z,x⟩;replace c:=c.aS x;refine eC 3 34 c (fun _ _ c=>fu b oM _ _ c.g) ?_;rintro _ _ _ _ _ c ⟨l,p,rfl,y,u⟩;replace c:=c.aS u;refine eC 4 35 c (fun _ _ c=>CE i k (wds a) l p (wds b) (Wd.wds a) (Wd.wds b) oM oM _ _ c.g c.f.2.1 c.f.1) ?_;rintro _ _ _ _ _ c ⟨K,J,B,rfl,L,F,e,d,C⟩;replace c:=c.aS C;exact aK 5 36 c (fun _ _ c=>du K J (B) B.length ((a*b)) (by first|rfl|assumption|(simp;done)|(simp;omega)|omega) (e) (d.trans (by rw[aZ,aZ])) sM sM _ _ c.g c.f.1) (fun _ _ c=>cG c (fun _ _ c=>tP 6 0 0 (nc (a*b)) c (fun _ c=>tN (kX (c.ret [(0,0,2)] (nv (a*b)) rfl)))))
theorem Hb (a b:Nat)(J:(wds a).length<=1000000000)(L:(wds b).length<=1000000000)(l:a<18446744073709551616)(i:18446744073709551616<=b)(w:World)(h:Hp)(g:G w h):CV 193 #[nv a,nv b] w h (nv (a*b)):=by
 have d:=sS g;refine go Tryz.func193 [(0,nv a),(1,nv b)] rfl (aG (lA 2 24 (nc a) d (fun H w2 Y d=>lA 3 24 (nc b) d (fun K S X d=>lA 4 24 ([uV 0,eS]) d (fun V U W d=>ai (aa d [.v (qP H 1),.o (.string (hi a)) 2 1 1] (lV 9 qT ?_ (hr:=rb kR (iL (eA l))))))))));refine lL d [.c,.v (qP K 1),.o (.string (hi b)) 1 1 1] (lV 13 qF ?_ (hr:=rb kR (gK (fC i))));refine lL d [.v qF] (ah (cK (cQ (cR 6 [] mixed d aw ?_))));refine eO 0 31 [(2,0,2)] (nv a) d (eO 2 33 [(1,0,2)] (nv b) d (eC 1 32 d (fun _ _ d=>fu a oM _ _ d.g) ?_));rintro _ _ _ _ _ d ⟨k,p,rfl,C,z⟩;replace d:=d.aS z;refine eC 3 34 d (fun _ _ d=>fu b oM _ _ d.g) ?_;rintro _ _ _ _ _ d ⟨u,x,rfl,B,y⟩;replace d:=d.aS y;refine eC 4 35 d (fun _ _ d=>CE k p (wds a) u x (wds b) (Wd.wds a) (Wd.wds b) oM oM _ _ d.g d.f.2.1 d.f.1) ?_;rintro _ _ _ _ _ d ⟨O,M,D,rfl,Q,I,j,e,F⟩;replace d:=d.aS F;exact aK 5 36 d (fun _ _ d=>du O M (D) D.length ((a*b)) (by first|rfl|assumption|(simp;done)|(simp;omega)|omega) (j) (e.trans (by rw[aZ,aZ])) sM sM _ _ d.g d.f.1) (fun _ _ d=>cG d (fun _ _ d=>tP 6 0 0 (nc (a*b)) d (fun _ d=>tN (kX (d.ret [(0,0,2)] (nv (a*b)) rfl)))))
theorem nx (a b:Nat)(c:(wds a).length<=1000000000)(d:(wds b).length<=1000000000)(w:World)(h:Hp)(g:G w h):CV 193 #[nv a,nv b] w h (nv (a*b)):=by
 rcases co a 18446744073709551616 with h1|h1
 ·rcases co b 18446744073709551616 with h2|h2
  ·exact Gf a b c d h1 h2 w h g
  ·exact Hb a b c d h1 h2 w h g
 ·exact F7 a b c d h1 w h g
theorem CM (a b:Nat)(L:0<b)(S:(wds a).length<=1000000000)(I:(wds b).length<=1000000000)(z:a<18446744073709551616)(l:b<18446744073709551616)(w:World)(h:Hp)(g:G w h):CV 232 #[nv a,nv b] w h (.tuple #[nv (a/b),nv (a%b),.bool true]):=by
 have d:=sS g;have J:=(cl L).2.2;have M:=u9 l;refine go Tryz.func232 [(0,nv a),(1,nv b)] rfl (aG (lA 2 24 (nc a) d (fun C w2 X d=>lA 3 24 (nc b) d (fun H U W d=>lA 4 24 ([uV 0,eS]) d (fun Q Y V d=>lA 5 24 ([uV 0,eS]) d (fun O _ _ d=>lL d ac (ai (aa d [.o (nv b) 2 0 2] (aq 12 d (eJ b I _ _ d.g) (fun _ _ d=>?_))))))))));have K:(((nb b:Nat):Int) == (0:Int))=false:=hC oM;have D:=ao K;refine lB 13 K (ah (cK (cQ (aa d [.v (qP C 1),.o (.string (hi a)) 3 1 1] (lV 18 qT ?_ (hr:=rb kR (iL (eA z))))))));refine lL d [.c,.v (qP H 1),.o (.string (hi b)) 2 1 1] (lV 22 qT ?_ (hr:=rb kR (iL (eA l))));refine lL d [.v qT] (ak (cQ ?_));have B:=d;refine xK 12 [] [Q,O] mixed d aw (eV 0 24 (pB C) (eO 1 25 [(3,0,1)] (mV (a%18446744073709551616)) d (eV 2 26 (pB H) (eO 3 27 [(2,0,1)] (mV (b%18446744073709551616)) d (eV 4 28 (mV ((a%18446744073709551616)/(b%18446744073709551616))) ?_ (hv:=fun _=>aN (db (t:=22) (u:=22) (x:=.tmp 25) (y:=.tmp 27) (k:=.u64) (a:=((a%18446744073709551616:Nat):Int)) (b:=((b%18446744073709551616:Nat):Int)) kR kR kR oM _) (jD (a%18446744073709551616) (b%18446744073709551616) oM)))))));refine eV 5 29 (.agg #[mV ((a%18446744073709551616)/(b%18446744073709551616)),eS]) (eV 6 30 (pB C) (uA 7 31 [(3,0,1)] (mV (a%18446744073709551616)) B d ?_ (hM:=fun p F=>by obtain rfl:=o0.1 F;exact fun f=>by rcases gq.1 f with e|f;exact cB d.st (i:=3) (j:=1) kR kR kR e;rcases gq.1 f with e|f;exact cB d.st (i:=3) (j:=0) kR kR kR e;cases f)));refine eV 8 32 (pB H) (uA 9 33 [(2,0,1)] (mV (b%18446744073709551616)) B d ?_ (hM:=fun p F=>by obtain rfl:=o0.1 F;exact fun f=>by rcases gq.1 f with e|f;exact cB d.st (i:=2) (j:=1) kR kR kR e;rcases gq.1 f with e|f;exact cB d.st (i:=2) (j:=0) kR kR kR e;cases f));refine eV 10 34 (mV ((a%18446744073709551616)%(b%18446744073709551616))) ?_ (hv:=fun _=>aN (d4 (t:=22) (u:=22) (x:=.tmp 31) (y:=.tmp 33) (k:=.u64) (a:=((a%18446744073709551616:Nat):Int)) (b:=((b%18446744073709551616:Nat):Int)) kR kR kR oM _) (cM (a%18446744073709551616) (b%18446744073709551616)));refine eV 11 35 (.agg #[mV ((a%18446744073709551616)%(b%18446744073709551616)),eS]) (cG d (fun _ _ d=>tP 12 1 0 ([mV ((a%18446744073709551616)/(b%18446744073709551616)),eS]) d (fun _ d=>?_) (hz:=cO (JO))));refine tP 13 0 0 ([mV ((a%18446744073709551616)%(b%18446744073709551616)),eS]) d (fun _ d=>?_) (hz:=cO (JP _<|JO));exact tV 14 6 qT (tN (kX (d.ret [(1,0,2),(0,0,2)] (.tuple #[.agg #[mV ((a%18446744073709551616)/(b%18446744073709551616)),eS],.agg #[mV ((a%18446744073709551616)%(b%18446744073709551616)),eS],qT]) (by rw[u9 z,u9 l,jT (show a/b<18446744073709551616 by have:=zF a b;omega),jT (show a%b<18446744073709551616 by have:=va a L;omega)]))))
theorem GI (a b:Nat)(hb:0<b)(K:(wds a).length<=1000000000)(M:(wds b).length<=1000000000)(Z:18446744073709551616<=a)(u:b<18446744073709551616)(w:World)(h:Hp)(g:G w h):CV 232 #[nv a,nv b] w h (.tuple #[nv (a/b),nv (a%b),.bool true]):=by
 have i:=sS g;have bl:=(cl hb).2.2;have br:=u9 u;have hcl:=il (show b<=a by omega);refine go Tryz.func232 [(0,nv a),(1,nv b)] rfl (aG (lA 2 24 (nc a) i (fun F w2 h3 i=>lA 3 24 (nc b) i (fun C w5 h6 i=>lA 4 24 ([uV 0,eS]) i (fun Q w8 h9 i=>lA 5 24 ([uV 0,eS]) i (fun S _ _ i=>lL i ac (ai (aa i [.o (nv b) 2 0 2] (aq 12 i (eJ b M _ _ i.g) (fun _ _ i=>?_))))))))));have zb:(((nb b:Nat):Int) == (0:Int))=false:=hC oM;have bb:=ao zb;refine lB 13 zb (ah (cK (cQ (aa i [.v (qP F 1),.o (.string (hi a)) 3 1 1] (lV 18 qF ?_ (hr:=rb kR (gK (fC Z))))))));refine lL i ac (lG 20 ?_);refine lG 21 (lG 22 (lL i [.v qF] (ah (cK (cQ (aa i [.o (nv a) 3 0 2,.o (nv b) 2 0 2] (aq 38 i (q4 a b K M _ _ i.g) (fun zd _ i=>?_))))))));have ⟨zc,V⟩:=dF (p:=(cX a b:Int)<(0:Int)) oM;refine lB 39 zc (ah (cK (cQ (aa i [.v (qP C 1),.o (.string (hi b)) 2 1 1] (lV 44 qT ?_ (hr:=rb kR (iL (eA u))))))));refine ak (cQ ?_);obtain ⟨x,hK_⟩:∃ x,x=zd.heap.size:=⟨_,rfl⟩;have U:S<x:=by rw[hK_];exact gm i 0
 have bd:Q<x:=by rw[hK_];exact gm i 1
 have y:C<x:=by rw[hK_];exact gm i 2
 have B:F<x:=by rw[hK_];exact gm i 3
 refine AU ⟨[],some (x,[])⟩ 0 mixed ?_;have bq:=i.g.size;replace i:=i.drew;have k:=JN hK_;refine zO 0 46 [(3,0,2)] (nv a) rfl k i (fun p hp=>by obtain rfl:=o0.1 hp;exact B) (zV 2 48 (pB C) (zO 3 49 [(2,0,1)] (mV (b%18446744073709551616)) rfl k i (fun p hp=>by obtain rfl:=o0.1 hp;exact y) (xo 1 47 (fe a oM oM _ _ i.g) rfl k ?_)));rintro _ _ _ Y k ⟨j,rfl,H,L,bm⟩;obtain ⟨_,i,-,-⟩:=i.take Y H L;replace i:=i.to [⟨j,22,(wds a).flatMap ar⟩,⟨S,24,[uV 0,eS]⟩,⟨Q,24,[uV 0,eS]⟩,⟨C,24,nc b⟩,⟨F,24,nc a⟩] [];refine IS 4 50 (Gd j (wds a) (wds a).length (b%18446744073709551616) oM oM (Wd.wds a) K (nR _) _ _ i.g (i.own 0) (i.jk 0)) rfl k oM ?_;rintro _ _ _ u25 k ⟨z,r,rfl,hzl,hWz,O,D,hOz⟩;replace i:=(i.stepM 0 u25 hOz).to [⟨j,22,(z).flatMap ar⟩,⟨S,24,[uV 0,eS]⟩,⟨Q,24,[uV 0,eS]⟩,⟨C,24,nc b⟩,⟨F,24,nc a⟩] [];refine zV 5 45 (.tuple #[qS (sB j) (tl z z.length) ((wds a).length),mV r]) (zV 6 51 (qS (sB j) (tl z z.length) ((wds a).length)) (zV 7 52 (mV r) (zV 8 7 (qS (sB j) (tl z z.length) ((wds a).length)) (zV 9 8 (mV r) (As ?_)))));have I:=u9 u;rw[aZ,I] at O
 rw[I] at D
 obtain ⟨W,X⟩:=B8 O D;have htz:=fX z z.length;have hQ:aA (z.take (tl z z.length))=a/b:=by have e:=ji 18446744073709551616 z z.length (nR _);rw[s1] at e;exact e.trans W
 obtain ⟨_,i,J,bp,bk⟩:=i.pub 0;replace i:=(i.to [⟨S,24,[uV 0,eS]⟩,⟨Q,24,[uV 0,eS]⟩,⟨C,24,nc b⟩,⟨F,24,nc a⟩] []).aS (SlO.of_flat (sz:=1) (f:=ar) (d:=0) (b:=j) (o:=0) (l:=z) (fun _=>rfl) J);exact lL i ac (aq 54 i (du (sB j) ((wds a).length) (z.take (tl z z.length)) (tl z z.length) ((a/b)) (by first|rfl|assumption|(simp;done)|(simp;omega)|omega) (Dg.take hWz _) (hQ) sM sM _ _ i.g ((i.f.1).take _)) (fun _ _ i=>lL i [.c,.v (.agg #[mV r,eS])] (lP 1 0 (nc (a/b)) i (fun _ i=>lP 0 0 ([mV r,eS]) i (fun _ i=>lL i ac (af i [(1,0,2),(0,0,2)] (.tuple #[nv (a/b),.agg #[mV r,eS],qT]) (by rw[X,jT (by have:=va a hb;omega)])))))))
theorem G3 (a b:Nat)(X:0<b)(i:(wds a).length<=1000000000)(j:(wds b).length<=1000000000)(e:b<=a)(D:18446744073709551616<=a)(d:18446744073709551616<=b)(w:World)(h:Hp)(g:G w h):CV 232 #[nv a,nv b] w h (.tuple #[nv (a/b),nv (a%b),.bool true]):=by
 have c:=sS g;have V:=(cl X).2.2;have hcl:=il e;have hlm:=dz e;have hl2:=cC d;refine go Tryz.func232 [(0,nv a),(1,nv b)] rfl (aG (lA 2 24 (nc a) c (fun b1 w2 h3 c=>lA 3 24 (nc b) c (fun b4 w5 h6 c=>lA 4 24 ([uV 0,eS]) c (fun b7 w8 h9 c=>lA 5 24 ([uV 0,eS]) c (fun b10 _ _ c=>lL c ac (ai (aa c [.o (nv b) 2 0 2] (aq 12 c (eJ b j _ _ c.g) (fun _ _ c=>?_))))))))));have W:(((nb b:Nat):Int) == (0:Int))=false:=hC oM;have K:=ao W;refine lB 13 W (ah (cK (cQ (aa c [.v (qP b1 1),.o (.string (hi a)) 3 1 1] (lV 18 qF ?_ (hr:=rb kR (gK (fC D))))))));refine lL c ac (lG 20 ?_);refine lG 21 (lG 22 (lL c [.v qF] (ah (cK (cQ (aa c [.o (nv a) 3 0 2,.o (nv b) 2 0 2] (aq 38 c (q4 a b i j _ _ c.g) (fun _ _ c=>?_))))))));have ⟨Z,z⟩:=dF (p:=(cX a b:Int)<(0:Int)) oM;refine lB 39 Z (ah (cK (cQ (aa c [.v (qP b4 1),.o (.string (hi b)) 2 1 1] (lV 44 qF ?_ (hr:=rb kR (gK (fC d))))))));refine ah (cK (cQ (cR 8 [] mixed c aw ?_)));refine eO 0 58 [(3,0,2)] (nv a) c (eO 2 60 [(2,0,2)] (nv b) c (eC 1 59 c (fun _ _ c=>fu a oM _ _ c.g) ?_));rintro _ _ _ _ _ c ⟨C,F,rfl,Y,S⟩;replace c:=c.aS S;refine eC 3 61 c (fun _ _ c=>fu b oM _ _ c.g) ?_;rintro _ _ _ _ _ c ⟨J,M,rfl,U,O⟩;replace c:=c.aS O;refine eC 4 62 c (fun _ _ c=>Fd C F (wds a) J M (wds b) (Wd.wds a) (Wd.wds b) i oM oM (lp X) _ _ c.g c.f.2.1 c.f.1) ?_;rintro _ _ _ _ _ c ⟨l,k,q,u,x,r,rfl,hcq,hcr,H,B,Q,L,hlq,hlr,I,y⟩;replace c:=c.aP I y;exact eV 5 57 (.tuple #[qS l q.length k,qS u r.length x]) (eV 6 63 (qS l q.length k) (eV 7 64 (qS u r.length x) (cG c (fun _ _ c=>tV 8 9 (qS l q.length k) (tV 9 10 (qS u r.length x) (As (lL c ac (aq 66 c (du l k (q) q.length ((a/b)) (by first|rfl|assumption|(simp;done)|(simp;omega)|omega) (H) (Q.trans (by rw[aZ,aZ])) sM sM _ _ c.g c.f.2.1) (fun _ _ c=>lL c ac (aq 68 c (du u x (r) r.length ((a%b)) (by first|rfl|assumption|(simp;done)|(simp;omega)|omega) (B) (L.trans (by rw[aZ,aZ])) sM sM _ _ c.g c.f.1) (fun _ _ c=>lP 1 0 (nc (a/b)) c (fun _ c=>lP 0 0 (nc (a%b)) c (fun _ c=>lL c ac (af c [(1,0,2),(0,0,2)] (.tuple #[nv (a/b),nv (a%b),qT]) rfl))))))))))))))
theorem Gx (a b:Nat)(L:0<b)(C:(wds a).length<=1000000000)(k:(wds b).length<=1000000000)(f:a<b)(y:a<18446744073709551616)(x:18446744073709551616<=b)(w:World)(h:Hp)(g:G w h):CV 232 #[nv a,nv b] w h (.tuple #[nv (a/b),nv (a%b),.bool true]):=by
 have d:=sS g;have D:=(cl L).2.2;have M:=dJ f;refine go Tryz.func232 [(0,nv a),(1,nv b)] rfl (aG (lA 2 24 (nc a) d (fun I w2 W d=>lA 3 24 (nc b) d (fun Q S V d=>lA 4 24 ([uV 0,eS]) d (fun J X U d=>lA 5 24 ([uV 0,eS]) d (fun K _ _ d=>lL d ac (ai (aa d [.o (nv b) 2 0 2] (aq 12 d (eJ b k _ _ d.g) (fun _ _ d=>?_))))))))));have F:(((nb b:Nat):Int) == (0:Int))=false:=hC oM;have B:=ao F;refine lB 13 F (ah (cK (cQ (aa d [.v (qP I 1),.o (.string (hi a)) 3 1 1] (lV 18 qT ?_ (hr:=rb kR (iL (eA y))))))));refine lL d [.c,.v (qP Q 1),.o (.string (hi b)) 2 1 1] (lV 22 qF ?_ (hr:=rb kR (gK (fC x))));refine lL d [.v qF] (ah (cK (cQ (aa d [.o (nv a) 3 0 2,.o (nv b) 2 0 2] (aq 38 d (q4 a b C k _ _ d.g) (fun _ _ d=>?_))))));have ⟨H,u⟩:=dT (p:=(cX a b:Int)<(0:Int)) oM;refine lB 39 H (ak (cQ ?_));have z:=d;refine xK 2 [] [J,K] mixed d aw (eV 0 40 (.agg #[uV 0,eS]) (uA 1 41 [(3,0,2)] (nv a) z d ?_ (hM:=fun p O=>by obtain rfl:=o0.1 O;exact fun l=>by rcases gq.1 l with e|l;exact cB d.st (i:=3) (j:=1) kR kR kR e;rcases gq.1 l with e|l;exact cB d.st (i:=3) (j:=0) kR kR kR e;cases l)));refine cG d (fun _ _ d=>tP 2 1 0 ([uV 0,eS]) d (fun _ d=>?_) (hz:=cO (JO)));refine tP 3 0 0 (nc a) d (fun _ d=>?_) (hz:=cO (JP _<|JO));exact tV 4 6 qT (tN (kX (d.ret [(1,0,2),(0,0,2)] (.tuple #[.agg #[uV 0,eS],nv a,qT]) (by have f:a<b:=(by rcases co a b with h_|h_;exact h_;rcases il h_ with e|e<;>omega);rw[zY f,u9 f];rfl))))
theorem Hn (a b:Nat)(J:0<b)(z:(wds a).length<=1000000000)(f:(wds b).length<=1000000000)(d:a<b)(u:18446744073709551616<=a)(w:World)(h:Hp)(g:G w h):CV 232 #[nv a,nv b] w h (.tuple #[nv (a/b),nv (a%b),.bool true]):=by
 have c:=sS g;have B:=(cl J).2.2;have K:=dJ d;refine go Tryz.func232 [(0,nv a),(1,nv b)] rfl (aG (lA 2 24 (nc a) c (fun F w2 S c=>lA 3 24 (nc b) c (fun U M Q c=>lA 4 24 ([uV 0,eS]) c (fun H V O c=>lA 5 24 ([uV 0,eS]) c (fun I _ _ c=>lL c ac (ai (aa c [.o (nv b) 2 0 2] (aq 12 c (eJ b f _ _ c.g) (fun _ _ c=>?_))))))))));have C:(((nb b:Nat):Int) == (0:Int))=false:=hC oM;have y:=ao C;refine lB 13 C (ah (cK (cQ (aa c [.v (qP F 1),.o (.string (hi a)) 3 1 1] (lV 18 qF ?_ (hr:=rb kR (gK (fC u))))))));refine lL c ac (lG 20 ?_);refine lG 21 (lG 22 (lL c [.v qF] (ah (cK (cQ (aa c [.o (nv a) 3 0 2,.o (nv b) 2 0 2] (aq 38 c (q4 a b z f _ _ c.g) (fun _ _ c=>?_))))))));have ⟨D,l⟩:=dT (p:=(cX a b:Int)<(0:Int)) oM;refine lB 39 D (ak (cQ ?_));have x:=c;refine xK 2 [] [H,I] mixed c aw (eV 0 40 (.agg #[uV 0,eS]) (uA 1 41 [(3,0,2)] (nv a) x c ?_ (hM:=fun p L=>by obtain rfl:=o0.1 L;exact fun k=>by rcases gq.1 k with e|k;exact cB c.st (i:=3) (j:=1) kR kR kR e;rcases gq.1 k with e|k;exact cB c.st (i:=3) (j:=0) kR kR kR e;cases k)));refine cG c (fun _ _ c=>tP 2 1 0 ([uV 0,eS]) c (fun _ c=>?_) (hz:=cO (JO)));refine tP 3 0 0 (nc a) c (fun _ c=>?_) (hz:=cO (JP _<|JO));exact tV 4 6 qT (tN (kX (c.ret [(1,0,2),(0,0,2)] (.tuple #[.agg #[uV 0,eS],nv a,qT]) (by have d:a<b:=(by rcases co a b with h_|h_;exact h_;rcases il h_ with e|e<;>omega);rw[zY d,u9 d];rfl))))
theorem Fy (a b:Nat)(e:0<b)(c:(wds a).length<=1000000000)(d:(wds b).length<=1000000000)(w:World)(h:Hp)(g:G w h):CV 232 #[nv a,nv b] w h (.tuple #[nv (a/b),nv (a%b),.bool true]):=by
 rcases co a b with hab|hab
 ·rcases co a 18446744073709551616 with h1|h1
  ·rcases co b 18446744073709551616 with h2|h2
   ·exact CM a b e c d h1 h2 w h g
   ·exact Gx a b e c d hab h1 h2 w h g
  ·exact Hn a b e c d hab h1 w h g
 ·rcases co b 18446744073709551616 with h2|h2
  ·rcases co a 18446744073709551616 with h1|h1
   ·exact CM a b e c d h1 h2 w h g
   ·exact GI a b e c d h1 h2 w h g
  ·exact G3 a b e c d hab oM h2 w h g
theorem jM {z:Int}{b:Bool}{n:Nat}(c:au z=b)(a:ab z=n):Value.agg #[.bool b,.int .u64 (lo n),.string (hi n)]=iv z:=by subst c a;rfl
theorem mG {z:Int}{b:Bool}(a:au z=b):iv z=Value.agg #[.bool b,.int .u64 (lo (ab z)),.string (hi (ab z))]:=(jM a rfl).symm
theorem lw (x y:Int):bE (au x != au y) (ab x*ab y)=x*y:=by
 rcases hx:au x with _|_<;>rcases hy:au y with _|_
 ·have h1:=bJ hx
  have c:=bJ hy;obtain ⟨a,rfl⟩:=JQ h1;obtain ⟨b,rfl⟩:=JQ c
  simp[bE,ab,JR,JS,JT]
 ·have h1:=bJ hx
  have c:=bT hy;obtain ⟨a,rfl⟩:=JQ h1;obtain ⟨b,d⟩:=JQ (a:=-y) oM;obtain rfl:y = -b:=by omega
  simp[bE,ab,JR,JS,JT]
 ·have h1:=bT hx
  have c:=bJ hy;obtain ⟨b,rfl⟩:=JQ c;obtain ⟨a,ha⟩:=JQ (a:=-x) oM;obtain rfl:x = -a:=by omega
  simp[bE,ab,JR,JS,JT]
 ·have h1:=bT hx
  have c:=bT hy;obtain ⟨a,ha⟩:=JQ (a:=-x) oM;obtain ⟨b,d⟩:=JQ (a:=-y) oM;obtain rfl:x = -a:=by omega
  obtain rfl:y = -b:=by omega
  simp[bE,ab,JR,JS,JT]
theorem j6 {a b:Nat}:(wds (a*b)).length<=(wds a).length+(wds b).length:=by
 refine f9 kD ?_;rw[A7];have h1:=fk a;have c:=fk b;exact ep (Nat.mul_lt_mul'' h1 c) (Nat.le_refl _)
theorem cn {a b k:Nat}(h:a<=b)(c:(wds b).length<=k):(wds a).length<=k:=ed (dz h) c
theorem xU (a:Nat)(w:World)(h:Hp)(g:G w h):CV 186 #[.bool false,nv a] w h (iv (bE false a)):=by
 have b:=sS g;refine go Tryz.func186 [(0,qF),(1,nv a)] rfl (aG (lA 3 24 (nc a) b (fun d w2 l b=>lA 4 26 ([qF,uV 0,eS]) b (fun c i f b=>ai (cR 8 [] mixed b aw ?_)))));exact eV 0 5 qF (eV 1 6 qF (eG 2 7 (eG 3 8 (eG 4 9 (eV 5 10 qF (eO 6 11 [(1,0,2)] (nv a) b (eV 7 12 (wX qF a) (cG b (fun e j b=>tP 8 0 0 (wC qF a) b (fun k b=>tN (kX (b.ret [(0,0,3)] (wX qF a) (jM (by rw[jq];rfl) (cd _ _))))))))))))))
theorem EK (k:(wds 0).length<=1000000000)(w:World)(h:Hp)(g:G w h):CV 186 #[.bool true,nv 0] w h (iv (bE true 0)):=by
 have a:=sS g;have b:nb 0=0:=rfl;refine go Tryz.func186 [(0,qT),(1,nv 0)] rfl (aG (lA 3 24 (nc 0) a (fun d w2 p a=>lA 4 26 ([qF,uV 0,eS]) a (fun c j i a=>ai (cR 8 [] mixed a aw ?_)))));refine eV 0 5 qT (eV 1 6 qT (eO 2 7 [(1,0,2)] (nv 0) a (eO 6 11 [(1,0,2)] (nv 0) a (aK 3 8 a (fun _ _ a=>eJ 0 aM _ _ a.g) (fun f l a=>eV 4 9 qF ?_ (hv:=fun _=>rb (e:=decide ((0:Int)<((nb 0:Nat):Int))) kR (decide_eq_false oM)))))));exact eV 5 10 qF (eV 7 12 (wX qF 0) (cG a (fun o _ a=>tP 8 0 0 (wC qF 0) a (fun _ a=>tN (kX (a.ret [(0,0,3)] (wX qF 0) (jM (by rw[jq];rfl) (cd _ _))))))))
theorem DI (a:Nat)(ha:0<a)(l:(wds a).length<=1000000000)(w:World)(h:Hp)(g:G w h):CV 186 #[.bool true,nv a] w h (iv (bE true a)):=by
 have b:=sS g;have c:=(cl ha).2.2;refine go Tryz.func186 [(0,qT),(1,nv a)] rfl (aG (lA 3 24 (nc a) b (fun f w2 u b=>lA 4 26 ([qF,uV 0,eS]) b (fun d k j b=>ai (cR 8 [] mixed b aw ?_)))));refine eV 0 5 qT (eV 1 6 qT (eO 2 7 [(1,0,2)] (nv a) b (eO 6 11 [(1,0,2)] (nv a) b (aK 3 8 b (fun _ _ b=>eJ a aM _ _ b.g) (fun i o b=>eV 4 9 qT ?_ (hv:=fun _=>rb (e:=decide ((0:Int)<((nb a:Nat):Int))) kR (decide_eq_true oM)))))));exact eV 5 10 qT (eV 7 12 (wX qT a) (cG b (fun p _ b=>tP 8 0 0 (wC qT a) b (fun _ b=>tN (kX (b.ret [(0,0,3)] (wX qT a) (jM (by rw[jq];simpa using ha) (cd _ _))))))))
theorem gU (b:Bool)(a:Nat)(c:(wds a).length<=1000000000)(w:World)(h:Hp)(g:G w h):CV 186 #[.bool b,nv a] w h (iv (bE b a)):=by
 cases b
 ·exact xU a w h g
 ·rcases yz a with h0|h0
  ·subst h0;exact EK c w h g
  ·exact DI a h0 c w h g
theorem H7 (z:Int)(h0 : -9223372036854775808<=z)(hz:z<0)(w:World)(h:Hp)(g:G w h):CV 117 #[iV z] w h (iv z):=by
 have a:=sS g;have d:ab z<=9223372036854775808:=by unfold ab;omega
 refine go Tryz.func117 [(0,iV z)] rfl (aG (lA 2 26 ([qF,uV 0,eS]) a (fun e w2 k a=>ai (aa a ac ?_))));have ⟨b,c⟩:=dT (p:=(z:Int)<(0:Int)) oM;refine lB 4 b (ak (aa a ac (lV 6 (mV (18446744073709551616-ab z)) ?_ (hr:=rU (z) kR (by rw[IntKind.wrap_u64];unfold ab;omega)))));refine lV 7 (mV (ab z)) ?_ (hr:=rU ((0-((18446744073709551616-ab z:Nat):Int))) kR (by rw[IntKind.wrap_u64];omega));exact aq 8 a (EP (ab z) oM _ _ a.g) (fun j i a=>lL a [.v (wX qT (ab z))] (lP 0 0 (wC qT (ab z)) a (fun f a=>af a [(0,0,3)] (wX qT (ab z)) (jM (by simp[au,hz]) rfl))))
theorem HT (n:Nat)(h1:n<9223372036854775808)(w:World)(h:Hp)(g:G w h):CV 117 #[nV n] w h (iv (n:Int)):=by
 have a:=sS g;refine go Tryz.func117 [(0,nV n)] rfl (aG (lA 2 26 ([qF,uV 0,eS]) a (fun d w2 j a=>ai (aa a ac ?_))));have ⟨b,c⟩:=dF (p:=(n:Int)<(0:Int)) oM;refine lB 4 b (ah (cK (aa a ac (lV 11 (mV n) ?_ (hr:=rU ((n:Int)) kR (ay oM oM))))));exact aq 12 a (EP n oM _ _ a.g) (fun i f a=>lL a [.v (wX qF n)] (lP 0 0 (wC qF n) a (fun e a=>af a [(0,0,3)] (wX qF n) (jM (by simp[au]) (by simp[ab])))))
theorem IY (z:Int)(h0 : -9223372036854775808<=z)(h1:z<=9223372036854775807)(w:World)(h:Hp)(g:G w h):CV 117 #[iV z] w h (iv z):=by
 rcases Int.lt_or_le z 0 with hz|hz
 ·exact H7 z h0 hz w h g
 ·obtain ⟨n,rfl⟩:=JQ hz
  exact HT n oM w h g
def dS(x y:Int):Int:=if x<y then -1 else if y<x then 1 else 0
theorem AD {x y:Int}(h:x<y):dS x y = -1:=by simp[dS,h]
theorem Bb {x y:Int}(h:y<x):dS x y=1:=by unfold dS;rw[if_neg oM,if_pos h]
theorem AQ {x y:Int}(c:0<=x)(d:0<=y):dS x y=cX (ab x) (ab y):=by
 unfold dS cX ab
 have b:(x<y)=(x.natAbs<y.natAbs):=by apply propext;omega
 have a:(y<x)=(y.natAbs<x.natAbs):=by apply propext;omega
 simp only[b,a]
theorem Cu {x y:Int}(c:x<0)(d:y<0):dS x y=cX (ab y) (ab x):=by
 unfold dS cX ab
 have b:(x<y)=(y.natAbs<x.natAbs):=by apply propext;omega
 have a:(y<x)=(x.natAbs<y.natAbs):=by apply propext;omega
 simp only[b,a]
theorem El (z:Int)(w:World)(h:Hp)(g:G w h):CV 96 #[iv z] w h (nv (ab z)):=by
 have a:=sS g;exact go Tryz.func96 [(0,iv z)] rfl (aG (lA 1 26 (ic z) a (fun b w2 i a=>lA 2 24 ([uV 0,eS]) a (fun c f e a=>aE (lL a [.v (qP b 1),.o (nv (ab z)) 1 1 2] (lP 0 0 (nc (ab z)) a (fun d a=>af a [(0,0,2)] (nv (ab z)) rfl)))))))
theorem DE (z:Int)(hz:au z=true)(w:World)(h:Hp)(g:G w h):CV 73 #[wX (.bool true) (ab z)] w h (iV z.sign):=by
 have a:=sS g;exact go Tryz.func73 [(0,wX qT (ab z))] rfl (aG (lA 1 26 (wC qT (ab z)) a (fun b w2 d a=>lL a ac (ai (kZ (aa a [.v (pB b),.o qT 0 0 1,.c] (ak (aa a ac (af a [] (iV (-1)) (by rw[Int.sign_eq_neg_one_of_neg (bT hz)]))))))))))
theorem Fw (z:Int)(k:(wds (ab z)).length<=1000000000)(hz:au z=false)(h0:0<ab z)(w:World)(h:Hp)(g:G w h):CV 73 #[wX (.bool false) (ab z)] w h (iV z.sign):=by
 have a:=sS g;have f:=(cl h0).2.2;refine go Tryz.func73 [(0,wX qF (ab z))] rfl (aG (lA 1 26 (wC qF (ab z)) a (fun e w2 l a=>lL a ac (ai (kZ (aa a [.v (pB e),.o qF 0 0 1,.c] (ah (aa a [.v (qP e 1),.o (nv (ab z)) 0 1 2] (aq 9 a (eJ (ab z) aM _ _ a.g) (fun i j a=>?_))))))))));have ⟨b,d⟩:=dT (p:=(0:Int)<((nb (ab z):Nat):Int)) oM;exact lB 10 b (lL a ac (ak (aa a ac (af a [] (iV 1) (by rw[Int.sign_eq_one_of_pos (by have:=bJ hz;unfold ab at h0;omega)])))))
theorem E7 (k:(wds (ab 0)).length<=1000000000)(w:World)(h:Hp)(g:G w h):CV 73 #[wX (.bool false) (ab 0)] w h (iV 0):=by
 have a:=sS g;have f:nb (ab 0)=0:=rfl;refine go Tryz.func73 [(0,wX qF (ab 0))] rfl (aG (lA 1 26 (wC qF (ab 0)) a (fun e w2 l a=>lL a ac (ai (kZ (aa a [.v (pB e),.o qF 0 0 1,.c] (ah (aa a [.v (qP e 1),.o (nv (ab 0)) 0 1 2] (aq 9 a (eJ (ab 0) aM _ _ a.g) (fun i j a=>?_))))))))));have ⟨b,d⟩:=dF (p:=(0:Int)<((nb (ab 0):Nat):Int)) oM;exact lB 10 b (lL a ac (ah (cK (aa a ac (af a [] (iV 0) rfl)))))
theorem mZ (z:Int)(a:(wds (ab z)).length<=1000000000)(w:World)(h:Hp)(g:G w h):CV 73 #[iv z] w h (iV z.sign):=by
 rcases hz:au z with _|_
 ·rw[mG hz]
  rcases yz (ab z) with h0|h0
  ·have:z=0:=by unfold ab at h0;omega
   subst this;exact E7 a w h g
  ·exact Fw z a hz h0 w h g
 ·rw[mG hz];exact DE z hz w h g
theorem Fl (x y:Int)(i:(wds (ab x)).length<=1000000000)(f:(wds (ab y)).length<=1000000000)(e:au x=false)(j:au y=false)(w:World)(h:Hp)(g:G w h):CV 154 #[wX (.bool false) (ab x),wX (.bool false) (ab y)] w h (iV (dS x y)):=by
 have a:=sS g;refine go Tryz.func154 [(0,wX qF (ab x)),(1,wX qF (ab y))] rfl (aG (lA 2 26 (wC qF (ab x)) a (fun b w2 z a=>lA 3 26 (wC qF (ab y)) a (fun d p l a=>lL a ac (ai (kZ (aa a [.v (pB b),.o qF 1 0 1,.c] (lG 9 ?_))))))));exact lG 10 (lL a [.v qF,.c] (ah (aa a [.v (pB b),.o qF 1 0 1,.c] (ah (aa a [.v (pB d),.o qF 0 0 1,.c] (ah (cK (aa a [.v (qP b 1),.o (nv (ab x)) 1 1 2,.v (qP d 1),.o (nv (ab y)) 0 1 2] (aq 27 a (q4 (ab x) (ab y) aM aM _ _ a.g) (fun k u a=>lL a ac (af a [] (iV (cX (ab x) (ab y))) (by rw[AQ (bJ e) (bJ j)]))))))))))))
theorem D8 (x y:Int)(i:(wds (ab x)).length<=1000000000)(f:(wds (ab y)).length<=1000000000)(d:au x=false)(j:au y=true)(w:World)(h:Hp)(g:G w h):CV 154 #[wX (.bool false) (ab x),wX (.bool true) (ab y)] w h (iV (dS x y)):=by
 have a:=sS g;refine go Tryz.func154 [(0,wX qF (ab x)),(1,wX qT (ab y))] rfl (aG (lA 2 26 (wC qF (ab x)) a (fun b w2 p a=>lA 3 26 (wC qT (ab y)) a (fun e l k a=>lL a ac (ai (kZ (aa a [.v (pB b),.o qF 1 0 1,.c] (lG 9 ?_))))))));exact lG 10 (lL a [.v qF,.c] (ah (aa a [.v (pB b),.o qF 1 0 1,.c] (ah (aa a [.v (pB e),.o qT 0 0 1,.c] (ak (aa a ac (af a [] (iV 1) (by rw[Bb (by have:=bJ d;have:=bT j;omega)])))))))))
theorem D9 (x y:Int)(i:(wds (ab x)).length<=1000000000)(f:(wds (ab y)).length<=1000000000)(d:au x=true)(j:au y=false)(w:World)(h:Hp)(g:G w h):CV 154 #[wX (.bool true) (ab x),wX (.bool false) (ab y)] w h (iV (dS x y)):=by
 have a:=sS g;exact go Tryz.func154 [(0,wX qT (ab x)),(1,wX qF (ab y))] rfl (aG (lA 2 26 (wC qT (ab x)) a (fun b w2 p a=>lA 3 26 (wC qF (ab y)) a (fun e l k a=>lL a ac (ai (kZ (aa a [.v (pB b),.o qT 1 0 1,.c,.v (pB e),.o qF 0 0 1,.v qF,.c] (ah (aa a [.v (pB b),.o qT 1 0 1,.c] (ak (aa a ac (af a [] (iV (-1)) (by rw[AD (by have:=bT d;have:=bJ j;omega)])))))))))))))
theorem DN (x y:Int)(i:(wds (ab x)).length<=1000000000)(f:(wds (ab y)).length<=1000000000)(e:au x=true)(j:au y=true)(w:World)(h:Hp)(g:G w h):CV 154 #[wX (.bool true) (ab x),wX (.bool true) (ab y)] w h (iV (dS x y)):=by
 have a:=sS g;exact go Tryz.func154 [(0,wX qT (ab x)),(1,wX qT (ab y))] rfl (aG (lA 2 26 (wC qT (ab x)) a (fun b w2 z a=>lA 3 26 (wC qT (ab y)) a (fun d p l a=>lL a ac (ai (kZ (aa a [.v (pB b),.o qT 1 0 1,.c,.v (pB d),.o qT 0 0 1,.v qT,.c] (ak (aa a [.v (qP d 1),.o (nv (ab y)) 0 1 2,.v (qP b 1),.o (nv (ab x)) 1 1 2] (aq 16 a (q4 (ab y) (ab x) aM aM _ _ a.g) (fun k u a=>lL a ac (af a [] (iV (cX (ab y) (ab x))) (by rw[Cu (bT e) (bT j)])))))))))))))
theorem xu (x y:Int)(b:(wds (ab x)).length<=1000000000)(a:(wds (ab y)).length<=1000000000)(w:World)(h:Hp)(g:G w h):CV 154 #[iv x,iv y] w h (iV (dS x y)):=by
 rcases hx:au x with _|_<;>rcases hy:au y with _|_<;>rw[mG hx,mG hy]
 ·exact Fl x y b a hx hy w h g
 ·exact D8 x y b a hx hy w h g
 ·exact D9 x y b a hx hy w h g
 ·exact DN x y b a hx hy w h g
theorem E2 (x y:Int)(j:(wds (ab x)).length<=1000000000)(i:(wds (ab y)).length<=1000000000)(k:(wds (ab x*ab y)).length<=1000000000)(d:au x=false)(c:au y=false)(w:World)(h:Hp)(g:G w h):CV 185 #[wX (.bool false) (ab x),wX (.bool false) (ab y)] w h (iv (x*y)):=by
 have a:=sS g;have f:=bJ d;have l:=bJ c;refine go Tryz.func185 [(0,wX qF (ab x)),(1,wX qF (ab y))] rfl (aG (lA 2 26 (wC qF (ab x)) a (fun b w2 B a=>lA 3 26 (wC qF (ab y)) a (fun e o z a=>lA 4 26 ([qF,uV 0,eS]) a (fun p C u a=>ai (cR 11 [] mixed a aw ?_))))));exact eV 0 5 (pB b) (eO 1 6 [(2,0,1)] qF a (eV 2 7 (pB e) (eO 3 8 [(1,0,1)] qF a (eV 4 9 qF (eV 5 10 (qP b 1) (eO 6 11 [(2,1,2)] (nv (ab x)) a (eV 7 12 (qP e 1) (eO 8 13 [(1,1,2)] (nv (ab y)) a (aK 9 14 a (fun _ _ a=>nx (ab x) (ab y) aM aM _ _ a.g) (fun _ _ a=>aK 10 15 a (fun _ _ a=>gU false ((ab x)*(ab y)) aM _ _ a.g) (fun _ _ a=>cG a (fun _ _ a=>tP 11 0 0 (ic (bE false ((ab x)*(ab y)))) a (fun _ a=>tN (kX (a.ret [(0,0,3)] (iv (bE false ((ab x)*(ab y)))) (by rw[<-lw x y,d,c];rfl))))))))))))))))
theorem DV (x y:Int)(j:(wds (ab x)).length<=1000000000)(i:(wds (ab y)).length<=1000000000)(k:(wds (ab x*ab y)).length<=1000000000)(d:au x=false)(c:au y=true)(w:World)(h:Hp)(g:G w h):CV 185 #[wX (.bool false) (ab x),wX (.bool true) (ab y)] w h (iv (x*y)):=by
 have a:=sS g;have f:=bJ d;have l:=bT c;refine go Tryz.func185 [(0,wX qF (ab x)),(1,wX qT (ab y))] rfl (aG (lA 2 26 (wC qF (ab x)) a (fun b w2 B a=>lA 3 26 (wC qT (ab y)) a (fun e o z a=>lA 4 26 ([qF,uV 0,eS]) a (fun p C u a=>ai (cR 11 [] mixed a aw ?_))))));exact eV 0 5 (pB b) (eO 1 6 [(2,0,1)] qF a (eV 2 7 (pB e) (eO 3 8 [(1,0,1)] qT a (eV 4 9 qT (eV 5 10 (qP b 1) (eO 6 11 [(2,1,2)] (nv (ab x)) a (eV 7 12 (qP e 1) (eO 8 13 [(1,1,2)] (nv (ab y)) a (aK 9 14 a (fun _ _ a=>nx (ab x) (ab y) aM aM _ _ a.g) (fun _ _ a=>aK 10 15 a (fun _ _ a=>gU true ((ab x)*(ab y)) aM _ _ a.g) (fun _ _ a=>cG a (fun _ _ a=>tP 11 0 0 (ic (bE true ((ab x)*(ab y)))) a (fun _ a=>tN (kX (a.ret [(0,0,3)] (iv (bE true ((ab x)*(ab y)))) (by rw[<-lw x y,d,c];rfl))))))))))))))))
theorem E4 (x y:Int)(j:(wds (ab x)).length<=1000000000)(i:(wds (ab y)).length<=1000000000)(k:(wds (ab x*ab y)).length<=1000000000)(d:au x=true)(c:au y=false)(w:World)(h:Hp)(g:G w h):CV 185 #[wX (.bool true) (ab x),wX (.bool false) (ab y)] w h (iv (x*y)):=by
 have a:=sS g;have f:=bT d;have l:=bJ c;refine go Tryz.func185 [(0,wX qT (ab x)),(1,wX qF (ab y))] rfl (aG (lA 2 26 (wC qT (ab x)) a (fun b w2 B a=>lA 3 26 (wC qF (ab y)) a (fun e o z a=>lA 4 26 ([qF,uV 0,eS]) a (fun p C u a=>ai (cR 11 [] mixed a aw ?_))))));exact eV 0 5 (pB b) (eO 1 6 [(2,0,1)] qT a (eV 2 7 (pB e) (eO 3 8 [(1,0,1)] qF a (eV 4 9 qT (eV 5 10 (qP b 1) (eO 6 11 [(2,1,2)] (nv (ab x)) a (eV 7 12 (qP e 1) (eO 8 13 [(1,1,2)] (nv (ab y)) a (aK 9 14 a (fun _ _ a=>nx (ab x) (ab y) aM aM _ _ a.g) (fun _ _ a=>aK 10 15 a (fun _ _ a=>gU true ((ab x)*(ab y)) aM _ _ a.g) (fun _ _ a=>cG a (fun _ _ a=>tP 11 0 0 (ic (bE true ((ab x)*(ab y)))) a (fun _ a=>tN (kX (a.ret [(0,0,3)] (iv (bE true ((ab x)*(ab y)))) (by rw[<-lw x y,d,c];rfl))))))))))))))))
theorem Fg (x y:Int)(j:(wds (ab x)).length<=1000000000)(i:(wds (ab y)).length<=1000000000)(k:(wds (ab x*ab y)).length<=1000000000)(d:au x=true)(c:au y=true)(w:World)(h:Hp)(g:G w h):CV 185 #[wX (.bool true) (ab x),wX (.bool true) (ab y)] w h (iv (x*y)):=by
 have a:=sS g;have f:=bT d;have l:=bT c;refine go Tryz.func185 [(0,wX qT (ab x)),(1,wX qT (ab y))] rfl (aG (lA 2 26 (wC qT (ab x)) a (fun b w2 B a=>lA 3 26 (wC qT (ab y)) a (fun e o z a=>lA 4 26 ([qF,uV 0,eS]) a (fun p C u a=>ai (cR 11 [] mixed a aw ?_))))));exact eV 0 5 (pB b) (eO 1 6 [(2,0,1)] qT a (eV 2 7 (pB e) (eO 3 8 [(1,0,1)] qT a (eV 4 9 qF (eV 5 10 (qP b 1) (eO 6 11 [(2,1,2)] (nv (ab x)) a (eV 7 12 (qP e 1) (eO 8 13 [(1,1,2)] (nv (ab y)) a (aK 9 14 a (fun _ _ a=>nx (ab x) (ab y) aM aM _ _ a.g) (fun _ _ a=>aK 10 15 a (fun _ _ a=>gU false ((ab x)*(ab y)) aM _ _ a.g) (fun _ _ a=>cG a (fun _ _ a=>tP 11 0 0 (ic (bE false ((ab x)*(ab y)))) a (fun _ a=>tN (kX (a.ret [(0,0,3)] (iv (bE false ((ab x)*(ab y)))) (by rw[<-lw x y,d,c];rfl))))))))))))))))
theorem Hx (x y:Int)(b:(wds (ab x)).length+(wds (ab y)).length<=1000000000)(w:World)(h:Hp)(g:G w h):CV 185 #[iv x,iv y] w h (iv (x*y)):=by
 have a:(wds (ab x*ab y)).length<=1000000000:=ed j6 oM
 rcases hx:au x with _|_<;>rcases hy:au y with _|_<;>rw[mG hx,mG hy]
 ·exact E2 x y oM oM a hx hy w h g
 ·exact DV x y oM oM a hx hy w h g
 ·exact E4 x y oM oM a hx hy w h g
 ·exact Fg x y oM oM a hx hy w h g
theorem uU (n:Nat)(hl:(wds n).length<=1000000000)(w:World)(h:Hp)(g:G w h):CR 98 #[nv n] w h (fun v h1=>∃ A,v=.slice A ((nb n+7)/8) ((nb n+7)/8)/\SlO 1 pZ 0 h1 A (fA n ((nb n+7)/8))):=by
 have c:=sS g;have hnb:=kL n;have Z:=lM n;refine go Tryz.func98 [(0,nv n)] rfl (aG (lA 1 24 (nc n) c (fun F w2 h3 c=>lL c ac (aE (lL c [.o (nv n) 0 0 2] (aq 8 c (eJ n hl _ _ c.g) (fun w4 h5 c=>bg 9 ((nb n:Nat)+7) ((nb n)+7) (lV 10 (nV (((nb n)+7)/8)) ?_ (hr:=aN (db (t:=3) (u:=3) (x:=.tmp 9) (y:=.const (iV 8)) (k:=.i64) (a:=(((nb n)+7:Nat):Int)) (b:=(8:Int)) kR kR kR oM _) (de ((nb n)+7) 8 oM))))))))));refine lL c ac (aE (lL c ac (lK 12 5 (((nb n)+7)/8:Nat) 1 1 (.int .u8 0) pZ 0 c (fun p w7 h8 c=>?_))));have H:(um (((nb n)+7)/8:Nat) 0).length=(((nb n)+7)/8:Nat):=by simp
 refine lL c ac (aE (lL c [.o (nv n) 1 0 2] (lC 14 c (fu n oM _ _ c.g) ?_)));rintro _ _ X c ⟨e,B,rfl,U,L⟩;replace c:=c.aS L;refine lL c ac (ai (aa c aF (bx ?_)));refine bG _ (CG.loop (fun J Γ w_=>∃ (i:Nat)(l:List Nat)(I:Hp),J=((nb n+7)/8)-i/\Γ=[(2,sZ),(3,nV (((nb n)+7)/8)),(4,qS (sB p) (((nb n)+7)/8:Nat) (((nb n)+7)/8:Nat)),(5,qS e ((wds n).length) B),(15,nV (((nb n)+7)/8)),(16,nV i)]/\SS w h w_ I [⟨p,5,(l).flatMap pZ⟩,⟨F,24,nc n⟩] [] [fun I=>SlO 1 ar 0 I e (wds n)]/\i<=((nb n+7)/8)/\l.length=((nb n+7)/8)/\(∀ j,j<i->l.getD (((nb n+7)/8)-1-j) 0=n/256^j%256)) _ ⟨0,um (((nb n)+7)/8:Nat) 0,X,rfl,rfl,c.to _ _,JF _,H,(fun j M=>absurd M oM)⟩ ?_);rintro _ _ _ ⟨i,l,Y,O,rfl,c,hi,z,V⟩;have hwi:=nB n (i/8);refine aG ?_;cases D:(decide ((i:Int)<((((nb n)+7)/8:Nat):Int)))
 .
  have W:=oF D;refine lB 17 D (ai (cV (CG.exit ?_)))
  show CG _ _ _ _ _ _ _ _
  refine aa c aF (lN (kX ?_));have him:i=((nb n+7)/8):=by omega
  have K:l=fA n ((nb n+7)/8):=vu z (fun j M=>V j oM);rw[K] at c
  obtain ⟨_,c,C,Q,S⟩:=c.pub 0;replace c:=(c.to [⟨F,24,nc n⟩] []).aS (SlO.of_flat (sz:=1) (f:=pZ) (d:=0) (b:=p) (o:=0) (l:=fA n ((nb n+7)/8)) (fun _=>rfl) C);exact c.ret [] (qS (sB p) (((nb n)+7)/8:Nat) (((nb n)+7)/8:Nat)) (⟨sB p,rfl,c.f.1⟩)
 have W:=oT D;refine lB 17 D (ai (ci (cK (cQ (kZ (aa c aF (lN (kQ (lL c aF (bg 21 ((((nb n)+7)/8:Nat)-1) ((((nb n)+7)/8:Nat)-1) ?_))))))))));refine lL c ac (bg 23 (((((nb n)+7)/8:Nat)-1:Nat)-(i:Nat)) (((((nb n)+7)/8:Nat)-1:Nat)-i) ?_);refine lL c aF (lV 26 (nV (i/8)) ?_ (hr:=aN (db (t:=3) (u:=3) (x:=.tmp 25) (y:=.const (iV 8)) (k:=.i64) (a:=(i:Int)) (b:=(8:Int)) kR kR kR oM _) (de i 8 oM)));refine lX 27 e ((wds n).length) B 1 (i/8:Nat) (i/8) ((c.f.1).ok oM) (lH 28 (mV ((wds n).getD (i/8) 0)) c ((c.f.1).el (i/8) oM) (lL c ac (lV 30 (nV (i%8)) ?_ (hr:=aN (d4 (t:=3) (u:=3) (x:=.tmp 29) (y:=.const (iV 8)) (k:=.i64) (a:=(i:Int)) (b:=(8:Int)) kR kR kR oM _) (cM i 8)))));refine bg 31 (8*(i%8:Nat)) (8*(i%8)) (lV 32 (mV (((wds n).getD (i/8) 0)/2^(8*(i%8)))) ?_ (hr:=fO (t:=22) (u:=3) (x:=.tmp 28) (y:=.tmp 31) (ky:=.i64) (a:=((wds n).getD (i/8) 0)) (n:=(8*(i%8))) kR kR kR oM _));refine lV 33 (.int .u8 ((wds n).getD (i/8) 0/2^(8*(i%8))%256:Nat)) ?_ (hr:=aN (n:=IntKind.wrap .u8 (((wds n).getD (i/8) 0/2^(8*(i%8)):Nat):Int)) kR (wR _));refine lX 34 (sB p) (((nb n)+7)/8:Nat) (((nb n)+7)/8:Nat) 1 (((((nb n)+7)/8:Nat)-1:Nat)-i:Nat) (((((nb n)+7)/8:Nat)-1:Nat)-i:Nat) rfl (lW 0 l pZ 1 (((((nb n)+7)/8:Nat)-1:Nat)-i:Nat) ((wds n).getD (i/8) 0/2^(8*(i%8))%256:Nat) c oM (fun _ c=>?_));have zc:((l).set (((((nb n)+7)/8:Nat)-1:Nat)-i:Nat) ((wds n).getD (i/8) 0/2^(8*(i%8))%256:Nat)).length=(((nb n)+7)/8:Nat):=by rw[Jr];exact z
 replace c:=c.to [⟨p,5,((l).set (((((nb n)+7)/8:Nat)-1:Nat)-i:Nat) ((wds n).getD (i/8) 0/2^(8*(i%8))%256:Nat)).flatMap pZ⟩,⟨F,24,nc n⟩] [];refine lN (kQ (bg 35 ((i:Nat)+1) (i+1) ?_));refine lL c ac (lD ?_);intro a_ ka;refine ⟨_,_,?_,⟨i+1,(l).set (((((nb n)+7)/8:Nat)-1:Nat)-i:Nat) ((wds n).getD (i/8) 0/2^(8*(i%8))%256:Nat),Y,rfl,rfl,c.to _ _,oM,zc,(jd z oM V (Ac n i))⟩,ka.to _ kR⟩
 omega
theorem DP (n m:Nat)(A:Z9)(c:Nat)(hc:m<=c)(hm:m<=10000000000)(hn:n<256^m)(w:World)(h:Hp)(g:G w h)(hA:SlO 1 pZ 0 h A (fA n m)):CV 251 #[.slice A m c] w h (nv n):=by
 have e:=((sS g).aS hA);have V:=jb n m;refine go Tryz.func251 [(0,qS A m c)] rfl (aG (lA 2 24 ([uV 0,eS]) e (fun B w2 h3 e=>aE (lL e [.c,.v (nV m)] (bg 7 ((m:Nat)+7) (m+7) ?_)))));refine lV 8 (nV ((m+7)/8)) ?_ (hr:=aN (db (t:=3) (u:=3) (x:=.tmp 7) (y:=.const (iV 8)) (k:=.i64) (a:=((m+7:Nat):Int)) (b:=(8:Int)) kR kR kR oM _) (de (m+7) 8 oM));refine lK 9 22 ((m+7)/8) 1 8 (uV 0) ar 0 e (fun j w5 h6 e=>?_);have I:(um ((m+7)/8) 0).length=((m+7)/8):=by simp
 refine lL e ac (ai (aa e [.c,.v (nV m),.c] (bx ?_)));refine bG _ (CG.loop (fun L Γ w_=>∃ (i:Nat)(l:List Nat)(K:Hp),L=m-i/\Γ=[(0,qS A m c),(2,pB B),(3,qS (sB j) ((m+7)/8) ((m+7)/8)),(11,nV m),(12,nV i)]/\SS w h w_ K [⟨j,22,(l).flatMap ar⟩,⟨B,24,[uV 0,eS]⟩] [] [fun K=>SlO 1 pZ 0 K A (fA n m)]/\i<=m/\l.length=(m+7)/8/\Wd l/\aA l=n%256^i) _ ⟨0,um ((m+7)/8) 0,h6,rfl,rfl,e.to _ _,JF _,I,Wd.rep _,(by show am _ _=_;rw[di,JG,Nat.mod_one])⟩ ?_);rintro _ _ w8 ⟨i,l,h9,S,rfl,e,hi,H,O,p⟩;have hbi:=kf n m (m-1-i);refine aG ?_;cases C:(decide ((i:Int)<(m:Int)))
 .
  have W:=oF C;refine lB 13 C (ai (cV (CG.exit ?_)))
  show CG _ _ _ _ _ _ _ _
  refine aG ?_;have J:i=m:=by omega
  have Z:aA l=n:=by rw[p,J];exact u9 hn
  obtain ⟨_,e,z,Q,U⟩:=e.pub 0;replace e:=(e.to [⟨B,24,[uV 0,eS]⟩] []).aS (SlO.of_flat (sz:=1) (f:=ar) (d:=0) (b:=j) (o:=0) (l:=l) (fun _=>rfl) z);exact lL e ac (aq 37 e (du (sB j) ((m+7)/8) (l) ((m+7)/8) (n) (by first|rfl|assumption|(simp;done)|(simp;omega)|omega) (O) (Z) sM sM _ _ e.g e.f.1) (fun _ _ e=>lP 0 0 (nc n) e (fun _ e=>af e [(0,0,2)] (nv n) rfl)))
 have W:=oT C;refine lB 13 C (ai (ci (cK (cQ (kZ (aa e aF (lN (cR 19 [] mixed e aw ?_))))))));refine eV 0 15 (qS (sB j) ((m+7)/8) ((m+7)/8)) (eV 1 16 (nV i) (eV 2 17 (nV (i/8)) ?_ (hv:=fun _=>aN (db (t:=3) (u:=3) (x:=.tmp 16) (y:=.const (iV 8)) (k:=.i64) (a:=(i:Int)) (b:=(8:Int)) kR kR kR oM _) (de i 8 oM))));refine eX 3 18 (sB j) ((m+7)/8) ((m+7)/8) 1 (i/8:Nat) (i/8) rfl (eQ 4 19 0 l ar 1 0 (i/8) (mV ((l).getD (i/8) 0)) e oM (eV 5 20 (qS A m c) (eV 6 21 (qS A m c) (eV 7 22 (nV m) (iR 8 23 ((m:Nat)-1) (m-1) (eV 9 24 (nV i) (iR 10 25 ((m-1:Nat)-(i:Nat)) ((m-1)-i) (eX 11 26 A m c 1 ((m-1)-i:Nat) ((m-1)-i) ((e.f.1).ok oM) (eH 12 27 (.int .u8 ((fA n m).getD ((m-1)-i) 0:Nat)) e ((e.f.1).el ((m-1)-i) oM) (eV 13 28 (mV ((fA n m).getD ((m-1)-i) 0)) ?_ (hv:=fun _=>rU ((((fA n m).getD ((m-1)-i) 0:Nat):Int)) kR (ay oM oM))))))))))));refine eV 14 29 (nV i) (eV 15 30 (nV (i%8)) ?_ (hv:=fun _=>aN (d4 (t:=3) (u:=3) (x:=.tmp 29) (y:=.const (iV 8)) (k:=.i64) (a:=(i:Int)) (b:=(8:Int)) kR kR kR oM _) (cM i 8)));refine iR 16 31 (8*(i%8:Nat)) (8*(i%8)) (eV 17 32 (mV (((fA n m).getD ((m-1)-i) 0:Nat)*2^(8*(i%8))%18446744073709551616)) ?_ (hv:=fun _=>gA (t:=22) (u:=3) (x:=.tmp 28) (y:=.tmp 31) (ky:=.i64) (a:=((fA n m).getD ((m-1)-i) 0:Nat)) (n:=(8*(i%8))) kR kR kR _));obtain ⟨M,D,F⟩:=rX oM p (show (fA n m).getD (m-1-i) 0=n/256^i%256 by rw[im n m _ oM,show m-1-(m-1-i)=i by omega]);have hlg:=O.get (i/8);refine eV 18 33 (mV (l.getD (i/8) 0+(fA n m).getD (m-1-i) 0*2^(8*(i%8)))) ?_ (hv:=fun _=>aN (gc (t:=22) (u:=22) (x:=.tmp 19) (y:=.tmp 32) (a:=((l).getD (i/8) 0)) (b:=(((fA n m).getD ((m-1)-i) 0:Nat)*2^(8*(i%8))%18446744073709551616:Nat)) kR kR kR oM oM _) (by rw[M]));refine cG e (fun _ X e=>tX 19 34 (sB j) ((m+7)/8) ((m+7)/8) 1 (i/8:Nat) (i/8) rfl (tW 20 0 l ar 1 (i/8) (l.getD (i/8) 0+(fA n m).getD (m-1-i) 0*2^(8*(i%8)):Nat) e oM (fun _ e=>?_)));have Y:((l).set (i/8) (l.getD (i/8) 0+(fA n m).getD (m-1-i) 0*2^(8*(i%8)):Nat)).length=((m+7)/8):=by rw[Jr];exact H
 replace e:=e.to [⟨j,22,((l).set (i/8) (l.getD (i/8) 0+(fA n m).getD (m-1-i) 0*2^(8*(i%8)):Nat)).flatMap ar⟩,⟨B,24,[uV 0,eS]⟩] [];refine tN (kQ (bg 35 ((i:Nat)+1) (i+1) ?_));refine lL e ac (lD ?_);intro a_ ka;refine ⟨_,_,?_,⟨i+1,(l).set (i/8) (l.getD (i/8) 0+(fA n m).getD (m-1-i) 0*2^(8*(i%8)):Nat),X,rfl,rfl,e.to _ _,oM,Y,(O.set _ D),F⟩,ka.to _ kR⟩
 omega
theorem ES (n k:Nat)(D:(wds n).length<=1000000000)(H:k<=65536)(w:World)(h:Hp)(g:G w h):CV 244 #[nv n,nV k] w h (nv (n*2^k)):=by
 have a:=sS g;refine go Tryz.func244 [(0,nv n),(1,nV k)] rfl (aG (lA 2 24 (nc n) a (fun I w2 L a=>lA 4 24 ([uV 0,eS]) a (fun M F K a=>aE (lL a ac (lV 6 (nV k) ?_ (hr:=aN (n:=if (65536:Int)<(k:Int) then (65536:Int) else (k:Int)) kR (if_neg oM))))))));refine lV 7 (nV k) ?_ (hr:=aN (n:=if (k:Int)>(-65536:Int) then (k:Int) else (-65536:Int)) kR (if_pos oM));refine lL a ac (ai (aa a ac ?_));have ⟨b,u⟩:=dF (p:=(k:Int)<(0:Int)) oM;refine lB 9 b (ah (cK (aa a [.o (nv n) 1 0 2] (lC 17 a (fu n oM _ _ a.g) ?_))));rintro _ O J a ⟨c,d,rfl,l,j⟩;replace a:=a.aS j;refine lL a ac (lC 19 a (wE c d (wds n) (Wd.wds n) D k oM _ _ a.g a.f.1) ?_);rintro _ _ _ a ⟨y,C,z,rfl,B,x,e,i,hz⟩;replace a:=a.aS hz;exact aq 20 a (du y C (z) z.length ((n*2^k)) (by first|rfl|assumption|(simp;done)|(simp;omega)|omega) (e) (by rw[i,aZ]) sM sM _ _ a.g a.f.1) (fun _ _ a=>lP 0 0 (nc (n*2^k)) a (fun _ a=>af a [(0,0,2)] (nv (n*2^k)) rfl))
section
variable {P:Program}{Γ:ck}{o:Oper}
theorem Gc {t e:TypeId}{x ix:Operand}{b off sz len:Nat}{i:Int}{kk:IntKind}(k:Nat)(p:o.op=.indexAddr t x ix)(l:ev Γ x=.pointer (some ⟨b,off,none⟩))(hi:ev Γ ix=.int kk i)
    (hu:P.underlying t=some (.array len e))(f:(P.info? e).map (·.size)=some sz)(h:i=k)(u:k<len)(w:World) :
    (execOp (ev Γ) o).run P w=.ok (.value (.pointer (some ⟨b,off+k*sz,none⟩))) w:=by
  subst h
  unfold execOp
  simp only[p]
  rw[l,hi];have d:P.elem t=e:=by unfold Program.elem;rw[hu]
  have c:P.arrayLen t=len:=by unfold Program.arrayLen;rw[hu]
  have h1:=run_indexAt_array (P:=P) w t ⟨b,off,none⟩ kk (k:Int) (by rw[d,c];exact hu);rw[c,if_pos ⟨by omega,by omega⟩,d] at h1
  have j:(sizeOf e).run P w=.ok sz w:=by
    cases a:P.info? e with
    | none=>rw[a] at f;cases f
    | some i =>
      rw[a] at f
      simp at f
      simp[sizeOf,typeInfo,a,f]
  rw[j] at h1
  simp[h1,Result.andThen,Addr.add]
end
def Tz (n k m:Nat):Prop:=n=2^k*m/\m%2=1
theorem DW {x:Nat}(h0:x≠0)(h:x<18446744073709551616):∃ m,Tz x (Lib.ctz 64 x) m/\Lib.ctz 64 x<64:=by
 unfold Lib.ctz
 rw[if_neg h0];obtain ⟨m,e,a⟩:=Lib.ctzFrom_spec 64 x oM h;exact ⟨2*m+1,⟨e,by omega⟩,a⟩
theorem Tz.odd_pos {n k m:Nat}(h:Tz n k m):0<m:=by have:=h.2;omega
theorem Tz.word {n i x k m r:Nat}(e:n=18446744073709551616^i*(x+18446744073709551616*r))(t:Tz x k m)(f:k<64):Tz n (64*i+k) (m+2^(64-k)*r):=by
 obtain ⟨b,d⟩:=t;refine ⟨?_,?_⟩
 ·have a:(18446744073709551616:Nat)=2^k*2^(64-k):=by rw[<-A7,show k+(64-k)=64 by omega]
  have c:(18446744073709551616:Nat)^i=2^(64*i):=by rw[Bs]
  rw[e,c,b]
  conv=>lhs;rw[a]
  rw[A7,z8 (2^k),<-z7,<-z8]
 ·obtain ⟨j,hj⟩:∃ j,64-k=j+1:=⟨63-k,by omega⟩
  rw[hj,z1,z2 (2^j) 2,z8]
  omega
theorem Tz.uniq {n k m c f:Nat}(a:Tz n k m)(b:Tz n c f):k=c/\m=f:=by
 obtain ⟨j,o⟩:=a;obtain ⟨i,l⟩:=b
 have key:∀ {k m c f:Nat},2^k*m=2^c*f->m%2=1->c<=k:=fun {k m c f} e x=>by
  rcases co k c with h|h
  ·exfalso
   obtain ⟨d,rfl⟩:∃ d,c=k+(d+1):=⟨c-k-1,by omega⟩;rw[A7,z8] at e
   have u:=JU (A0 k) e;rw[z1,z2 (2^d) 2,z8] at u
   omega
  ·exact h
 have h1:=key (j.symm.trans i) o;have y:=key (i.symm.trans j) l;have p:k=c:=by omega
 subst p;exact ⟨rfl,JU (A0 k) (j.symm.trans i)⟩
theorem nr {x y:Nat}(a:y%2=1):JI (2*x) y=JI x y:=by
 have b:Nat.Coprime 2 y:=by
  unfold Nat.Coprime
  rw[Nat.gcd_rec,a];rfl
 exact b.gcd_mul_left_cancel x
theorem eP {x y:Nat}(a:y%2=1):∀ k,JI (2^k*x) y=JI x y
  | 0=>by simp
  | k+1=>by
    rw[z1,z2 (2^k) 2,z8,nr a];exact eP a k
theorem vH {x y k l m n:Nat}(a:Tz x k m)(b:Tz y l n):JI x y=JI m n*2^min k l:=by
 obtain ⟨i,f⟩:=a;obtain ⟨e,c⟩:=b;subst i e
 rcases JV k l with h|h
 ·rw[Am h]
  obtain ⟨d,rfl⟩:∃ d,l=k+d:=⟨l-k,by omega⟩;rw[A7,z8,JW,JJ m,eP f,JJ n,z2]
 ·rw[I8 h]
  obtain ⟨d,rfl⟩:∃ d,k=l+d:=⟨k-l,by omega⟩;rw[A7,z8,JW,eP c,z2]
theorem sd {x y k m:Nat}(a:y<x)(b:y%2=1)(t:Tz (x-y) k m):JI m y=JI x y:=by
 rw[<-eP b k,<-t.1];have e:=Nat.gcd_add_self_left (m:=y) (n:=x-y);rw[show x-y+y=x by omega] at e
 exact e.symm
theorem SlO.win {α:Type}{f:α->List Value}{d:α}{h:Hp}{b:Nat}{l:List α}(hf:∀ x,(f x).length=1)(c:Seg h b 0 (l.flatMap f))(o n:Nat):SlO 1 f d h (some ⟨b,o,none⟩) ((l.drop o).take n):=by
  have a:=c.part o ((l.drop o).take n).length;rw[tv] at a
  have e:∀ (l:List α) (o n:Nat),((l.flatMap f).drop o).take ((l.drop o).take n).length=((l.drop o).take n).flatMap f:=by
    have k:∀ (l:List α),(l.flatMap f).length=l.length:=fun l=>by
      induction l with
      | nil=>rfl
      | cons x l ih=>rw[sr,List.length_append,hf,ih,List.length_cons];omega
    have i:∀ (l:List α) (o:Nat),(l.flatMap f).drop o=(l.drop o).flatMap f:=fun l=>by
      induction l with
      | nil=>intro o;simp
      | cons x l ih =>
        intro o;cases o with
        | zero=>rfl
        | succ o =>
          rw[sr,List.drop_append,hf,Jy (by rw[hf];omega),List.nil_append,List.drop_succ_cons,Jj];exact ih o
    have j:∀ (l:List α) (n:Nat),(l.flatMap f).take n=(l.take n).flatMap f:=fun l=>by
      induction l with
      | nil=>intro n;simp
      | cons x l ih =>
        intro n;cases n with
        | zero=>rfl
        | succ n =>
          rw[sr,List.take_append,hf,I5 (by rw[hf];omega),List.take_succ_cons,sr,Jj,ih n]
    intro l o n;rw[i,j,Ab]
    congr 1
    rcases JV n (l.drop o).length with h|h
    . rw[Am h]
    . rw[I8 h,s1,I5 h]
  rw[e] at a
  exact SlO.of_flat hf a
def Ij (h:Hp):Prop:=Seg h 5 0 (Lib.deBruijn64tab.map fun k=>Value.int .u8 ((k:Nat):Int))
def Ho (h:Hp):Prop:=∃ t g,h[3]?=some (.cells (Lib.pow10Tab.map fun z=>Value.int .u64 z).toArray t g)
def Tab (h:Hp):Prop:=Ij h/\Ho h
theorem Tab.gw {h a:Hp}(t:Tab h)(u:Gw h a):Tab a:=⟨Seg.gw t.1 u,by
 obtain ⟨b,d,e⟩:=t.2;refine ⟨b,d,?_⟩
 rcases u.blk _ (Array.getElem?_eq_some_iff.1 e).1 with e2|e2
 ·rw[e2,e]
 ·rw[e] at e2
  injection e2 with e2
  unfold junk at e2
  injection e2 with e2
  have c:=congrArg Array.size e2
  simp[Lib.pow10Tab] at c⟩
theorem SS.aWt {w0 w:World}{h0 h:Hp}{B:List Bx}{R:List Rw}{F:List (Hp->Prop)}(s:SS w0 h0 w h B R F)(p:Tab h):SS w0 h0 w h B R ((fun h=>Tab h)::F):=s.add (K:=fun h=>Tab h) p
theorem Tab.at {h:Hp}(t:Tab h){k i:Nat}(e:i<64/\Lib.deBruijn64tab.getD i 0=k):Seg h 5 i [.int .u8 ((k:Nat):Int)]:=by
 have a:=Seg.part t.1 i 1;obtain ⟨hi,rfl⟩:=e;rw[tv] at a
 have b:i<Lib.deBruijn64tab.length:=by show i<64;exact hi
 have c:((Lib.deBruijn64tab.map fun k=>Value.int .u8 ((k:Nat):Int)).drop i).take 1=[.int .u8 ((Lib.deBruijn64tab.getD i 0:Nat):Int)]:=by
  rw[List.drop_eq_getElem_cons (by simpa using b)]
  simp[b]
 rw[c] at a
 exact a
theorem Id {s:Result Next}{b z:Nat}{w:World}(h:s=.ok (.value (.pointer (some ⟨b,0+z*1,none⟩))) w):s=.ok (.value (.pointer (some ⟨b,z,none⟩))) w:=by rw[h,I1,tv]
theorem uB {l:List Nat}(a:Wd l)(c:l.length<=(wds (aA l)).length):wds (aA l)=l:=by
 have e:=lc a;have h1:(wds (aA l)).length=min (tl l l.length) l.length:=by rw[e,Ab]
 have b:=fX l l.length;rw[e,I5 oM]
theorem G6 {l:List Nat}(a:Wd l):aA l<256^(8*l.length):=by
 have:=bW a;rw[Bs];exact this
theorem Dx {a b:Nat}(h:wds a=wds b):a=b:=by rw[<-aZ a,<-aZ b,h]
theorem xh {l:List Nat}{i:Nat}(h:i<l.length)(h0:l.getD i 0=0){n:Nat}(a:n=18446744073709551616^i*am 18446744073709551616 (l.drop i)):n=18446744073709551616^(i+1)*am 18446744073709551616 (l.drop (i+1)):=by
 rw[a,eZ _ h,h0,tv,z1,z8]
theorem FT (x:Nat)(o:x≠0)(C:x<18446744073709551616)(w:World)(h:Hp)(g:G w h)(D:Tab h):CV 202 #[mV x] w h (nV (Lib.ctz 64 x)):=by
 have d:=((sS g).add (K:=fun F=>Tab F) D);obtain ⟨j,H⟩:=Lib.lowest_bit 64 x o C;have c:=Lib.deBruijn64_at _ H
 generalize Lib.ctz 64 x=k at *
 generalize hp:2^k=p at *
 obtain ⟨y,hy⟩:∃ y,p*285870213051353865%18446744073709551616=y:=⟨_,rfl⟩;rw[hy] at c
 obtain ⟨z,hz⟩:∃ z,y/288230376151711744=z:=⟨_,rfl⟩;rw[hz] at c
 refine go Tryz.func202 [(0,mV x)] rfl (aa d ac (ai (aa d ac ?_)));have l:((x:Int) == (0:Int))=false:=hC oM;have B:=ao l;refine lB 4 l (ah (cK (aa d aF (lV 7 (mV (18446744073709551616-x)) ?_ (hr:=rU ((0-(x:Int))) kR (by rw[IntKind.wrap_u64];omega))))));refine lV 8 (mV p) ?_ (hr:=aN (n:=bits .and .u64 (x:Int) ((18446744073709551616-x:Nat):Int)) kR (by rw[bits_and_u64_nat _ _ C oM];exact congrArg _ j));refine lV 9 (mV y) ?_ (hr:=rU (((p:Int)*285870213051353865)) kR ((jg p 285870213051353865).trans (congrArg _ hy)));refine lV 10 (mV z) ?_ (hr:=aN (fO (t:=22) (u:=159) (x:=.tmp 9) (y:=.const (uV 58)) (ky:=.u64) (a:=y) (n:=58) kR kR kR oM _) (congrArg _ (by rw[show (2:Nat)^58=288230376151711744 from rfl];exact hz)));refine lV 11 (qP 5 z) ?_ (hr:=Id (Gc (t:=250) (e:=5) (x:=.global 5) (ix:=.tmp 10) (b:=5) (off:=0) (sz:=1) (len:=64) (kk:=.u64) (i:=(z:Int)) z kR kR kR kR kR rfl c.1 _));refine lH 12 (.int .u8 (k:Int)) d (Tab.at d.f.1 c) (lV 13 (nV k) ?_ (hr:=rS ((k:Int)) kR (jF oM oM)));exact lL d ac (af d [] (nV k) rfl)
theorem qH (A:Z9)(c:Nat)(l:List Nat)(n:Nat)(S:l.length=n)(z:Wd l)(Q:0<aA l)(U:l.length<=1000000000)(w:World)(h:Hp)(g:G w h)(B:Tab h)(D:SlO 1 ar 0 h A l):CR 239 #[.slice A n c] w h (fun v _=>∃ k m:Nat,v=nV k/\Tz (aA l) k m/\k/64<l.length):=by
 have a:=(((sS g).add (K:=fun b=>Tab b) B).aS D);refine go Tryz.func239 [(0,qS A n c)] rfl (aa a ac (aE (lL a ac (ai (kZ ?_)))));refine bG _ (CG.loop (fun y Γ I=>∃ (i:Nat)(b:Hp),y=l.length-i/\Γ=[(0,qS A n c),(2,iV 0),(3,nV i)]/\SS w h I b [] [] [fun b=>SlO 1 ar 0 b A l,fun b=>Tab b]/\i<=l.length/\aA l=18446744073709551616^i*am 18446744073709551616 (l.drop i)) _ ⟨0,h,rfl,rfl,a.to _ _,JF _,(by show am _ _=_;rw[JG,I6,sy])⟩ ?_);rintro _ _ w1 ⟨i,F,C,rfl,a,hi,d⟩;have j:i<l.length:=by rcases co i l.length with b|b;exact b;rw[Jy b] at d;simp[am] at d;omega
 refine cQ (aa a aF (lX 6 A n c 1 (i:Nat) i ((a.f.1).ok oM) ?_));refine lH 7 (mV (l.getD i 0)) a ((a.f.1).el i oM) ?_;cases e:(((l.getD i 0:Nat):Int) == (0:Int))
 .
  have p:=ao e;refine lB 8 e (ah (CG.exit ?_))
  show CG _ _ _ _ _ _ _ _
  refine aa a ac (lI 12 (64*(i:Nat)) ?_);refine lL a aF (lX 15 A n c 1 (i:Nat) i ((a.f.1).ok oM) ?_);refine lH 16 (mV (l.getD i 0)) a ((a.f.1).el i oM) (aq 17 a (FT (l.getD i 0) oM (z.get i) _ _ a.g a.f.2.1) (fun J O a=>?_));obtain ⟨L,u,o⟩:=DW (x:=l.getD i 0) oM (z.get i);exact lI 18 ((64*(i:Nat))+(Lib.ctz 64 (l.getD i 0):Nat)) (lL a ac (af a [] (iV ((64*(i:Nat))+(Lib.ctz 64 (l.getD i 0):Nat))) (⟨_,_,rfl,Tz.word (by rw[d,eZ _ j]) u o,by omega⟩)))
 have p:=eq_of_beq e;refine lB 8 e (ak (cK (kZ (kQ (lL a ac (bg 10 ((i:Nat)+1) (i+1) ?_))))));refine lL a ac (lD ?_);intro M H;refine ⟨_,_,?_,⟨i+1,F,rfl,rfl,a.to _ _,oM,(xh j oM d)⟩,H.to _ kR⟩
 omega
theorem CY (A:Z9)(c:Nat)(l:List Nat)(n:Nat)(D:l.length=n)(F:l.length<=1099511627776)(B:l.length<=c)(w:World)(h:Hp)(g:G w h)(u:SlO 1 ar 0 h A l):CV 250 #[.slice A n c] w h (.slice A (tl l n) c):=by
 have a:=((sS g).aS u);refine go Tryz.func250 [(0,qS A n c)] rfl (aa a ac (ai (kZ ?_)));refine bG _ (CG.loop (fun o Γ z=>∃ (m:Nat)(k:Hp),o=m/\Γ=[(2,sZ),(0,qS A m c)]/\SS w h z k [] [] [fun k=>SlO 1 ar 0 k A l]/\m<=n/\tl l n=tl l m) _ ⟨n,h,rfl,rfl,a.to _ _,nR _,rfl⟩ ?_);rintro _ _ w1 ⟨m,x,p,rfl,a,H,j⟩;refine cQ (aa a [.c,.v (nV m)] ?_);cases d:(decide ((0:Int)<(m:Int)))
 .
  have e:=oF d;refine lB 5 d (lL a ac (lG 7 ?_));refine lG 8 (lG 9 (lG 10 (lG 11 (lG 12 (lG 13 (lL a [.v qF] (ah (CG.exit ?_))))))))
  show CG _ _ _ _ _ _ _ _
  exact aa a aF (af a [] (qS A m c) (by rw[j,mD oM]))
 have e:=oT d;refine lB 5 d (lL a [.c,.c,.c,.v (nV m)] (bg 10 ((m:Nat)-1) (m-1) ?_));refine lX 11 A m c 1 (m-1:Nat) (m-1) ((a.f.1).ok oM) (lH 12 (mV (l.getD (m-1) 0)) a ((a.f.1).el (m-1) oM) ?_);cases b:(((l.getD (m-1) 0:Nat):Int) == (0:Int))
 .
  have i:=ao b;refine lB 13 b (lL a [.v qF] (ah (CG.exit ?_)))
  show CG _ _ _ _ _ _ _ _
  exact aa a aF (af a [] (qS A m c) (by rw[j,mD oM]))
 have i:=eq_of_beq b;refine lB 13 b (lL a [.v qT] (ak (cK (kZ (kQ (lL a [.c,.c,.v (nV m)] (bg 18 ((m:Nat)-1) (m-1) ?_)))))));refine lT 19 A m c 1 (m-1:Nat) (m-1) (lL a ac (lD ?_));intro C y;refine ⟨_,_,?_,⟨m-1,x,rfl,rfl,a.to _ _,oM,(by rw[j];exact wV oM oM)⟩,y.to _ kR⟩
 omega
theorem vw (A:Z9)(c:Nat)(D:Z9)(d:Nat)(x y n e:Nat)(hn:(wds x).length=n)(K:(wds y).length=e)(Q:(wds x).length<=1000000000)(O:(wds y).length<=1000000000)(w:World)(h:Hp)(g:G w h)(M:SlO 1 ar 0 h A (wds x))(I:SlO 1 ar 0 h D (wds y)):CV 241 #[.slice A n c,.slice D e d] w h (iV (cX x y)):=by
 have a:=(((sS g).aS M).aS I);refine go Tryz.func241 [(0,qS A n c),(1,qS D e d)] rfl (aa a ac (ai (aa a [.c,.v (nV n),.c,.v (nV e)] ?_)));cases l:((n:Int) != (e:Int))
 .
  have z:=az l;refine lB 10 l (ah (cK (cQ (aa a [.c,.v (nV n)] (lV 18 (iV ((n:Int)-1)) ?_ (hr:=rS (((n:Nat)-1)) kR ((dQ oM oM).trans oM)))))));refine lL a ac (bx ?_);refine bG _ (CG.loop (fun H Γ V=>∃ (m:Nat)(B:Hp),H=m/\Γ=[(0,qS A n c),(1,qS D e d),(5,iV ((m:Int)-1))]/\SS w h V B [] [] [fun B=>SlO 1 ar 0 B D (wds y),fun B=>SlO 1 ar 0 B A (wds x)]/\m<=n/\(wds x).length=(wds y).length/\(wds x).drop m=(wds y).drop m) _ ⟨n,h,rfl,rfl,a.to _ _,nR _,oM,(by rw[Jy oM,Jy oM])⟩ ?_);rintro _ _ w2 ⟨m,h3,U,rfl,a,Y,b,i⟩;refine cQ (aa a ac ?_);cases j:(decide ((0:Int)<=((m:Int)-1:Int)))
  .
   have u:=oF j;refine lB 20 j (ah (CG.exit ?_))
   show CG _ _ _ _ _ _ _ _
   exact aa a ac (af a [] (iV 0) (by rw[ij (Dx (by rw[show m=0 by omega] at i;simpa using i))]))
  have u:=oT j;refine lB 20 j (ak (cK (cQ (kZ (cQ (cR 9 [] mixed a aw ?_))))));refine eV 0 23 (qS A n c) (eV 1 24 (iV ((m:Int)-1)) (eX 2 25 A n c 1 ((m:Int)-1) (m-1) ((a.f.2.1).ok oM) (eH 3 26 (mV ((wds x).getD (m-1) 0)) a ((a.f.2.1).el (m-1) oM) (eV 4 27 (qS D e d) (eV 5 28 (iV ((m:Int)-1)) (eX 6 29 D e d 1 ((m:Int)-1) (m-1) ((a.f.1).ok oM) (eH 7 30 (mV ((wds y).getD (m-1) 0)) a ((a.f.1).el (m-1) oM) ?_)))))));cases o:((((wds x).getD (m-1) 0:Nat):Int) != (((wds y).getD (m-1) 0:Nat):Int))
  .
   have p:=az o;refine eB 8 31 o (cG a (fun X W a=>tN (cV (cK (kQ (lL a ac (lV 22 (iV (((m-1:Nat):Int)-1)) ?_ (hr:=rS ((((m:Int)-1)-1)) kR ((dQ oM oM).trans oM)))))))));refine lL a ac (lD ?_);intro Z S;refine ⟨_,_,?_,⟨m-1,W,rfl,rfl,a.to _ _,oM,b,(eK (k:=m-1) b oM (by rw[show m-1+1=m by omega];exact i) oM)⟩,S.to _ kR⟩
   omega
  have p:=a7 o;refine eB 8 31 o (cG a (fun _ _ a=>tN (ci (cQ (cQ (cR 9 [] mixed a aw ?_))))));refine eV 0 32 (qS A n c) (eV 1 33 (iV ((m:Int)-1)) (eX 2 34 A n c 1 ((m:Int)-1) (m-1) ((a.f.2.1).ok oM) (eH 3 35 (mV ((wds x).getD (m-1) 0)) a ((a.f.2.1).el (m-1) oM) (eV 4 36 (qS D e d) (eV 5 37 (iV ((m:Int)-1)) (eX 6 38 D e d 1 ((m:Int)-1) (m-1) ((a.f.1).ok oM) (eH 7 39 (mV ((wds y).getD (m-1) 0)) a ((a.f.1).el (m-1) oM) ?_)))))));cases F:(decide ((((wds x).getD (m-1) 0:Nat):Int)<(((wds y).getD (m-1) 0:Nat):Int)))
  .
   have L:=oF F;exact eB 8 40 F (cG a (fun _ _ a=>tN (cV (cK (aa a ac (af a [] (iV 1) (by rw[<-kH (k:=m-1) b oM (by rw[show m-1+1=m by omega];exact i) oM,eN oM])))))))
  have L:=oT F;exact eB 8 40 F (cG a (fun _ _ a=>tN (ci (aa a ac (af a [] (iV (-1)) (by rw[<-kH (k:=m-1) b oM (by rw[show m-1+1=m by omega];exact i) oM,dJ oM]))))))
 have z:=a7 l;refine lB 10 l (ak (cQ (aa a [.c,.v (nV n),.c,.v (nV e)] ?_)));cases C:(decide ((n:Int)<(e:Int)))
 .
  have J:=oF C;exact lB 15 C (ah (cK (aa a ac (af a [] (iV 1) (by rw[eN (fB oM)])))))
 have J:=oT C;exact lB 15 C (ak (aa a ac (af a [] (iV (-1)) (by rw[dJ (fB oM)]))))
theorem wy (n:Nat)(hn:0<n)(hl:(wds n).length<=1000000000)(w:World)(h:Hp)(g:G w h):CR 238 #[nv n] w h (fun v h1=>Bp h h1 v (wds n)):=by
 have e:=sS g;have hnb:=kL n;have hwl:=lM n;have Z:=jb n ((nb n+7)/8);have X:=(cl hn).2.2;refine go Tryz.func238 [(0,nv n)] rfl (aG (lA 1 24 (nc n) e (fun K w2 h3 e=>lL e ac (aE (lL e [.o (nv n) 0 0 2] (lC 7 e (uU n hl _ _ e.g) ?_))))));rintro _ w4 h5 e ⟨B,rfl,hb⟩;replace e:=e.aS hb;refine lL e ac (aE (lL e [.c,.v (nV ((nb n+7)/8))] (bg 10 ((((nb n+7)/8):Nat)+7) ((((nb n+7)/8):Nat)+7) ?_)));refine lV 11 (nV (((((nb n+7)/8):Nat)+7:Nat)/8)) ?_ (hr:=aN (db (t:=3) (u:=3) (x:=.tmp 10) (y:=.const (iV 8)) (k:=.i64) (a:=(((((nb n+7)/8):Nat)+7:Nat):Int)) (b:=(8:Int)) kR kR kR oM _) (de ((((nb n+7)/8):Nat)+7:Nat) 8 oM));refine lK 12 22 (((((nb n+7)/8):Nat)+7:Nat)/8:Nat) 1 8 (uV 0) ar 0 e (fun j w7 h8 e=>?_);have L:(um (((((nb n+7)/8):Nat)+7:Nat)/8:Nat) 0).length=(((((nb n+7)/8):Nat)+7:Nat)/8:Nat):=by simp
 refine lL e ac (ai (aa e [.c,.v (nV ((nb n+7)/8)),.c] (bx ?_)));refine bG _ (CG.loop (fun Q Γ w_=>∃ (i:Nat)(l:List Nat)(O:Hp),Q=((nb n+7)/8)-i/\Γ=[(2,sZ),(3,qS B ((nb n+7)/8) ((nb n+7)/8)),(4,qS (sB j) (((((nb n+7)/8):Nat)+7:Nat)/8:Nat) (((((nb n+7)/8):Nat)+7:Nat)/8:Nat)),(14,nV ((nb n+7)/8)),(15,nV i)]/\SS w h w_ O [⟨j,22,(l).flatMap ar⟩,⟨K,24,nc n⟩] [] [fun O=>SlO 1 pZ 0 O B (fA n ((nb n+7)/8))]/\i<=((nb n+7)/8)/\l.length=(((nb n+7)/8)+7)/8/\Wd l/\aA l=n%256^i) _ ⟨0,um (((((nb n+7)/8):Nat)+7:Nat)/8:Nat) 0,h8,rfl,rfl,e.to _ _,JF _,L,Wd.rep _,(by show am _ _=_;rw[di,JG,Nat.mod_one])⟩ ?_);rintro _ _ _ ⟨i,l,_,W,rfl,e,hi,C,U,z⟩;have hbi:=kf n ((nb n+7)/8) (((nb n+7)/8)-1-i);refine aG ?_;cases H:(decide ((i:Int)<((((nb n+7)/8):Nat):Int)))
 .
  have zb:=oF H;refine lB 16 H (ai (cV (CG.exit ?_)))
  show CG _ _ _ _ _ _ _ _
  refine aa e aF (lN (kX ?_));have M:i=((nb n+7)/8):=by omega
  have Y:aA l=n:=by rw[z,M];exact u9 (Dp n)
  have V:l=wds n:=by rw[<-Y];exact (uB U (by rw[C,Y];omega)).symm
  rw[V] at e
  obtain ⟨_,e,p,F,D⟩:=e.pub 0;replace e:=(e.to [⟨K,24,nc n⟩] []).aS (SlO.of_flat (sz:=1) (f:=ar) (d:=0) (b:=j) (o:=0) (l:=wds n) (fun _=>rfl) p);exact e.ret [] (qS (sB j) (((((nb n+7)/8):Nat)+7:Nat)/8:Nat) (((((nb n+7)/8):Nat)+7:Nat)/8:Nat)) (⟨j,(by rw[show (((nb n+7)/8)+7)/8=(wds n).length by omega]),F,D,e.f.1⟩)
 have zb:=oT H;refine lB 16 H (ai (ci (cK (cQ (kZ (aa e aF (lN (cR 19 [] mixed e aw ?_))))))));refine eV 0 18 (qS (sB j) (((((nb n+7)/8):Nat)+7:Nat)/8:Nat) (((((nb n+7)/8):Nat)+7:Nat)/8:Nat)) (eV 1 19 (nV i) (eV 2 20 (nV (i/8)) ?_ (hv:=fun _=>aN (db (t:=3) (u:=3) (x:=.tmp 19) (y:=.const (iV 8)) (k:=.i64) (a:=(i:Int)) (b:=(8:Int)) kR kR kR oM _) (de i 8 oM))));refine eX 3 21 (sB j) (((((nb n+7)/8):Nat)+7:Nat)/8:Nat) (((((nb n+7)/8):Nat)+7:Nat)/8:Nat) 1 (i/8:Nat) (i/8) rfl (eQ 4 22 0 l ar 1 0 (i/8) (mV ((l).getD (i/8) 0)) e oM (eV 5 23 (qS B ((nb n+7)/8) ((nb n+7)/8)) (eV 6 24 (qS B ((nb n+7)/8) ((nb n+7)/8)) (eV 7 25 (nV ((nb n+7)/8)) (iR 8 26 ((((nb n+7)/8):Nat)-1) ((((nb n+7)/8):Nat)-1) (eV 9 27 (nV i) (iR 10 28 (((((nb n+7)/8):Nat)-1:Nat)-(i:Nat)) (((((nb n+7)/8):Nat)-1:Nat)-i) (eX 11 29 B ((nb n+7)/8) ((nb n+7)/8) 1 (((((nb n+7)/8):Nat)-1:Nat)-i:Nat) (((((nb n+7)/8):Nat)-1:Nat)-i:Nat) ((e.f.1).ok oM) (eH 12 30 (.int .u8 ((fA n ((nb n+7)/8)).getD (((((nb n+7)/8):Nat)-1:Nat)-i:Nat) 0:Nat)) e ((e.f.1).el (((((nb n+7)/8):Nat)-1:Nat)-i:Nat) oM) (eV 13 31 (mV ((fA n ((nb n+7)/8)).getD (((((nb n+7)/8):Nat)-1:Nat)-i:Nat) 0)) ?_ (hv:=fun _=>rU ((((fA n ((nb n+7)/8)).getD (((((nb n+7)/8):Nat)-1:Nat)-i:Nat) 0:Nat):Int)) kR (ay oM oM))))))))))));refine eV 14 32 (nV i) (eV 15 33 (nV (i%8)) ?_ (hv:=fun _=>aN (d4 (t:=3) (u:=3) (x:=.tmp 32) (y:=.const (iV 8)) (k:=.i64) (a:=(i:Int)) (b:=(8:Int)) kR kR kR oM _) (cM i 8)));refine iR 16 34 (8*(i%8:Nat)) (8*(i%8)) (eV 17 35 (mV (((fA n ((nb n+7)/8)).getD (((((nb n+7)/8):Nat)-1:Nat)-i:Nat) 0:Nat)*2^(8*(i%8))%18446744073709551616)) ?_ (hv:=fun _=>gA (t:=22) (u:=3) (x:=.tmp 31) (y:=.tmp 34) (ky:=.i64) (a:=((fA n ((nb n+7)/8)).getD (((((nb n+7)/8):Nat)-1:Nat)-i:Nat) 0:Nat)) (n:=(8*(i%8))) kR kR kR _));obtain ⟨S,I,J⟩:=rX oM z (show (fA n ((nb n+7)/8)).getD (((nb n+7)/8)-1-i) 0=n/256^i%256 by rw[im n ((nb n+7)/8) _ oM,show ((nb n+7)/8)-1-(((nb n+7)/8)-1-i)=i by omega]);have hlg:=U.get (i/8);refine eV 18 36 (mV (l.getD (i/8) 0+(fA n ((nb n+7)/8)).getD (((nb n+7)/8)-1-i) 0*2^(8*(i%8)))) ?_ (hv:=fun _=>aN (gc (t:=22) (u:=22) (x:=.tmp 22) (y:=.tmp 35) (a:=((l).getD (i/8) 0)) (b:=(((fA n ((nb n+7)/8)).getD (((((nb n+7)/8):Nat)-1:Nat)-i:Nat) 0:Nat)*2^(8*(i%8))%18446744073709551616:Nat)) kR kR kR oM oM _) (by rw[S]));refine cG e (fun _ zd e=>tX 19 37 (sB j) (((((nb n+7)/8):Nat)+7:Nat)/8:Nat) (((((nb n+7)/8):Nat)+7:Nat)/8:Nat) 1 (i/8:Nat) (i/8) rfl (tW 20 0 l ar 1 (i/8) (l.getD (i/8) 0+(fA n ((nb n+7)/8)).getD (((nb n+7)/8)-1-i) 0*2^(8*(i%8)):Nat) e oM (fun _ e=>?_)));have zc:((l).set (i/8) (l.getD (i/8) 0+(fA n ((nb n+7)/8)).getD (((nb n+7)/8)-1-i) 0*2^(8*(i%8)):Nat)).length=(((((nb n+7)/8):Nat)+7:Nat)/8:Nat):=by rw[Jr];exact C
 replace e:=e.to [⟨j,22,((l).set (i/8) (l.getD (i/8) 0+(fA n ((nb n+7)/8)).getD (((nb n+7)/8)-1-i) 0*2^(8*(i%8)):Nat)).flatMap ar⟩,⟨K,24,nc n⟩] [];refine tN (kQ (bg 38 ((i:Nat)+1) (i+1) ?_));refine lL e ac (lD ?_);intro a_ ka;refine ⟨_,_,?_,⟨i+1,(l).set (i/8) (l.getD (i/8) 0+(fA n ((nb n+7)/8)).getD (((nb n+7)/8)-1-i) 0*2^(8*(i%8)):Nat),zd,rfl,rfl,e.to _ _,oM,zc,(U.set _ I),J⟩,ka.to _ kR⟩
 omega
theorem Bf (A:Z9)(c:Nat)(l:List Nat)(n:Nat)(hn:l.length=n)(L:Wd l)(hl:l.length<=1000000000)(w:World)(h:Hp)(g:G w h)(Y:SlO 1 ar 0 h A l):CV 243 #[.slice A n c] w h (nv (aA l)):=by
 have e:=((sS g).aS Y);refine go Tryz.func243 [(0,qS A n c)] rfl (aG (lA 2 24 ([uV 0,eS]) e (fun D w2 h3 e=>aE (lL e [.c,.v (nV n)] (bg 7 (8*(n:Nat)) (8*n) ?_)))));refine lK 8 5 (8*n) 1 1 (.int .u8 0) pZ 0 e (fun B w5 Z e=>?_);have H:(um (8*n) 0).length=(8*n):=by simp
 refine lL e ac (ai (aa e [.c,.v (nV (8*n)),.c] (bx ?_)));refine bG _ (CG.loop (fun J Γ w_=>∃ (i:Nat)(z:List Nat)(I:Hp),J=8*n-i/\Γ=[(0,qS A n c),(2,pB D),(3,qS (sB B) (8*n) (8*n)),(10,nV (8*n)),(11,nV i)]/\SS w h w_ I [⟨B,5,(z).flatMap pZ⟩,⟨D,24,[uV 0,eS]⟩] [] [fun I=>SlO 1 ar 0 I A l]/\i<=8*n/\z.length=8*n/\(∀ j,j<i->z.getD (8*n-1-j) 0=aA l/256^j%256)) _ ⟨0,um (8*n) 0,Z,rfl,rfl,e.to _ _,JF _,H,(fun j M=>absurd M oM)⟩ ?_);rintro _ _ w8 ⟨i,z,X,Q,rfl,e,hi,p,S⟩;have hwi:=L.get (i/8);refine aG ?_;cases F:(decide ((i:Int)<(((8*n):Nat):Int)))
 .
  have V:=oF F;refine lB 12 F (ai (cV (CG.exit ?_)))
  show CG _ _ _ _ _ _ _ _
  refine aa e ac ?_;have him:i=8*n:=by omega
  have K:z=fA (aA l) (8*n):=vu p (fun j M=>S j oM);rw[K] at e
  obtain ⟨_,e,C,O,U⟩:=e.pub 0;replace e:=(e.to [⟨D,24,[uV 0,eS]⟩] []).aS (SlO.of_flat (sz:=1) (f:=pZ) (d:=0) (b:=B) (o:=0) (l:=fA (aA l) (8*n)) (fun _=>rfl) C);exact aq 33 e (DP (aA l) (8*n) (sB B) (8*n) oM oM (by have:=G6 L;rwa [hn] at this) _ _ e.g e.f.1) (fun _ _ e=>lP 0 0 (nc (aA l)) e (fun _ e=>af e [(0,0,2)] (nv (aA l)) rfl))
 have V:=oT F;refine lB 12 F (ai (ci (cK (cQ (kZ (aa e aF (lN (kQ (lL e [.c,.c,.v (nV (8*n))] (bg 17 (((8*n):Nat)-1) ((8*n)-1) ?_))))))))));refine lL e ac (bg 19 (((8*n)-1:Nat)-(i:Nat)) (((8*n)-1)-i) ?_);refine lL e aF (lV 22 (nV (i/8)) ?_ (hr:=aN (db (t:=3) (u:=3) (x:=.tmp 21) (y:=.const (iV 8)) (k:=.i64) (a:=(i:Int)) (b:=(8:Int)) kR kR kR oM _) (de i 8 oM)));refine lX 23 A n c 1 (i/8:Nat) (i/8) ((e.f.1).ok oM) (lH 24 (mV (l.getD (i/8) 0)) e ((e.f.1).el (i/8) oM) (lL e ac (lV 26 (nV (i%8)) ?_ (hr:=aN (d4 (t:=3) (u:=3) (x:=.tmp 25) (y:=.const (iV 8)) (k:=.i64) (a:=(i:Int)) (b:=(8:Int)) kR kR kR oM _) (cM i 8)))));refine bg 27 (8*(i%8:Nat)) (8*(i%8)) (lV 28 (mV ((l.getD (i/8) 0)/2^(8*(i%8)))) ?_ (hr:=fO (t:=22) (u:=3) (x:=.tmp 24) (y:=.tmp 27) (ky:=.i64) (a:=(l.getD (i/8) 0)) (n:=(8*(i%8))) kR kR kR oM _));refine lV 29 (.int .u8 (l.getD (i/8) 0/2^(8*(i%8))%256:Nat)) ?_ (hr:=aN (n:=IntKind.wrap .u8 ((l.getD (i/8) 0/2^(8*(i%8)):Nat):Int)) kR (wR _));refine lX 30 (sB B) (8*n) (8*n) 1 (((8*n)-1)-i:Nat) (((8*n)-1)-i:Nat) rfl (lW 0 z pZ 1 (((8*n)-1)-i:Nat) (l.getD (i/8) 0/2^(8*(i%8))%256:Nat) e oM (fun _ e=>?_));have W:((z).set (((8*n)-1)-i:Nat) (l.getD (i/8) 0/2^(8*(i%8))%256:Nat)).length=(8*n):=by rw[Jr];exact p
 replace e:=e.to [⟨B,5,((z).set (((8*n)-1)-i:Nat) (l.getD (i/8) 0/2^(8*(i%8))%256:Nat)).flatMap pZ⟩,⟨D,24,[uV 0,eS]⟩] [];refine lN (kQ (bg 31 ((i:Nat)+1) (i+1) ?_));refine lL e ac (lD ?_);intro a_ ka;refine ⟨_,_,?_,⟨i+1,(z).set (((8*n)-1)-i:Nat) (l.getD (i/8) 0/2^(8*(i%8))%256:Nat),X,rfl,rfl,e.to _ _,oM,W,(jd p oM S (pz L i))⟩,ka.to _ kR⟩
 omega
def win (l:List Nat)(o n:Nat):List Nat:=(l.drop o).take n
theorem bA {l:List Nat}{o n:Nat}(h:o+n<=l.length):(win l o n).length=n:=by unfold win;rw[Ab,I9];omega
theorem nj {l:List Nat}{o n j:Nat}(h:j<n):(win l o n).getD j 0=l.getD (o+j) 0:=by unfold win;rw[iM h,bK]
theorem i8 {l:List Nat}{o n i x:Nat}(hi:i<n):win (l.set (o+i) x) o n=(win l o n).set i x:=by
 unfold win
 rw[List.drop_set,if_neg oM,JX,show o+i-o=i by omega]
theorem uE {l:List Nat}{o n q:Nat}:(win l o n).drop q=win l (o+q) (n-q):=by
 unfold win;rw[List.drop_take,List.drop_drop]
theorem lj {l:List Nat}{o n m:Nat}(h:m<=n):(win l o n).take m=win l o m:=by
 unfold win;rw[List.take_take,Am h]
theorem nG (l:List Nat)(n:Nat)(h:l.length<=n):win l 0 n=l:=by unfold win;rw[sy,I5 h]
theorem Wd.win {l:List Nat}(h:Wd l)(o n:Nat):Wd (win l o n):=Dg.take (Dg.drop h o) n
theorem sY {Z W:List Nat}{i p d a:Nat}(hi:i<Z.length)(l:2^p*am 18446744073709551616 (Z.take i)+a=am 18446744073709551616 (W.take i)+18446744073709551616^i*(W.getD i 0%2^p))
  (j:2^p*d+W.getD i 0%2^p=W.getD i 0+18446744073709551616*(W.getD (i+1) 0%2^p)) :
  2^p*am 18446744073709551616 ((Z.set i d).take (i+1))+a=am 18446744073709551616 (W.take (i+1))+18446744073709551616^(i+1)*(W.getD (i+1) 0%2^p):=by
 have b:=aT 18446744073709551616 (Z.set i d) i;have e:(Z.set i d).take i=Z.take i:=by rw[JX,List.set_eq_of_length_le];rw[Ab];omega
 rw[e,bB hi,if_pos rfl] at b
 have h:=aT 18446744073709551616 W i;have f:=congrArg (18446744073709551616^i * ·) j
 simp only[z7] at f
 rw[b,h,z1,z7];have k:2^p*(18446744073709551616^i*d)=18446744073709551616^i*(2^p*d):=by ac_rfl
 have c:18446744073709551616^i*18446744073709551616*(W.getD (i+1) 0%2^p)=18446744073709551616^i*(18446744073709551616*(W.getD (i+1) 0%2^p)):=by ac_rfl
 rw[k,c]
 omega
theorem vK {X:List Nat}(d:Wd X){k m:Nat}(t:Tz (aA X) k m)(e:k/64<X.length):aA (X.drop (k/64))=2^(k%64)*m/\(X.drop (k/64)).getD 0 0%2^(k%64)=0:=by
 have h1:aA (X.drop (k/64))=2^(k%64)*m:=by
  rw[mF d oM,t.1,vJ k,z8,Nat.mul_div_cancel_left _ (F2 kD)]
 refine ⟨h1,?_⟩
 have c:aA (X.drop (k/64))=(X.drop (k/64)).getD 0 0+18446744073709551616*am 18446744073709551616 ((X.drop (k/64)).drop 1):=by
  have:=eZ 18446744073709551616 (l:=X.drop (k/64)) (k:=0) (by rw[I9];omega)
  rwa [sy] at this
 have b:(18446744073709551616:Nat)=2^(k%64)*2^(64-k%64):=by rw[<-A7,show k%64+(64-k%64)=64 by omega]
 rw[h1] at c
 have a:(2^(k%64)*m)%2^(k%64)=0:=Nat.mul_mod_right _ _;rw[c] at a
 conv at a=>lhs;rw[b]
 rw[z8,Ju] at a
 exact a
theorem Er {Z W:List Nat}{p m:Nat}(b:W.length<=Z.length)(a:2^p*am 18446744073709551616 (Z.take Z.length)+0=am 18446744073709551616 (W.take Z.length)+18446744073709551616^Z.length*(W.getD Z.length 0%2^p))(e:aA W=2^p*m):aA Z=m:=by
 rw[s1,I5 b,cP b,Js,Ao,sw,sw] at a
 have c:am 18446744073709551616 W=2^p*m:=e;rw[c] at a
 exact JU (A0 p) a
theorem pj {l X:List Nat}{q i x N:Nat}(b:q+i<l.length)(h:∀ j,i<=j->j<N->l.getD (q+j) 0=X.getD j 0):∀ j,i+1<=j->j<N->(l.set (q+i) x).getD (q+j) 0=X.getD j 0:=fun j h1 a=>by
 rw[bB b,if_neg oM];exact h j oM a
theorem rJ (rb:Nat)(l0:List Nat)(o n c x:Nat)(hx:0<x)(hl0:l0.length<=1000000000)(F:o+n<=l0.length)(hnc:n<=c)(D:Wd l0)(J:win l0 o n=wds x)(w:World)(h:Hp)(g:G w h)(ho:Own w rb 22 (l0.flatMap ar))(V:h[rb]?=some junk)(tb:Tab h):Calls Tryz.prog 240 #[.slice (some ⟨rb,o,none⟩) n c] w (bV rb w h fun v w' _=>∃ z:List Nat,∃ o' n' c':Nat,v=.slice (some ⟨rb,o',none⟩) n' c'/\z.length=l0.length/\Wd z/\o'+n'<=z.length/\n'<=c'/\(∃ k m:Nat,Tz x k m/\win z o' n'=wds m)/\Own w' rb 22 (z.flatMap ar)):=by
 have B:UpM [rb] w h w h:=UpM.refl g;obtain ⟨wz,hz,e⟩:=SS.at_ g ho V;have bb:l0.length=l0.length:=rfl;replace e:=(e.add (K:=fun S=>Tab S) tb);refine go Tryz.func240 [(0,qS (some ⟨rb,o,none⟩) n c)] rfl (aa e ac (aE (lL e ac (vC 7 0 e (fun _ g_ f_ L=>qH (some ⟨rb,o,none⟩) c (win l0 o n) n (bA F) (D.win _ _) (by rw[J,aZ];exact hx) (by rw[bA F];omega) _ _ g_ (f_.1) (SlO.win (f:=ar) (d:=0) (b:=rb) (l:=l0) (fun _=>rfl) L o n)) ?_))));rintro _ w1 h2 u3 e ⟨k,m,rfl,M,hkn⟩;replace B:=B.trans (u3.m _);rw[bA F] at hkn
 have hX:=D.win o n;obtain ⟨O,Q⟩:=vK hX M (by rw[bA F];omega);rw[uE] at O Q
 obtain ⟨X,hXd⟩:∃ X,X=win l0 (o+k/64) (n-k/64):=⟨_,rfl⟩;rw[<-hXd] at O Q
 have hXl:X.length=n-k/64:=by rw[hXd];exact bA oM
 have hXW:Wd X:=by rw[hXd];exact D.win _ _
 have hXg:∀ j,j<n-k/64->X.getD j 0=l0.getD (o+k/64+j) 0:=fun j V=>by rw[hXd];exact nj V
 refine lL e ac (aE (lL e aF (lV 10 (nV (k/64)) ?_ (hr:=aN (db (t:=3) (u:=3) (x:=.tmp 9) (y:=.const (iV 64)) (k:=.i64) (a:=(k:Int)) (b:=(64:Int)) kR kR kR oM _) (de k 64 oM)))));refine IM 11 rb o n c 1 (k/64:Nat) (k/64) (o+(k/64)) (lL e ac (aE (lL e ac (lV 13 (nV (k%64)) ?_ (hr:=aN (d4 (t:=3) (u:=3) (x:=.tmp 12) (y:=.const (iV 64)) (k:=.i64) (a:=(k:Int)) (b:=(64:Int)) kR kR kR oM _) (cM k 64))))));refine lL e ac (ai (aa e [.c,.v (nV (n-(k/64))),.c] (bx ?_)));refine bG _ (CG.loop (fun μ_ Γ w_=>∃ (i:Nat)(l:List Nat)(S:Hp),μ_=(n-k/64)-i/\Γ=[(0,qS (some ⟨rb,(o+(k/64)),none⟩) (n-(k/64)) (c-(k/64))),(2,sZ),(4,nV (k%64)),(15,nV (n-(k/64))),(16,nV i)]/\SS wz hz w_ S [⟨rb,22,(l).flatMap ar⟩] [] [fun S=>Tab S]/\i<=n-k/64/\l.length=l0.length/\Wd l/\2^(k%64)*am 18446744073709551616 ((win l (o+k/64) (n-k/64)).take i)+0=am 18446744073709551616 (X.take i)+18446744073709551616^i*(X.getD i 0%2^(k%64))/\(∀ j,i<=j->j<n-k/64->l.getD (o+k/64+j) 0=X.getD j 0)/\UpM [rb] w h w_ S) _ ⟨0,l0,h2,rfl,rfl,e.to _ _,JF _,rfl,D,(by rw[Q];simp[am]),(fun j _ V=>(hXg j V).symm),B⟩ ?_);rintro _ _ w4 ⟨i,l,h5,hm6,rfl,e,hi,hll,hW,C,I,B⟩;refine aG ?_;cases H:(decide ((i:Int)<((n-(k/64):Nat):Int)))
 .
  have Y:=oF H;refine lB 17 H (ai (cV (CG.exit ?_)))
  show CG _ _ _ _ _ _ _ _
  refine aa e ac (vC 47 0 e (fun _ g_ f_ L=>CY (some ⟨rb,(o+k/64),none⟩) (c-(k/64)) (win l (o+k/64) (n-k/64)) (n-k/64) (bA oM) (by rw[bA oM];omega) (by rw[bA oM];omega) _ _ g_ (SlO.win (f:=ar) (d:=0) (b:=rb) (l:=l) (fun _=>rfl) L (o+k/64) (n-k/64))) ?_);rintro _ w8 h9 u10 e rfl;replace B:=B.trans (u10.m _);refine lL e ac (lN (kX ?_));have W:i=n-k/64:=by omega
  have hZl:(win l (o+k/64) (n-k/64)).length=n-k/64:=bA oM;have hE:=Er (Z:=win l (o+k/64) (n-k/64)) oM (by rw[hZl,<-W];rw[<-W] at C;exact C) O;have hZW:Wd (win l (o+k/64) (n-k/64)):=hW.win _ _;have hwm:=lc hZW;rw[hE,hZl] at hwm
  have htl:=fX (win l (o+k/64) (n-k/64)) (n-k/64);exact e.retM B [] (qS (some ⟨rb,(o+k/64),none⟩) (tl (win l (o+k/64) (n-k/64)) (n-k/64)) (c-(k/64))) ⟨l,(o+k/64),_,_,rfl,hll,hW,by omega,by omega,⟨k,m,by rw[J,aZ] at M;exact M,by rw[hwm];exact (lj htl).symm⟩,e.own 0⟩
 have Y:=oT H;refine lB 17 H (ai (ci (cK (cQ (kZ (aa e aF (aE (lL e aF (FK 21 rb (o+(k/64)) (n-(k/64)) (c-(k/64)) 1 (i:Nat) i ((o+(k/64))+i) ?_)))))))));refine lQ 22 0 l ar 1 0 ((o+(k/64))+i) (mV ((l).getD ((o+(k/64))+i) 0)) e oM (lL e ac ?_);have hXi:X.getD i 0=l.getD (o+k/64+i) 0:=(I i (nR _) oM).symm;have hxi:=hW.get (o+k/64+i);have hdv:=zF (l.getD (o+k/64+i) 0) (2^(k%64));refine lV 24 (mV (((l).getD ((o+(k/64))+i) 0:Nat)/2^(k%64))) ?_ (hr:=fO (t:=22) (u:=3) (x:=.tmp 22) (y:=.tmp 23) (ky:=.i64) (a:=((l).getD ((o+(k/64))+i) 0:Nat)) (n:=(k%64)) kR kR kR oM _);refine FK 25 rb (o+(k/64)) (n-(k/64)) (c-(k/64)) 1 (i:Nat) i ((o+(k/64))+i) (F6 0 l ar 1 ((o+(k/64))+i) (((l).getD ((o+(k/64))+i) 0:Nat)/2^(k%64):Nat) e oM (fun _ pu e=>?_));replace B:=B.put pu (o0.2 rfl) e.g;have zb:((l).set ((o+(k/64))+i) (((l).getD ((o+(k/64))+i) 0:Nat)/2^(k%64):Nat)).length=l0.length:=by rw[Jr];exact hll
 replace e:=e.to [⟨rb,22,((l).set ((o+(k/64))+i) (((l).getD ((o+(k/64))+i) 0:Nat)/2^(k%64):Nat)).flatMap ar⟩] [];refine aE (lL e ac (bg 27 ((i:Nat)+1) (i+1) ?_));refine lL e [.c,.v (nV (n-(k/64)))] ?_;cases za:(decide (((i+1:Nat):Int)<((n-(k/64):Nat):Int)))
 .
  have zc:=oF za;refine lB 30 za (ah (cK (kQ (bg 45 ((i:Nat)+1) (i+1) ?_))));refine lL e ac (lD ?_);intro a_ ka;refine ⟨_,_,?_,⟨i+1,(l).set ((o+(k/64))+i) (((l).getD ((o+(k/64))+i) 0:Nat)/2^(k%64):Nat),h5,rfl,rfl,e.to _ _,oM,zb,(hW.set _ oM),(by rw[i8 oM];exact sY (by rw[bA oM];omega) C (by rw[hXi,cP (l:=X) (show X.length<=i+1 by omega),Js,Ao,sw];exact I7 _ _)),(pj oM I),B⟩,ka.to _ kR⟩
  omega
 have zc:=oT za;refine lB 30 za (ak (AU ⟨[],none⟩ 13 mixed ?_));replace B:=B.trans ((Up.drew (Up.refl e.g)).m _);replace e:=e.drew;refine aV 0 31 (qS (some ⟨rb,(o+(k/64)),none⟩) (n-(k/64)) (c-(k/64))) (aV 1 32 (nV i) (Iw 2 33 rb (o+(k/64)) (n-(k/64)) (c-(k/64)) 1 (i:Nat) i ((o+(k/64))+i) (aQ 3 34 0 ((l).set ((o+(k/64))+i) (((l).getD ((o+(k/64))+i) 0:Nat)/2^(k%64):Nat)) ar 1 0 ((o+(k/64))+i) (mV (((l).set ((o+(k/64))+i) (((l).getD ((o+(k/64))+i) 0:Nat)/2^(k%64):Nat)).getD ((o+(k/64))+i) 0)) e oM (aV 4 35 (qS (some ⟨rb,(o+(k/64)),none⟩) (n-(k/64)) (c-(k/64))) (aV 5 36 (nV i) (aV 6 37 (nV (i+1)) ?_ (hv:=fun _=>rS (((i:Nat)+1)) kR ((dQ oM oM).trans oM))))))));refine Iw 7 38 rb (o+(k/64)) (n-(k/64)) (c-(k/64)) 1 (i+1:Nat) (i+1) ((o+(k/64))+(i+1)) (aQ 8 39 0 ((l).set ((o+(k/64))+i) (((l).getD ((o+(k/64))+i) 0:Nat)/2^(k%64):Nat)) ar 1 0 ((o+(k/64))+(i+1)) (mV (((l).set ((o+(k/64))+i) (((l).getD ((o+(k/64))+i) 0:Nat)/2^(k%64):Nat)).getD ((o+(k/64))+(i+1)) 0)) e oM (aV 9 40 (nV (k%64)) (aV 10 41 (nV (64-(k%64))) ?_ (hv:=fun _=>rS ((64-(k%64:Nat))) kR ((dQ oM oM).trans oM)))));refine aV 11 42 (mV ((((l).set ((o+(k/64))+i) (((l).getD ((o+(k/64))+i) 0:Nat)/2^(k%64):Nat)).getD ((o+(k/64))+(i+1)) 0:Nat)*2^(64-(k%64))%18446744073709551616)) ?_ (hv:=fun _=>gA (t:=22) (u:=3) (x:=.tmp 39) (y:=.tmp 41) (ky:=.i64) (a:=(((l).set ((o+(k/64))+i) (((l).getD ((o+(k/64))+i) 0:Nat)/2^(k%64):Nat)).getD ((o+(k/64))+(i+1)) 0:Nat)) (n:=(64-(k%64))) kR kR kR _);have hXn:X.getD (i+1) 0=l.getD (o+k/64+(i+1)) 0:=(I (i+1) oM oM).symm;obtain ⟨hS1,hS2,hS3⟩:=pD (x:=l.getD (o+k/64+i) 0) (y:=l.getD (o+k/64+(i+1)) 0) (p:=k%64) oM hxi;have hgs:=bB (l:=l) (k:=o+k/64+i) (j:=o+k/64+i) (x:=l.getD (o+k/64+i) 0/2^(k%64)) oM;rw[if_pos rfl] at hgs
 have U:=bB (l:=l) (k:=o+k/64+i) (j:=o+k/64+(i+1)) (x:=l.getD (o+k/64+i) 0/2^(k%64)) oM;rw[if_neg oM] at U
 refine aV 12 43 (mV (l.getD (o+k/64+i) 0/2^(k%64)+l.getD (o+k/64+(i+1)) 0*2^(64-k%64)%18446744073709551616)) ?_ (hv:=fun _=>aN (gc (t:=22) (u:=22) (x:=.tmp 34) (y:=.tmp 42) (a:=(((l).set ((o+(k/64))+i) (((l).getD ((o+(k/64))+i) 0:Nat)/2^(k%64):Nat)).getD ((o+(k/64))+i) 0:Nat)) (b:=((((l).set ((o+(k/64))+i) (((l).getD ((o+(k/64))+i) 0:Nat)/2^(k%64):Nat)).getD ((o+(k/64))+(i+1)) 0:Nat)*2^(64-(k%64))%18446744073709551616:Nat)) kR kR kR oM oM _) (by rw[hgs,U,hS1]));refine IV 13 44 rb (o+(k/64)) (n-(k/64)) (c-(k/64)) 1 (i:Nat) i ((o+(k/64))+i) (IK 14 0 ((l).set ((o+(k/64))+i) (((l).getD ((o+(k/64))+i) 0:Nat)/2^(k%64):Nat)) ar 1 ((o+(k/64))+i) (l.getD (o+k/64+i) 0/2^(k%64)+l.getD (o+k/64+(i+1)) 0*2^(64-k%64)%18446744073709551616:Nat) e oM (fun _ pu e=>?_));replace B:=B.put pu (o0.2 rfl) e.g;have zd:(((l).set ((o+(k/64))+i) (((l).getD ((o+(k/64))+i) 0:Nat)/2^(k%64):Nat)).set ((o+(k/64))+i) (l.getD (o+k/64+i) 0/2^(k%64)+l.getD (o+k/64+(i+1)) 0*2^(64-k%64)%18446744073709551616:Nat)).length=l0.length:=by rw[Jr];exact zb
 replace e:=e.to [⟨rb,22,(((l).set ((o+(k/64))+i) (((l).getD ((o+(k/64))+i) 0:Nat)/2^(k%64):Nat)).set ((o+(k/64))+i) (l.getD (o+k/64+i) 0/2^(k%64)+l.getD (o+k/64+(i+1)) 0*2^(64-k%64)%18446744073709551616:Nat)).flatMap ar⟩] [];refine tN (kQ (bg 45 ((i:Nat)+1) (i+1) ?_));refine lL e ac (lD ?_);intro a_ ka;refine ⟨_,_,?_,⟨i+1,((l).set ((o+(k/64))+i) (((l).getD ((o+(k/64))+i) 0:Nat)/2^(k%64):Nat)).set ((o+(k/64))+i) (l.getD (o+k/64+i) 0/2^(k%64)+l.getD (o+k/64+(i+1)) 0*2^(64-k%64)%18446744073709551616:Nat),h5,rfl,rfl,e.to _ _,oM,zd,((hW.set _ oM).set _ hS2),(by rw[JK,i8 oM];exact sY (by rw[bA oM];omega) C (by rw[hXi,hXn];exact hS3)),(by rw[JK];exact pj oM I),B⟩,ka.to _ kR⟩
 omega
theorem G8 (rb:Nat)(l0:List Nat)(o n c x:Nat)(hl0:l0.length<=1000000000)(hon:o+n<=l0.length)(hnc:n<=c)(hW0:Wd l0)(F:win l0 o n=wds x)(D:Z9)(d y m:Nat)(hm:(wds y).length=m)(hmd:m<=d)(hyx:y<=x)(w:World)(h:Hp)(g:G w h)(ho:Own w rb 22 (l0.flatMap ar))(hj:h[rb]?=some junk)(hD:SlO 1 ar 0 h D (wds y)):Calls Tryz.prog 242 #[.slice (some ⟨rb,o,none⟩) n c,.slice D m d] w (bV rb w h fun v w' _=>∃ z:List Nat,∃ o' Y c':Nat,v=.slice (some ⟨rb,o',none⟩) Y c'/\z.length=l0.length/\Wd z/\o'+Y<=z.length/\Y<=c'/\win z o' Y=wds (x-y)/\Own w' rb 22 (z.flatMap ar)):=by
 have e:UpM [rb] w h w h:=UpM.refl g;obtain ⟨wz,hz,a⟩:=SS.at_ g ho hj;have bp:l0.length=l0.length:=rfl;replace a:=a.aS hD;have hwn:n=(wds x).length:=by rw[<-F,bA hon]
 have hlm:=dz hyx;refine go Tryz.func242 [(0,qS (some ⟨rb,o,none⟩) n c),(1,qS D m d)] rfl (aa a ac (aE (lL a ac (ai (aa a [.c,.v (nV n),.c] (bx ?_))))));refine bG _ (CG.loop (fun μ_ Γ w_=>∃ (i:Nat)(l:List Nat)(I:Nat)(X:Hp),μ_=n-i/\Γ=[(0,qS (some ⟨rb,o,none⟩) n c),(1,qS D m d),(4,sZ),(9,nV n),(10,nV i),(5,mV I)]/\SS wz hz w_ X [⟨rb,22,(l).flatMap ar⟩] [] [fun X=>SlO 1 ar 0 X D (wds y)]/\i<=n/\l.length=l0.length/\Wd l/\I<=1/\am 18446744073709551616 (win l o n)+am 18446744073709551616 ((wds y).take i)=x+18446744073709551616^i*I/\UpM [rb] w h w_ X) _ ⟨0,l0,0,h,rfl,rfl,a.to _ _,JF _,rfl,hW0,oM,(by have hx_:am 18446744073709551616 (wds x)=x:=aZ x;rw[F,hx_];simp[am]),e⟩ ?_);rintro _ _ w1 ⟨i,l,I,h2,hm3,rfl,a,hi,H,M,hbo,u,e⟩;have hlk:=M.get (o+i);have hyk:=(Wd.wds y).get i;have O:=nj (l:=l) (o:=o) (n:=n) (j:=i);refine aG ?_;cases C:(decide ((i:Int)<(n:Int)))
 .
  have W:=oF C;refine lB 11 C (ai (cV (CG.exit ?_)))
  show CG _ _ _ _ _ _ _ _
  refine aa a ac (vC 36 0 a (fun _ g_ f_ Z=>CY (some ⟨rb,o,none⟩) c (win l o n) n (bA oM) (by rw[bA oM];omega) (by rw[bA oM];omega) _ _ g_ (SlO.win (f:=ar) (d:=0) (b:=rb) (l:=l) (fun _=>rfl) Z o n)) ?_);rintro _ w5 h6 u7 a rfl;replace e:=e.trans (u7.m _);refine lL a ac (lN (kX ?_));have hiN:i=n:=by omega
  have S:(win l o n).length=n:=bA oM;rw[I5 (show (wds y).length<=i by omega),hiN] at u
  have V:Wd (win l o n):=M.win _ _;have hE:aA (win l o n)=x-y:=CC V (by rw[S];have hb_:am 18446744073709551616 (wds y)=y:=aZ y;rw[hb_] at u;exact u) oM hbo;have Q:=lc V;rw[hE,S] at Q
  have htl:=fX (win l o n) n;exact a.retM e [] (qS (some ⟨rb,o,none⟩) (tl (win l o n) n) c) ⟨l,o,_,_,rfl,H,M,by omega,by omega,(by rw[Q];exact (lj htl).symm),a.own 0⟩
 have W:=oT C;refine lB 11 C (ai (ci (cK (cQ (kZ (aa a aF (aE (lL a ac (ai (aa a [.c,.c,.v (nV m)] ?_))))))))));cases B:(decide ((i:Int)<(m:Int)))
 .
  have L:=oF B;refine lB 16 B (ah (cK (kQ (lL a m4 (FK 26 rb o n c 1 (i:Nat) i (o+i) ?_)))));refine lQ 27 0 l ar 1 0 (o+i) (mV ((l).getD (o+i) 0)) a oM (lL a aF ?_);obtain ⟨J,za,bq,bb,bm,K⟩:=oo ((l).getD (o+i) 0) 0 I wM wM oM;refine lV 30 (.tuple #[mV J,mV za]) ?_ (hr:=dV kR (K _));refine lL a [.c,.v (mV J),.v (mV za)] (FK 33 rb o n c 1 (i:Nat) i (o+i) ?_);refine F6 0 l ar 1 (o+i) J a oM (fun _ pu a=>?_);replace e:=e.put pu (o0.2 rfl) a.g;have zc:((l).set (o+i) J).length=l0.length:=by rw[Jr];exact H
  replace a:=a.to [⟨rb,22,((l).set (o+i) J).flatMap ar⟩] [];refine lL a ac (lN (kQ (bg 34 ((i:Nat)+1) (i+1) ?_)));refine lL a ac (lD ?_);intro a_ ka;refine ⟨_,_,?_,⟨i+1,(l).set (o+i) J,za,h2,rfl,rfl,a.to _ _,oM,zc,(M.set _ oM),oM,(by rw[i8 oM];exact o7 (by rw[bA oM];omega) u (by rw[O oM];first|omega|(have hy0:=cP (l:=wds y) (k:=i) oM;omega))),e⟩,ka.to _ kR⟩
  omega
 have L:=oT B;refine lB 16 B (ak (kQ (lL a aF (lX 19 D m d 1 (i:Nat) i ((a.f.1).ok oM) ?_))));refine lH 20 (mV ((wds y).getD i 0)) a ((a.f.1).el i oM) (lL a ac (lN (kQ (lL a m4 (FK 26 rb o n c 1 (i:Nat) i (o+i) ?_)))));refine lQ 27 0 l ar 1 0 (o+i) (mV ((l).getD (o+i) 0)) a oM (lL a aF ?_);obtain ⟨p,zb,bl,bk,bd,U⟩:=oo ((l).getD (o+i) 0) ((wds y).getD i 0) I wM wM oM;refine lV 30 (.tuple #[mV p,mV zb]) ?_ (hr:=dV kR (U _));refine lL a [.c,.v (mV p),.v (mV zb)] (FK 33 rb o n c 1 (i:Nat) i (o+i) ?_);refine F6 0 l ar 1 (o+i) p a oM (fun _ pu a=>?_);replace e:=e.put pu (o0.2 rfl) a.g;have zd:((l).set (o+i) p).length=l0.length:=by rw[Jr];exact H
 replace a:=a.to [⟨rb,22,((l).set (o+i) p).flatMap ar⟩] [];refine lL a ac (lN (kQ (bg 34 ((i:Nat)+1) (i+1) ?_)));refine lL a ac (lD ?_);intro a_ ka;refine ⟨_,_,?_,⟨i+1,(l).set (o+i) p,zb,h2,rfl,rfl,a.to _ _,oM,zd,(M.set _ oM),oM,(by rw[i8 oM];exact o7 (by rw[bA oM];omega) u (by rw[O oM];first|omega|(have hy0:=cP (l:=wds y) (k:=i) oM;omega))),e⟩,ka.to _ kR⟩
 omega
theorem Tz.le {n k m:Nat}(t:Tz n k m):m<=n:=by rw[t.1];exact Nat.le_mul_of_pos_left m (A0 k)
theorem gf (a b:Nat):(cX a b=0/\a=b)\/(cX a b = -1/\a<b)\/(cX a b=1/\b<a):=by
 rcases JL a b with h|h|h
 ·exact .inr (.inl ⟨dJ h,h⟩)
 ·exact .inl ⟨ij h,h⟩
 ·exact .inr (.inr ⟨eN h,h⟩)
theorem tH (A:Z9)(c:Nat)(D:Z9)(d:Nat)(x y n a:Nat)(b f:List Nat)(i:b=wds x)(k:f=wds y)(u:b.length=n)(e:f.length=a)(p:n<=1000000000)(o:a<=1000000000)(w:World)(h:Hp)(g:G w h)(l:SlO 1 ar 0 h A b)(j:SlO 1 ar 0 h D f):CV 241 #[.slice A n c,.slice D a d] w h (iV (cX x y)):=by
 subst i k;exact vw A c D d x y n a u e oM oM w h g l j
theorem Hg (A:Z9)(c:Nat)(l:List Nat)(n x:Nat)(d:l=wds x)(b:l.length=n)(e:n<=1000000000)(w:World)(h:Hp)(g:G w h)(a:SlO 1 ar 0 h A l):CV 243 #[.slice A n c] w h (nv x):=by
 subst d;have:=Bf A c (wds x) n b (Wd.wds x) oM w h g a
 rwa [aZ] at this
theorem xt (rb:Nat)(l0:List Nat)(o n c x:Nat)(e:l0.length<=1000000000)(p:o+n<=l0.length)(i:n<=c)(l:Wd l0)(a:win l0 o n=wds x)(D:Z9)(d y m:Nat)(k:List Nat)(F:k=wds y)(B:k.length=m)(f:m<=d)(j:y<=x)(w:World)(h:Hp)(g:G w h)(H:Own w rb 22 (l0.flatMap ar))(C:h[rb]?=some junk)(u:SlO 1 ar 0 h D k):Calls Tryz.prog 242 #[.slice (some ⟨rb,o,none⟩) n c,.slice D m d] w (bV rb w h fun v w' _=>∃ z:List Nat,∃ o' b c':Nat,v=.slice (some ⟨rb,o',none⟩) b c'/\z.length=l0.length/\Wd z/\o'+b<=z.length/\b<=c'/\win z o' b=wds (x-y)/\Own w' rb 22 (z.flatMap ar)):=by
 subst F;exact G8 rb l0 o n c x e p i l a D d y m B f j w h g H C u
theorem BL (x y:Nat)(hx:0<x)(hy:0<y)(hlx:(wds x).length<=1000000000)(hly:(wds y).length<=1000000000)(w:World)(h:Hp)(g:G w h)(tb:Tab h):CV 233 #[nv x,nv y] w h (nv (JI x y)):=by
 have e:=((sS g).add (K:=fun h_=>Tab h_) tb);have hpx:=hx;have hpy:=hy;refine go Tryz.func233 [(0,nv x),(1,nv y)] rfl (aG (lA 2 24 (nc x) e (fun b1 w2 h3 e=>lA 3 24 (nc y) e (fun b4 w5 h6 e=>lA 4 24 ([uV 0,eS]) e (fun V w8 h9 e=>ai ?_)))));obtain ⟨K_,hK_⟩:∃ K_,K_=w8.heap.size:=⟨_,rfl⟩;have h4:V<K_:=by rw[hK_];exact gm e 0
 have bq:b4<K_:=by rw[hK_];exact gm e 1
 have dk:b1<K_:=by rw[hK_];exact gm e 2
 refine AU ⟨[],some (K_,[])⟩ 0 mixed ?_;have k1:=e.g.size;replace e:=e.drew;have X:=JN hK_;refine zO 0 10 [(2,0,2)] (nv x) rfl X e (fun p hp=>by obtain rfl:=o0.1 hp;exact dk) (zO 2 12 [(1,0,2)] (nv y) rfl X e (fun p hp=>by obtain rfl:=o0.1 hp;exact bq) (xo 1 11 (wy x oM oM _ _ e.g) rfl X ?_));rintro _ _ _ u12 X ⟨D,rfl,fz,hd,ly⟩;obtain ⟨_,e,-,-⟩:=e.take u12 fz hd;replace e:=e.to [⟨D,22,(wds x).flatMap ar⟩,⟨V,24,[uV 0,eS]⟩,⟨b4,24,nc y⟩,⟨b1,24,nc x⟩] [];refine xo 3 13 (wy y oM oM _ _ e.g) rfl X ?_;rintro _ _ _ u16 X ⟨L,rfl,fp,fn,lq⟩;obtain ⟨_,e,-,-⟩:=e.take u16 fp fn;replace e:=e.to [⟨L,22,(wds y).flatMap ar⟩,⟨D,22,(wds x).flatMap ar⟩,⟨V,24,[uV 0,eS]⟩,⟨b4,24,nc y⟩,⟨b1,24,nc x⟩] [];refine zV 4 5 (qS (sB D) ((wds x).length) ((wds x).length)) (zV 5 6 (qS (sB L) ((wds y).length) ((wds y).length)) (As (lL e ac (H5 15 1 e (fun _ Z f_ S=>qH (sB D) (wds x).length (wds x) (wds x).length rfl (Wd.wds x) (by rw[aZ];omega) oM _ _ Z (f_.1) (SlO.of_flat (sz:=1) (f:=ar) (d:=0) (b:=D) (o:=0) (l:=wds x) (fun _=>rfl) S)) ?_))));rintro _ _ _ e ⟨kx,mx,rfl,htx,hkx⟩;rw[aZ] at htx
 refine lL e ac (H5 17 0 e (fun _ Z f_ S=>qH (sB L) (wds y).length (wds y) (wds y).length rfl (Wd.wds y) (by rw[aZ];omega) oM _ _ Z (f_.1) (SlO.of_flat (sz:=1) (f:=ar) (d:=0) (b:=L) (o:=0) (l:=wds y) (fun _=>rfl) S)) ?_);rintro _ _ _ e ⟨ky,my,rfl,hty,hky⟩;rw[aZ] at hty
 refine lV 18 (nV (min kx ky)) ?_ (hr:=aN (n:=if (ky:Int)<(kx:Int) then (ky:Int) else (kx:Int)) kR (by split<;>omega));refine lL e ac (aE (lL e ac (bn 20 (rJ D (wds x) 0 ((wds x).length) ((wds x).length) x hpx oM oM (nR _) (Wd.wds x) (nG _ _ (nR _)) _ _ e.g (e.own 1) (e.jk 1) e.f.1) ?_)));rintro _ _ _ u27 ⟨z24,o24,n24,zl,rfl,ht,c3,bt,bw,⟨k3,hc,k,cz⟩,hb⟩;replace e:=(e.stepM 1 u27 hb).to [⟨L,22,(wds y).flatMap ar⟩,⟨D,22,(z24).flatMap ar⟩,⟨V,24,[uV 0,eS]⟩,⟨b4,24,nc y⟩,⟨b1,24,nc x⟩] [];have df:=k.odd_pos;have h5:=k.le;refine lL e ac (bn 22 (rJ L (wds y) 0 ((wds y).length) ((wds y).length) y hpy oM oM (nR _) (Wd.wds y) (nG _ _ (nR _)) _ _ e.g (e.own 0) (e.jk 0) e.f.1) ?_);rintro _ _ zm u31 ⟨z28,o28,n28,zn,rfl,hq,b2,b5,c8,⟨k4,fm,j,bm⟩,dn⟩;replace e:=(e.stepM 0 u31 dn).to [⟨L,22,(z28).flatMap ar⟩,⟨D,22,(z24).flatMap ar⟩,⟨V,24,[uV 0,eS]⟩,⟨b4,24,nc y⟩,⟨b1,24,nc x⟩] [];have b3:=j.odd_pos;have hn:=j.le;refine lL e aF (ai (kZ ?_));refine bG _ (CG.loop (fun μ_ Γ w_=>∃ (I:Nat)(J:List Nat)(U:Nat)(Q:Nat)(c1:Nat)(O:Nat)(l2:List Nat)(Y:Nat)(W:Nat)(c2:Nat)(B:Nat)(y1:Nat)(h_:Hp),μ_=B+y1/\Γ=[(4,pB V),(7,nV (min kx ky)),(5,qS (some ⟨I,U,none⟩) Q c1),(6,qS (some ⟨O,Y,none⟩) W c2)]/\SS w h w_ h_ [⟨O,22,(l2).flatMap ar⟩,⟨I,22,(J).flatMap ar⟩,⟨V,24,[uV 0,eS]⟩,⟨b4,24,nc y⟩,⟨b1,24,nc x⟩] [] [fun h_=>Tab h_]/\J.length<=1000000000/\Wd J/\U+Q<=J.length/\Q<=c1/\win J U Q=wds B/\0<B/\l2.length<=1000000000/\Wd l2/\Y+W<=l2.length/\W<=c2/\win l2 Y W=wds y1/\0<y1/\B%2=1/\y1%2=1/\JI B y1*2^min kx ky=JI x y) _ ⟨D,z24,o24,n24,zl,L,z28,o28,n28,zn,hc,fm,zm,rfl,rfl,e.to _ _,oM,c3,bt,bw,cz,df,oM,b2,b5,c8,bm,b3,k.2,j.2,(by rw[(htx.uniq k).1,(hty.uniq j).1];exact (vH k j).symm)⟩ ?_);rintro _ _ _ ⟨I,J,U,Q,c1,O,l2,Y,W,c2,B,y1,_,kt,rfl,e,hl1,hW1,C,bb,i,hx1,hl2,hW2,M,bd,u,hy1,hxo,hyo,hG⟩;have ls:=gf B y1;have f1:=congrArg JA i;rw[bA C] at f1
 have hl:=congrArg JA u;rw[bA M] at hl
 refine kZ (aa e aF (HR 25 1 0 e (fun _ Z f_ S sh_=>tH (some ⟨I,U,none⟩) c1 (some ⟨O,Y,none⟩) c2 B y1 Q W (win J U Q) (win l2 Y W) i u (bA C) (bA M) oM oM _ _ Z (SlO.win (f:=ar) (d:=0) (b:=I) (l:=J) (fun _=>rfl) S U Q) (SlO.win (f:=ar) (d:=0) (b:=O) (l:=l2) (fun _=>rfl) sh_ Y W)) ?_));rintro _ _ _ e rfl;refine lL e ac (ai (aa e ac ?_));cases za:((cX B y1:Int) == (0:Int))
 .
  have zd:=ao za;refine lB 27 za (ah (cK (cQ (aa e ac ?_))));cases zb:(decide ((cX B y1:Int)<(0:Int)))
  .
   have ze:=oF zb;refine lB 29 zb (ah (cK (kQ (lL e aF (GD 34 1 0 e (fun _ Z f_ hj_ sh_=>xt I J U Q c1 B oM C bb hW1 i (some ⟨O,Y,none⟩) c2 y1 W (win l2 Y W) u (bA M) bd oM _ _ Z (e.own 1) hj_ (SlO.win (f:=ar) (d:=0) (b:=O) (l:=l2) (fun _=>rfl) sh_ Y W)) ?_)))));rintro _ _ _ u44 ⟨s41,ds,hh,d1,rfl,h7,b6,dc,br,cr,zi⟩;replace e:=(e.stepM 1 u44 zi).to [⟨O,22,(l2).flatMap ar⟩,⟨I,22,(s41).flatMap ar⟩,⟨V,24,[uV 0,eS]⟩,⟨b4,24,nc y⟩,⟨b1,24,nc x⟩] [];refine bn 35 (rJ I s41 ds hh d1 (B-y1) oM oM dc br b6 cr _ _ e.g (e.own 1) (e.jk 1) e.f.1) ?_;rintro _ _ zo u48 ⟨z45,o45,n45,zp,rfl,hw,c6,bp,bk,⟨lx,dp,F,ch⟩,d0⟩;replace e:=(e.stepM 1 u48 d0).to [⟨O,22,(l2).flatMap ar⟩,⟨I,22,(z45).flatMap ar⟩,⟨V,24,[uV 0,eS]⟩,⟨b4,24,nc y⟩,⟨b1,24,nc x⟩] [];have b0:=F.odd_pos;have j1:=F.le;refine lL e ac (lD ?_);intro a_ ka;refine ⟨_,_,?_,⟨I,z45,o45,n45,zp,O,l2,Y,W,c2,dp,y1,zo,rfl,rfl,e.to _ _,oM,c6,bp,bk,ch,b0,oM,hW2,M,bd,u,hy1,F.2,hyo,(by rw[sd oM hyo F];exact hG)⟩,ka.to _ kR⟩
   omega
  have ze:=oT zb;refine lB 29 zb (ak (kQ (lL e m4 (lN (kQ (lL e aF (GD 34 0 1 e (fun _ Z f_ hj_ sh_=>xt O l2 Y W c2 y1 oM M bd hW2 u (some ⟨I,U,none⟩) c1 B Q (win J U Q) i (bA C) bb oM _ _ Z (e.own 0) hj_ (SlO.win (f:=ar) (d:=0) (b:=I) (l:=J) (fun _=>rfl) sh_ U Q)) ?_)))))));rintro _ _ _ u67 ⟨s64,hk,hj,hm,rfl,h2,bl,cm,c5,cy,zj⟩;replace e:=(e.stepM 0 u67 zj).to [⟨O,22,(s64).flatMap ar⟩,⟨I,22,(J).flatMap ar⟩,⟨V,24,[uV 0,eS]⟩,⟨b4,24,nc y⟩,⟨b1,24,nc x⟩] [];refine bn 35 (rJ O s64 hk hj hm (y1-B) oM oM cm c5 bl cy _ _ e.g (e.own 0) (e.jk 0) e.f.1) ?_;rintro _ _ zq u71 ⟨z68,o68,n68,zr,rfl,j8,cx,c4,b9,⟨k5,f3,H,c7⟩,d2⟩;replace e:=(e.stepM 0 u71 d2).to [⟨O,22,(z68).flatMap ar⟩,⟨I,22,(J).flatMap ar⟩,⟨V,24,[uV 0,eS]⟩,⟨b4,24,nc y⟩,⟨b1,24,nc x⟩] [];have cq:=H.odd_pos;have h8:=H.le;refine lL e ac (lD ?_);replace e:=e.perm (List.Perm.swap _ _ _);intro a_ ka;refine ⟨_,_,?_,⟨O,z68,o68,n68,zr,I,J,U,Q,c1,f3,B,zq,rfl,rfl,e.to _ _,oM,cx,c4,b9,c7,cq,oM,hW1,C,bb,i,hx1,H.2,hxo,(by rw[sd oM hxo H,JJ];exact hG)⟩,ka.to _ kR⟩
  omega
 have zd:=eq_of_beq za;refine lB 27 za (ak (CG.exit ?_))
 show CG _ _ _ _ _ _ _ _
 refine aa e ac (H5 37 1 e (fun _ Z f_ S=>Hg (some ⟨I,U,none⟩) c1 (win J U Q) Q B i (bA C) oM _ _ Z (SlO.win (f:=ar) (d:=0) (b:=I) (l:=J) (fun _=>rfl) S U Q)) ?_);rintro _ _ _ e rfl;refine lA 9 24 ([uV 0,eS]) e (fun zg _ zs e=>lP 0 0 (nc B) e (fun _ e=>ai (kZ ?_)));refine bG _ (CG.loop (fun μ_ Γ w_=>∃ (z:Int)(a:Nat)(h_:Hp),μ_=z.toNat/\Γ=[(4,pB V),(9,pB zg),(7,iV z)]/\SS w h w_ h_ [⟨zg,24,nc a⟩,⟨O,22,(l2).flatMap ar⟩,⟨I,22,(J).flatMap ar⟩,⟨V,24,[uV 0,eS]⟩,⟨b4,24,nc y⟩,⟨b1,24,nc x⟩] [] [fun h_=>Tab h_]/\z<=64000000000/\a*2^z.toNat=JI x y) _ ⟨((min kx ky:Nat):Int),B,zs,rfl,rfl,e.to _ _,oM,(by rw[show B=y1 by omega,Nat.gcd_self] at hG;rw[show B=y1 by omega];rw[show (((min kx ky:Nat):Int)).toNat=min kx ky by omega];exact hG)⟩ ?_);rintro _ _ _ ⟨z,a,_,kq,rfl,e,hz,ha⟩;refine cQ (aa e ac ?_);cases zc:(decide ((0:Int)<(z:Int)))
 .
  have zf:=oF zc;refine lB 39 zc (ah (CG.exit ?_))
  show CG _ _ _ _ _ _ _ _
  exact aa e [.o (nv a) 0 0 2] (lP 3 0 (nc a) e (fun _ e=>af e [(3,0,2)] (nv a) (by rw[show z.toNat=0 by omega,JG,I1] at ha;rw[ha])))
 have zf:=oT zc;refine lB 39 zc (ak (cK (cQ (kZ (kQ (lL e [.o (nv a) 0 0 2,.c] (lV 44 (nV (min z.toNat 65536)) ?_ (hr:=aN (n:=if (65536:Int)<z then (65536:Int) else z) kR (by split<;>omega)))))))));refine aq 45 e (ES a (min z.toNat 65536) (by have:=dz (show a<=x by exact ed (Nat.le_mul_of_pos_right a (A0 z.toNat)) (by rw[ha];exact Nat.gcd_le_left y hx));omega) oM _ _ e.g) (fun _ zk e=>lP 0 0 (nc (a*2^min z.toNat 65536)) e (fun _ e=>lN (kQ (lL e ac (lI 41 (z-65536) ?_)))));refine lL e ac (lD ?_);intro a_ ka;refine ⟨_,_,?_,⟨z-65536,a*2^min z.toNat 65536,zk,rfl,rfl,e.to _ _,oM,(by rw[z8,<-A7,show min z.toNat 65536+(z-65536).toNat=z.toNat by omega];exact ha)⟩,ka.to _ kR⟩
 omega
theorem l6 (n:Nat):(n=0/\nb n=0)\/(0<n/\0<nb n):=by
 rcases yz n with h|h
 ·subst h;exact .inl ⟨rfl,rfl⟩
 ·exact .inr ⟨h,(cl h).2.2⟩
theorem iY (x y:Nat):JI y (x%y)=JI x y:=by rw[JJ y,<-Nat.gcd_rec,JJ]
theorem DU (n:Nat)(w:World)(h:Hp)(g:G w h):CR 104 #[nv n] w h (fun v _=>∃ s:Nat,∃ ok:Bool,v=.tuple #[mV s,.bool ok]/\(ok=true->s=n/\n<18446744073709551616)):=by
 rcases co n 18446744073709551616 with hn|hn
 ·refine (kr n hn w h g).mono ?_
  rintro _ w' ⟨_,a,rfl,u,rfl⟩;exact ⟨_,a,rfl,u,n,true,rfl,fun _=>⟨rfl,hn⟩⟩
 ·refine (AM n hn w h g).mono ?_
  rintro _ w' ⟨_,a,rfl,u,rfl⟩;exact ⟨_,a,rfl,u,0,false,rfl,fun e=>by cases e⟩
theorem Ia (a b:Int)(hla:(wds (ab a)).length<=1000000000)(hlb:(wds (ab b)).length<=1000000000)(w:World)(h:Hp)(g:G w h)(tb:Tab h):CV 220 #[iv a,iv b] w h (nv (JI (ab a) (ab b))):=by
 have d:=((sS g).add (K:=fun B=>Tab B) tb);refine go Tryz.func220 [(0,iv a),(1,iv b)] rfl (aG (lA 2 26 (ic a) d (fun Y w2 h3 d=>lA 3 26 (ic b) d (fun b4 w5 h6 d=>lA 4 24 ([uV 0,eS]) d (fun V w8 h9 d=>ai ?_)))));have z:=d;refine xK 6 [⟨4,5,.cells (JY [uV 0,eS]) 24 (0,0)⟩,⟨5,6,.cells (JY [uV 0,eS]) 24 (0,0)⟩] [] mixed d (dZ (kW kR (fun _ _=>by kernel_rfl)) (dZ (kW kR (fun _ _=>by kernel_rfl)) aw)) (eV 0 14 (qP Y 1) (eO 1 15 [(2,1,2)] (nv (ab a)) d (eV 2 16 (qP b4 1) (uA 3 17 [(1,1,2)] (nv (ab b)) z d (Ib z d 24 [uV 0,eS] 24 [uV 0,eS] (fun _ _ I L F J d=>tP 6 0 0 (nc (ab a)) d (fun _ d=>?_) (hz:=sQ F)))))));refine tP 7 1 0 (nc (ab b)) d (fun _ d=>?_) (hz:=sQ J);refine tN (CG.join (fun Γ w_=>∃ (x:Nat)(y:Nat)(B:Hp),Γ=[(4,pB V),(6,pB L),(5,pB I)]/\SS w h w_ B [⟨I,24,nc x⟩,⟨L,24,nc y⟩,⟨V,24,[uV 0,eS]⟩,⟨b4,26,ic b⟩,⟨Y,26,ic a⟩] [] [fun B=>Tab B]/\(wds x).length<=1000000000/\(wds y).length<=1000000000/\JI x y=JI (ab a) (ab b)) ?_ ?_)
 .
  refine aa d [.o (nv (ab a)) 0 0 2,.o (nv (ab b)) 1 0 2] (aq 20 d (q4 (ab a) (ab b) aM aM _ _ d.g) (fun _ zm d=>?_));have hcm:=gf (ab a) (ab b);cases W:(decide ((cX (ab a) (ab b):Int)<(0:Int)))
  .
   have zi:=oF W;refine lB 21 W (ah (CG.skip ?_));intro a_ M;exact ⟨_,⟨(ab a),(ab b),zm,rfl,d.to _ _,aM,aM,(by first|rfl|exact JJ _ _)⟩,M.to _ kR⟩
  have zi:=oT W;refine lB 21 W (ak (kQ (lL d [.o (nv (ab b)) 1 0 2,.o (nv (ab a)) 0 0 2] (lP 0 0 (nc (ab b)) d (fun _ d=>lP 1 0 (nc (ab a)) d (fun _ d=>lD ?_))))));intro a_ M;exact ⟨_,⟨(ab b),(ab a),zm,rfl,d.to _ _,aM,aM,(by first|rfl|exact JJ _ _)⟩,M.to _ kR⟩
 rintro _ _ ⟨x,y,_,rfl,d,hlx,hly,H⟩;refine cQ (aa d [.o (nv y) 1 0 2] (aq 25 d (eJ y (by first|assumption|exact cn (JM (va _ oM)) aM) _ _ d.g) (fun _ _ d=>?_)));have bb:=l6 y;cases Q:(((nb y:Nat):Int) == (0:Int))
 .
  have zj:=ao Q;refine lB 26 Q (ah (cK (aa d [.o (nv x) 0 0 2,.o (nv y) 1 0 2] (aq 31 d (Fy x y oM aM aM _ _ d.g) (fun _ _ d=>?_)))));have hmd:=va x (show 0<y by omega);refine lL d [.c,.v (nv (x/y)),.v (nv (x%y)),.v qT] (lA 7 24 ([uV 0,eS]) d (fun zn _ _ d=>lA 8 24 ([uV 0,eS]) d (fun zo _ _ d=>lP 1 0 (nc (x/y)) d (fun _ d=>lP 0 0 (nc (x%y)) d (fun _ d=>lL d ac (ai ?_))))));have z:=d;refine xK 2 [] [I,L] mixed d aw (eO 0 35 [(3,0,2)] (nv y) d (uA 1 36 [(0,0,2)] (nv (x%y)) z d ?_ (hM:=fun p Z=>by obtain rfl:=o0.1 Z;exact fun O=>by rcases gq.1 O with e|O;exact cB d.st (i:=0) (j:=2) kR kR kR e;rcases gq.1 O with e|O;exact cB d.st (i:=0) (j:=3) kR kR kR e;cases O)));refine cG d (fun _ _ d=>tP 2 2 0 (nc y) d (fun _ d=>?_) (hz:=cO (JO)));refine tP 3 3 0 (nc (x%y)) d (fun _ d=>?_) (hz:=cO (JP _<|JO));refine tN (cQ (aG ?_));have D:JI y (x%y)=JI (ab a) (ab b):=by rw[<-H];exact iY _ _
  refine lL d [.o (nv (x%y)) 3 0 2] (aq 38 d (eJ (x%y) (by first|assumption|exact cn (JM (va _ oM)) aM) _ _ d.g) (fun _ _ d=>?_));have bk:=l6 (x%y);cases X:(((nb (x%y):Nat):Int) == (0:Int))
  .
   have zk:=ao X;refine lB 39 X (ah (cK (cQ (aa d [.o (nv y) 2 0 2] (lC 43 d (DU y _ _ d.g) ?_)))));rintro _ _ _ d ⟨sp,ok,rfl,l⟩;refine lL d [.c,.v (mV sp),.v (.bool ok),.c,.c] (aE (lL d ac (lN ?_)));cases S:(ok)
   .
    try rw[S] at d
    try rw[S]
    exact cV (cK (aa d [.o (nv y) 2 0 2,.o (nv (x%y)) 3 0 2] (aq 62 d (BL y (x%y) oM oM (by first|assumption|exact cn (JM (va _ oM)) aM) (by first|assumption|exact cn (JM (va _ oM)) aM) _ _ d.g d.f.1) (fun _ _ d=>lP 4 0 (nc (JI y (x%y))) d (fun _ d=>af d [(4,0,2)] (nv (JI y (x%y))) (congrArg nv D))))))
   try rw[S] at d
   try rw[S]
   refine ci (aa d [.o (nv (x%y)) 3 0 2] (aq 49 d (kr (x%y) (by have C:=l aM;omega) _ _ d.g) (fun _ zp d=>lL d [.c,.v (mV (x%y)),.v qT,.c,.c] (ai (kZ ?_)))));refine bG _ (CG.loop (fun μ_ Γ w_=>∃ (p:Nat)(q:Nat)(B:Hp),μ_=q/\Γ=[(4,pB V),(6,pB L),(5,pB I),(10,mV p),(12,mV q)]/\SS w h w_ B [⟨zo,24,nc (x%y)⟩,⟨zn,24,nc (x/y)⟩,⟨I,24,nc y⟩,⟨L,24,nc (x%y)⟩,⟨V,24,[uV 0,eS]⟩,⟨b4,26,ic b⟩,⟨Y,26,ic a⟩] [] [fun B=>Tab B]/\p<18446744073709551616/\q<18446744073709551616/\JI p q=JI (ab a) (ab b)) _ ⟨sp,(x%y),zp,rfl,rfl,d.to _ _,(by have C:=l aM;omega),(by have C:=l aM;omega),(by rw[(l aM).1];exact D)⟩ ?_);rintro _ _ _ ⟨p,q,_,bd,rfl,d,Z,hq,hG⟩;refine cQ (aa d ac ?_);cases U:(decide ((0:Int)<(q:Int)))
   .
    have zl:=oF U;refine lB 53 U (ah (CG.exit ?_))
    show CG _ _ _ _ _ _ _ _
    exact aa d ac (aq 59 d (EP p Z _ _ d.g) (fun _ _ d=>lP 4 0 (nc p) d (fun _ d=>af d [(4,0,2)] (nv p) (congrArg nv (by rw[<-hG,show q=0 by omega,JZ])))))
   have zl:=oT U;refine lB 53 U (ak (cK (kZ (cR 4 [] mixed d aw ?_))));refine eV 0 54 (mV q) (eV 1 55 (mV p) (eV 2 56 (mV q) (eV 3 57 (mV (p%q)) ?_ (hv:=fun _=>aN (d4 (t:=22) (u:=22) (x:=.tmp 55) (y:=.tmp 56) (k:=.u64) (a:=(p:Int)) (b:=(q:Int)) kR kR kR oM _) (cM p q)))));refine cG d (fun _ zq d=>tV 4 10 (mV q) (tV 5 12 (mV (p%q)) (tD ?_)));intro a_ M;refine ⟨_,_,?_,⟨q,p%q,zq,rfl,rfl,d.to _ _,hq,(by have:=va p (show 0<q by omega);omega),(by rw[iY];exact hG)⟩,M.to _ kR⟩;have bl:=va p (show 0<q by omega)
   omega
  have zk:=eq_of_beq X;exact lB 39 X (ak (aa d [.o (nv y) 2 0 2] (lP 4 0 (nc y) d (fun _ d=>af d [(4,0,2)] (nv y) (congrArg nv (by rw[<-D,show (x%y)=0 by omega,JZ]))))))
 have zj:=eq_of_beq Q;exact lB 26 Q (ak (aa d [.o (nv x) 0 0 2] (lP 2 0 (nc x) d (fun _ d=>af d [(2,0,2)] (nv x) (congrArg nv (by rw[<-H,show y=0 by omega,JZ]))))))
end Go.Proofs.YtbbhdbhkaacnnaaGreatDoor
