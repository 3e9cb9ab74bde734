/- Laws of this claim, part 3. -/
import Derived.Test.YtffiihfdjnmhpaaGreatDoorQn0
import Derived.Test.YtffiihfdjnmhpaaGreatDoorQn1
set_option maxRecDepth 100000
set_option maxHeartbeats 4000000
namespace Go.Proofs.YtffiihfdjnmhpaaGreatDoor
open Int renaming eq_ofNat_of_zero_le -> JS, mul_neg -> JT, neg_mul -> JU, neg_neg -> JV
open List renaming drop_eq_nil_of_le -> JA, drop_zero -> rk, flatMap_cons -> rh, length -> JC, length_drop -> Jb, length_set -> Jt, length_take -> z1, mem_cons -> gq, mem_cons_of_mem -> JR, mem_cons_self -> JQ, mem_singleton -> n1, replicate -> ta, set_set -> JM, take_length -> r9, take_of_length_le -> I7, take_set -> JZ, toArray -> J0
open Nat renaming add_mul -> I6, add_mul_mod_self_left -> Jw, add_sub_cancel -> Jl, add_zero -> ri, div_add_mod -> I9, div_eq_of_lt -> y9, div_le_self -> y7, div_mul_le_self -> Ji, eq_of_mul_eq_mul_left -> JW, eq_zero_or_pos -> va, gcd -> JK, gcd_comm -> JL, gcd_mul_left -> JY, gcd_zero_right -> J1, le_of_eq -> JP, le_of_lt -> JO, le_total -> JX, le_trans -> ed, lt_of_lt_of_le -> ep, lt_or_ge -> co, lt_trichotomy -> JN, min_eq_left -> z2, min_eq_right -> Ja, mod_eq_of_lt -> tv, mod_lt -> ua, mul_add -> zT, mul_assoc -> zY, mul_comm -> zz, mul_le_mul_left -> Ao, mul_le_mul_right -> s5, mul_lt_mul_of_pos_left -> F2, mul_lt_mul_of_pos_right -> Jo, mul_one -> HA, mul_zero -> z6, one_mul -> I8, pow_add -> Am, pow_le_pow_right -> Aa, pow_mul -> A4, pow_pos -> A8, pow_succ -> zy, pow_zero -> JI, succ_pos -> JJ, two_pow_pos -> z8, zero_add -> s4, zero_le -> JH, zero_mod -> Ju, zero_mul -> sA
open Go.RowKit
open Go.RowKit Go.Shelf
theorem Er (n:Nat)(b:n<18446744073709551616)(w:World)(h:Hp)(g:G w h):CV 101 #[mV n] w h (nv n):=by
 have a:=sS g;exact go Tryz.func101 [(0,mV n)] rfl (aG (lA 2 26 ([uV 0,eS]) a (fun e w2 d a=>aE (lL a [.c,.v (.agg #[mV n,eS])] (lP 0 0 ([mV n,eS]) a (fun f a=>af a [(0,0,2)] (.agg #[mV n,eS]) (jS b)))))))
theorem kr (n:Nat)(d:n<18446744073709551616)(w:World)(h:Hp)(g:G w h):CV 105 #[nv n] w h (.tuple #[mV n,.bool true]):=by
 have a:=sS g;refine go Tryz.func105 [(0,nv n)] rfl (aG (lA 1 26 (nc n) a (fun b w2 e a=>lL a aF (ai (aa a [.v (qP b 1),.o (.string (hi n)) 0 1 1] (lV 6 qF ?_ (hr:=rb kR (vK (eu d)))))))));exact ah (cK (aa a [.v (pB b),.o (mV (n%18446744073709551616)) 0 0 1,.c,.c] (af a [] (.tuple #[mV (n%18446744073709551616),qT]) (by rw[tv d]))))
theorem Cl (n:Nat)(c:18446744073709551616<=n)(w:World)(h:Hp)(g:G w h):CV 105 #[nv n] w h (.tuple #[uV 0,.bool false]):=by
 have a:=sS g;refine go Tryz.func105 [(0,nv n)] rfl (aG (lA 1 26 (nc n) a (fun b w2 d a=>lL a aF (ai (aa a [.v (qP b 1),.o (.string (hi n)) 0 1 1] (lV 6 qT ?_ (hr:=rb kR (Ac (fv c)))))))));exact aj (aa a aF (af a [] (.tuple #[uV 0,qF]) rfl))
theorem C5 (a b:Nat)(w:World)(h:Hp)(g:G w h):CV 213 #[mV a,mV b] w h (iV (cY a b)):=by
 have c:=sS g;refine go Tryz.func213 [(0,mV a),(1,mV b)] rfl (aa c ac (ai (kZ (aa c aF ?_))));cases e:(decide ((a:Int)<(b:Int)))
 .
  have f:=oF e;refine lB 8 e (lL c ac (ah (aa c aF ?_)));cases d:(decide ((b:Int)<(a:Int)))
  .
   have i:=oF d;exact lB 12 d (lL c ac (ah (cK (aa c ac (af c [] (iV 0) (by rw[ip oM]))))))
  have i:=oT d;exact lB 12 d (lL c ac (aj (aa c ac (af c [] (iV 1) (by rw[eU oM])))))
 have f:=oT e;exact lB 8 e (lL c ac (aj (aa c ac (af c [] (iV (-1)) (by rw[dK oM])))))
theorem DS (n:Nat)(c:n<18446744073709551616)(w:World)(h:Hp)(g:G w h):CV 106 #[nv n] w h (nV (nb n)):=by
 have a:=sS g;refine go Tryz.func106 [(0,nv n)] rfl (aG (lA 1 26 (nc n) a (fun b w2 d a=>lL a ac (ai (aa a [.v (qP b 1),.o (.string (hi n)) 0 1 1] (lV 5 qT ?_ (hr:=rb kR (iG (eu c)))))))));exact aj (aa a [.v (pB b),.o (mV (n%18446744073709551616)) 0 0 1] (aq 8 a (vL (n%18446744073709551616) wM _ _ a.g) (fun e f a=>lL a ac (af a [] (nV (nb (n%18446744073709551616))) (by rw[tv c])))))
theorem Ez (n:Nat)(e:18446744073709551616<=n)(p:(wds n).length<=1000000000)(w:World)(h:Hp)(g:G w h):CV 106 #[nv n] w h (nV (nb n)):=by
 have a:=sS g;have hz:=ir n;have z:=cA e;refine go Tryz.func106 [(0,nv n)] rfl (aG (lA 1 26 (nc n) a (fun b w2 C a=>lL a ac (ai (aa a [.v (qP b 1),.o (.string (hi n)) 0 1 1] (lV 5 qF ?_ (hr:=rb kR (g7 (fv e)))))))));refine ah (cK (cQ (cR 14 [] mixed a aw ?_)));refine eV 0 9 (qP b 1) (eO 1 10 [(0,1,1)] (.string (hi n)) a (eV 2 11 (nV ((hi n).size)) (iO 3 12 (8*((hi n).size:Nat)) (8*(hi n).size) (eV 4 13 (qP b 1) (eO 5 14 [(0,1,1)] (.string (hi n)) a (eV 6 15 (qP b 1) (eO 7 16 [(0,1,1)] (.string (hi n)) a (eV 8 17 (nV ((hi n).size)) (iO 9 18 (((hi n).size:Nat)-8) (8*((wds n).length-2)) (eV 10 19 (.string ((hi n).extract (8*((wds n).length-2):Nat) (hi n).size)) ?_ (hv:=fun _=>fF (tx:=9) (x:=.tmp 14) (i:=.tmp 18) (k:=.i64) (s:=hi n) (n:=(8*((wds n).length-2):Nat)) (j:=((8*((wds n).length-2):Nat):Int)) kR kR kR kR oM oM _)))))))))));refine aK 11 20 a (fun _ _ a=>pq ((hi n).extract (8*((wds n).length-2):Nat) (hi n).size) (by rw[gE];omega) _ _ a.g) (fun D B a=>aK 12 21 a (fun _ _ a=>vL (wv ((hi n).extract (8*((wds n).length-2):Nat) (hi n).size):Nat) wM _ _ a.g) (fun y l a=>?_));have d:=iM n ((wds n).length-2) oM;rw[show (wds n).length-2+1=(wds n).length-1 by omega] at d
 have c:=xp (n:=n) oM;have f:nb (wv ((hi n).extract (8*((wds n).length-2)) (hi n).size))<=64:=jg (k:=64) (Dc _);rw[<-d] at c
 exact iO 13 22 ((8*(hi n).size:Nat)+(nb (wv ((hi n).extract (8*((wds n).length-2):Nat) (hi n).size):Nat):Nat)) (nb n) (cG a (fun u F a=>tV 14 2 (nV (nb n)) (tN (kX (a.ret [] (nV (nb n)) rfl)))))
theorem eE (n:Nat)(a:(wds n).length<=1000000000)(w:World)(h:Hp)(g:G w h):CV 106 #[nv n] w h (nV (nb n)):=by
 rcases co n 18446744073709551616 with hs|hs
 ·exact DS n hs w h g
 ·exact Ez n hs a w h g
theorem qp (a b:Nat)(U:(wds a).length<=1000000000)(L:(wds b).length<=1000000000)(w:World)(h:Hp)(g:G w h):CV 185 #[nv a,nv b] w h (iV (cY a b)):=by
 have c:=sS g;have W:=ir a;have Q:=ir b;refine go Tryz.func185 [(0,nv a),(1,nv b)] rfl (aG (lA 2 26 (nc a) c (fun f w2 h3 c=>lA 3 26 (nc b) c (fun l w5 O c=>lL c ac (ai (aa c [.v (qP f 1),.o (.string (hi a)) 1 1 1,.v (nV ((hi a).size)),.v (qP l 1),.o (.string (hi b)) 0 1 1,.v (nV ((hi b).size))] ?_))))));cases e:((((hi a).size:Nat):Int) != (((hi b).size:Nat):Int))
 .
  have u:=ay e;refine lB 14 e (ah (cK (cQ (aa c [.v (qP f 1),.o (.string (hi a)) 1 1 1,.v (nV ((hi a).size))] (lV 25 (iV (8*(((wds a).length-1:Nat):Int)-8)) ?_ (hr:=rS ((((hi a).size:Nat)-8)) kR ((dS oM oM).trans oM)))))));refine lL c ac (bE ?_);refine bG _ (CG.loop (fun F Γ Y=>∃ (m:Nat)(h_:Hp),F=m/\Γ=[(2,pB f),(3,pB l),(5,iV (8*(m:Int)-8))]/\SS w h Y h_ [⟨l,26,nc b⟩,⟨f,26,nc a⟩] [] []/\m<=(wds a).length-1/\(wds a).length-1=(wds b).length-1/\(wds a).drop (m+1)=(wds b).drop (m+1)) _ ⟨(wds a).length-1,O,rfl,rfl,c.to _ _,nR _,oM,(by rw[JA oM,JA oM])⟩ ?_);rintro _ _ w8 ⟨m,h9,J,rfl,c,Z,p,d⟩;refine cQ (aa c ac ?_);cases B:(decide ((0:Int)<=(8*(m:Int)-8:Int)))
  .
   have X:=oF B;refine lB 27 B (ah (CG.exit ?_))
   show CG _ _ _ _ _ _ _ _
   exact aa c [.v (pB f),.o (mV (a%18446744073709551616)) 1 0 1,.v (pB l),.o (mV (b%18446744073709551616)) 0 0 1] (aq 50 c (C5 (a%18446744073709551616) (b%18446744073709551616) _ _ c.g) (fun _ _ c=>lL c ac (af c [] (iV (cY (a%18446744073709551616) (b%18446744073709551616))) (by rw[oN (a:=a) (b:=b) oM (by have H:m=0:=oM;rw[H] at d;exact d)]))))
  have X:=oT B;refine lB 27 B (aj (cK (cQ (kZ (cQ ?_)))));have I:=c;refine uH 10 [] [] mixed c aw (eV 0 30 (qP f 1) (eO 1 31 [(1,1,1)] (.string (hi a)) c (eV 2 32 (iV (8*(m:Int)-8)) (eV 3 33 (.string ((hi a).extract (8*(m-1)) (hi a).size)) ?_ (hv:=fun _=>fF (tx:=9) (x:=.tmp 31) (i:=.tmp 32) (k:=.i64) (s:=hi a) (n:=8*(m-1)) (j:=(8*(m:Int)-8:Int)) kR kR kR kR oM oM _)))));refine eV 5 35 (qP l 1) (uE 6 36 [(0,1,1)] (.string (hi b)) I c (eV 7 37 (iV (8*(m:Int)-8)) (eV 8 38 (.string ((hi b).extract (8*(m-1)) (hi b).size)) ?_ (hv:=fun _=>fF (tx:=9) (x:=.tmp 36) (i:=.tmp 37) (k:=.i64) (s:=hi b) (n:=8*(m-1)) (j:=(8*(m:Int)-8:Int)) kR kR kR kR oM oM _))));refine aK 4 34 c (fun _ _ c=>pq ((hi a).extract (8*(m-1)) (hi a).size) (by rw[gE];omega) _ _ c.g) (fun _ _ c=>aK 9 39 c (fun _ _ c=>pq ((hi b).extract (8*(m-1)) (hi b).size) (by rw[gE];omega) _ _ c.g) (fun _ _ c=>cG c (fun _ M c=>tV 10 6 (mV (wv ((hi a).extract (8*(m-1)) (hi a).size))) (tV 11 7 (mV (wv ((hi b).extract (8*(m-1)) (hi b).size))) (Av ?_)))));have D:=iM a (m-1) oM;have C:=iM b (m-1) oM;rw[show m-1+1=m by omega] at D C
  refine lL c aF ?_;cases y:(((wv ((hi a).extract (8*(m-1)) (hi a).size):Nat):Int) != ((wv ((hi b).extract (8*(m-1)) (hi b).size):Nat):Int))
  .
   have S:=ay y;refine lB 42 y (ah (cK (kQ (lL c ac (lV 29 (iV (8*((m-1:Nat):Int)-8)) ?_ (hr:=rS (((8*(m:Int)-8)-8)) kR ((dS oM oM).trans oM)))))));refine lL c ac (lD ?_);intro a_ K;refine ⟨_,_,?_,⟨m-1,M,rfl,rfl,c.to _ _,oM,p,(by rw[show m-1+1=m by omega];exact eM oM oM d oM)⟩,K.to _ kR⟩
   omega
  have S:=a6 y;exact lB 42 y (aj (aa c aF (aq 45 c (C5 (wv ((hi a).extract (8*(m-1)) (hi a).size):Nat) (wv ((hi b).extract (8*(m-1)) (hi b).size):Nat) _ _ c.g) (fun _ _ c=>lL c ac (af c [] (iV (cY (wv ((hi a).extract (8*(m-1)) (hi a).size):Nat) (wv ((hi b).extract (8*(m-1)) (hi b).size):Nat))) (by rw[iM a (m-1) oM,iM b (m-1) oM,show m-1+1=m by omega];exact congrArg (Value.int .i64) (kH oM oM d oM)))))))
 have u:=a6 e;refine lB 14 e (aj (cQ (aa c [.v (qP f 1),.o (.string (hi a)) 1 1 1,.v (nV ((hi a).size)),.v (qP l 1),.o (.string (hi b)) 0 1 1,.v (nV ((hi b).size))] ?_)));cases z:(decide ((((hi a).size:Nat):Int)<(((hi b).size:Nat):Int)))
 .
  have V:=oF z;exact lB 21 z (ah (cK (aa c ac (af c [] (iV 1) (by rw[eU (fs oM)])))))
 have V:=oT z;exact lB 21 z (aj (aa c ac (af c [] (iV (-1)) (by rw[dK (fs oM)]))))
theorem qg (hi lo y:Nat)(hlt:hi<y)(hy:y<18446744073709551616)(hlo:lo<18446744073709551616)(w:World)(h:Hp)(g:G w h):CR 140 #[mV hi,mV lo,mV y] w h (fun v _=>∃ q r:Nat,v=.tuple #[uV q,uV r]/\hi*18446744073709551616+lo=y*q+r/\r<y/\q<18446744073709551616):=by
 have c:=sS g;refine go Tryz.func140 [(0,mV hi),(1,mV lo),(2,mV y)] rfl (aa c aF (ai (aa c ac ?_)));have X:((y:Int) == (0:Int))=false:=gI oM;have bp:=ao X;refine lB 20 X (ah (cK (cQ (aa c aF ?_))));have ⟨hb2,bm⟩:=dF (p:=(y:Int)<=(hi:Int)) oM;refine lB 24 hb2 (ah (cK (cQ (aa c ac ?_))));cases D:((hi:Int) == (0:Int))
 .
  have S:=ao D;refine lB 27 D (ah (cK (aa c ac (aq 35 c (C1 y wM _ _ c.g) (fun w4 h5 c=>?_)))));obtain ⟨s,hsd⟩:∃ e,e=64-nb y:=⟨_,rfl⟩;refine lV 36 (mV s) ?_ (hr:=aN (aN (n:=IntKind.wrap .u64 ((64-nb y:Nat):Int)) kR (az oM oM)) (by rw[hsd]));refine lL c ac (aE (lL c aF ?_));obtain ⟨Y,hY⟩:∃ e,e=y*2^s:=⟨_,rfl⟩;have hn:=sK (y:=y) oM oM;rw[<-hsd,<-hY] at hn
  refine lV 39 (mV Y) ?_ (hr:=aN (f8 (t:=24) (u:=162) (x:=.tmp 37) (y:=.tmp 38) (ky:=.u64) (a:=y) (n:=s) kR kR kR _) (by rw[<-hY,tv hn.2]));refine lL c ac (aE (lL c ac ?_));obtain ⟨y1,hy1⟩:∃ e,e=Y/4294967296:=⟨_,rfl⟩;refine lV 41 (mV y1) ?_ (hr:=aN (aN (n:=Int.fdiv (Y:Int) 4294967296) kR (dH _ 4294967296)) (by rw[hy1]));refine lL c ac (aE (lL c ac ?_));obtain ⟨y0,hy0⟩:∃ e,e=Y%4294967296:=⟨_,rfl⟩;refine lV 43 (mV y0) ?_ (hr:=aN (qK (t:=24) (u:=24) (x:=.tmp 42) (y:=.const (uV 4294967295)) (a:=Y) (m:=4294967295) 32 kR kR kR oM kD _) (by rw[hy0]));refine lL c ac (aE (lL c aF ?_));have hhi:hi*2^s<Y:=by rw[hY];exact Jo hlt (z8 s)
  obtain ⟨K,hsl⟩:=BO (hi:=hi) (lo:=lo) (s:=s) oM hlo;have hdl:=y7 lo (2^(64-s));have d:Y=y1*4294967296+y0:=by omega
  refine lV 46 (mV (hi*2^s)) ?_ (hr:=aN (f8 (t:=24) (u:=162) (x:=.tmp 44) (y:=.tmp 45) (ky:=.u64) (a:=hi) (n:=s) kR kR kR _) (by rw[tv oM]));refine lL c aF (lV 49 (mV (64-s)) ?_ (hr:=rU (((64:Int)-(s:Int))) kR (fc 64 s oM oM)));refine lV 50 (mV (lo/2^(64-s))) ?_ (hr:=fK (t:=24) (u:=162) (x:=.tmp 47) (y:=.tmp 49) (ky:=.u64) (a:=lo) (n:=(64-s)) kR kR kR oM _);obtain ⟨u32,hu32⟩:∃ e,e=hi*2^s+lo/2^(64-s):=⟨_,rfl⟩;rw[<-hu32] at K
  have B:u32<Y:=by
    have e2:(hi+1)*2^s<=y*2^s:=s5 _ hlt;rw[I6,I8,<-hY] at e2
    omega
  refine lV 51 (mV u32) ?_ (hr:=aN (gl (t:=24) (u:=24) (x:=.tmp 46) (y:=.tmp 50) (a:=(hi*2^s)) (b:=(lo/2^(64-s))) kR kR kR oM oM _) (by rw[hu32,Nat.or_comm,fP s hsl,Nat.add_comm]));refine lL c ac (aE (lL c aF ?_));obtain ⟨u10,hu10⟩:∃ e,e=lo*2^s%18446744073709551616:=⟨_,rfl⟩;rw[<-hu10] at K
  have bb:u10<18446744073709551616:=by omega
  refine lV 54 (mV u10) ?_ (hr:=aN (f8 (t:=24) (u:=162) (x:=.tmp 52) (y:=.tmp 53) (ky:=.u64) (a:=lo) (n:=s) kR kR kR _) (by rw[hu10]));refine lL c ac (aE (lL c ac ?_));obtain ⟨u1,hu1⟩:∃ e,e=u10/4294967296:=⟨_,rfl⟩;refine lV 56 (mV u1) ?_ (hr:=aN (aN (n:=Int.fdiv (u10:Int) 4294967296) kR (dH _ 4294967296)) (by rw[hu1]));refine lL c ac (lN (bG [(2,mV Y),(6,uV 0),(7,uV 0),(8,mV s),(9,mV y1),(10,mV y0),(11,mV u32),(12,mV u10),(13,mV u1)] ?_));refine aa c ac ?_;obtain ⟨u0,hu0⟩:∃ e,e=u10%4294967296:=⟨_,rfl⟩;refine lV 58 (mV u0) ?_ (hr:=aN (qK (t:=24) (u:=24) (x:=.tmp 57) (y:=.const (uV 4294967295)) (a:=u10) (m:=4294967295) 32 kR kR kR oM kD _) (by rw[hu0]));refine lL c ac (aE (lL c aF ?_));have I:=ll (Y:=Y) (y1:=y1) (y0:=y0) (u:=u32) (u1:=u1) d oM oM oM B;have hR0:=mT (u:=u32) (y1:=y1) oM;have hM0:=Ji u32 y1;obtain ⟨qa,hqa⟩:∃ e,e=u32/y1:=⟨_,rfl⟩;rw[<-hqa] at I hR0 hM0
  refine lV 61 (mV qa) ?_ (hr:=aN (aN (cZ (t:=24) (u:=24) (x:=.tmp 59) (y:=.tmp 60) (k:=.u64) (a:=(u32:Int)) (b:=(y1:Int)) kR kR kR oM _) (jT u32 y1 oM)) (by rw[hqa]));refine lL c ac (aE (lL c dL (lV 65 (mV (qa*y1)) ?_ (hr:=rU (((qa:Int)*(y1:Int))) kR (fu qa y1 oM)))));obtain ⟨ra,hra⟩:∃ e,e=u32-qa*y1:=⟨_,rfl⟩;rw[<-hra] at I hR0
  refine lV 66 (mV ra) ?_ (hr:=aN (aN (n:=IntKind.wrap .u64 ((u32:Int)-((qa*y1:Nat):Int))) kR (fc u32 (qa*y1) oM oM)) (by rw[hra]));refine lL c ac (lN (CG.join (fun Γ L=>∃ (l:Nat)(h_:Hp),Γ=[(2,mV Y),(6,uV 0),(7,uV 0),(8,mV s),(9,mV y1),(10,mV y0),(11,mV u32),(13,mV u1),(14,mV u0),(15,mV l)]/\SS w h L h_ [] [] []/\l=(u32*4294967296+u1)/Y/\(u32*4294967296+u1)-l*Y=(u32*4294967296+u1)%Y/\l*Y<=u32*4294967296+u1) ?_ ?_))
  .
   refine kZ ?_;refine bG _ (CG.loop (fun J Γ L=>∃ (q:Nat)(r:Nat)(h_:Hp),J=q/\Γ=[(2,mV Y),(6,uV 0),(7,uV 0),(8,mV s),(9,mV y1),(10,mV y0),(11,mV u32),(13,mV u1),(14,mV u0),(15,mV q),(16,mV r)]/\SS w h L h_ [] [] []/\HalfQ Y y1 y0 u32 u1 q r/\r<4294967296) _ ⟨qa,ra,h5,rfl,rfl,c.to _ _,I,oM⟩ ?_);rintro _ _ w6 ⟨q,r,W,hm8,rfl,c,O,hr⟩;have bd:=O.qb;refine cQ (aa c ac ?_);cases C:(decide ((4294967296:Int)<=(q:Int)))
   .
    have Q:=oF C;refine lB 68 C (lL c dL (lV 72 (mV (q*y0)) ?_ (hr:=rU (((q:Int)*(y0:Int))) kR (fu q y0 (CM oM oM)))));refine lL c ac (lV 74 (mV (4294967296*r)) ?_ (hr:=rU (((4294967296:Int)*(r:Int))) kR (fu 4294967296 r oM)));refine lL c ac (lV 76 (mV ((4294967296*r)+u1)) ?_ (hr:=rU ((((4294967296*r:Nat):Int)+(u1:Int))) kR (dr (4294967296*r) u1 oM)));cases za:(decide ((((4294967296*r)+u1:Nat):Int)<((q*y0:Nat):Int)))
    .
     have zj:=oF za;refine lB 77 za (lL c [.v qF] (ah (CG.exit ?_)));intro F f;exact ⟨_,⟨q,W,rfl,c.to _ _,(by first|exact O.fin d oM|exact i.brk d oM oM (by have:=i.qb;omega))⟩,f.to _ kR⟩
    have zj:=oT za;refine lB 77 za (lL c [.v qT] (aj (cK (kZ (aa c ac ?_)))));have hq1:0<q:=by first|omega|exact dt (show 4294967296*r+u1<q*y0 by omega)
    have i:=O.dec d oM B (by first|exact .inl oM|exact .inr oM);refine lV 80 (mV (q-1)) ?_ (hr:=rU (((q:Int)-(1:Int))) kR (fc q 1 oM oM));refine lL c ac (aE (lL c aF (lV 83 (mV (r+y1)) ?_ (hr:=rU (((r:Int)+(y1:Int))) kR (dr r y1 oM)))));refine lL c ac (aE (lL c ac ?_));cases zb:(decide ((4294967296:Int)<=((r+y1:Nat):Int)))
    .
     have zk:=oF zb;refine lB 85 zb (ah (CG.skip ?_));intro F f;refine ⟨_,_,?_,⟨q-1,r+y1,W,rfl,rfl,c.to _ _,i,oM⟩,f.to _ kR⟩
     omega
    have zk:=oT zb;refine lB 85 zb (aj (CG.exit ?_));intro F f;exact ⟨_,⟨(q-1),W,rfl,c.to _ _,(by first|exact O.fin d oM|exact i.brk d oM oM (by have:=i.qb;omega))⟩,f.to _ kR⟩
   have Q:=oT C;refine lB 68 C (lL c ac (lG 70 ?_));refine lG 71 (lG 72 (lG 73 (lG 74 (lG 75 (lG 76 (lG 77 (lL c [.v qT] (aj (cK (kZ (aa c ac ?_)))))))))));have hq1:0<q:=by first|omega|exact dt (show 4294967296*r+u1<q*y0 by omega)
   have i:=O.dec d oM B (by first|exact .inl oM|exact .inr oM);refine lV 80 (mV (q-1)) ?_ (hr:=rU (((q:Int)-(1:Int))) kR (fc q 1 oM oM));refine lL c ac (aE (lL c aF (lV 83 (mV (r+y1)) ?_ (hr:=rU (((r:Int)+(y1:Int))) kR (dr r y1 oM)))));refine lL c ac (aE (lL c ac ?_));cases zc:(decide ((4294967296:Int)<=((r+y1:Nat):Int)))
   .
    have zl:=oF zc;refine lB 85 zc (ah (CG.skip ?_));intro F f;refine ⟨_,_,?_,⟨q-1,r+y1,W,rfl,rfl,c.to _ _,i,oM⟩,f.to _ kR⟩
    omega
   have zl:=oT zc;refine lB 85 zc (aj (CG.exit ?_));intro F f;exact ⟨_,⟨(q-1),W,rfl,c.to _ _,(by first|exact O.fin d oM|exact i.brk d oM oM (by have:=i.qb;omega))⟩,f.to _ kR⟩
  rintro _ _ ⟨l,zq,rfl,c,hF⟩;refine aG ?_;obtain ⟨V,hF2,hF3⟩:=hF;have hF4:=pp (u1:=u1) B oM;rw[<-V] at hF4
  refine lL c ac (lV 87 (mV ((u32*4294967296)%18446744073709551616)) ?_ (hr:=rU (((u32:Int)*(4294967296:Int))) kR (iQ u32 4294967296)));refine lL c ac (lV 89 (mV ((((u32*4294967296)%18446744073709551616)+u1)%18446744073709551616)) ?_ (hr:=rU (((((u32*4294967296)%18446744073709551616:Nat):Int)+(u1:Int))) kR (wt ((u32*4294967296)%18446744073709551616) u1)));refine lL c aF (lV 92 (mV ((l*Y)%18446744073709551616)) ?_ (hr:=rU (((l:Int)*(Y:Int))) kR (iQ l Y)));obtain ⟨r1,hr1⟩:∃ e,e=(u32*4294967296+u1)%Y:=⟨_,rfl⟩;have o:r1<Y:=by rw[hr1];exact ua _ oM
  refine lV 93 (mV r1) ?_ (hr:=aN (aN (n:=IntKind.wrap .u64 ((((((u32*4294967296)%18446744073709551616)+u1)%18446744073709551616:Nat):Int)-(((l*Y)%18446744073709551616:Nat):Int))) kR (j5 ((((u32*4294967296)%18446744073709551616)+u1)%18446744073709551616:Nat) ((l*Y)%18446744073709551616) oM)) (by rw[mH hF3 (hF2.trans hr1.symm) oM]));refine lL c ac (aE (lL c aF ?_));have H:=ll (Y:=Y) (y1:=y1) (y0:=y0) (u:=r1) (u1:=u0) d oM oM oM o;have Z:=mT (u:=r1) (y1:=y1) oM;have hL0:=Ji r1 y1;obtain ⟨qb,hqb⟩:∃ e,e=r1/y1:=⟨_,rfl⟩;rw[<-hqb] at H Z hL0
  refine lV 96 (mV qb) ?_ (hr:=aN (aN (cZ (t:=24) (u:=24) (x:=.tmp 94) (y:=.tmp 95) (k:=.u64) (a:=(r1:Int)) (b:=(y1:Int)) kR kR kR oM _) (jT r1 y1 oM)) (by rw[hqb]));refine lL c ac (aE (lL c dL (lV 100 (mV (qb*y1)) ?_ (hr:=rU (((qb:Int)*(y1:Int))) kR (fu qb y1 oM)))));obtain ⟨rb,hrb⟩:∃ e,e=r1-qb*y1:=⟨_,rfl⟩;rw[<-hrb] at H Z
  refine lV 101 (mV rb) ?_ (hr:=aN (aN (n:=IntKind.wrap .u64 ((r1:Int)-((qb*y1:Nat):Int))) kR (fc r1 (qb*y1) oM oM)) (by rw[hrb]));refine lL c ac (lN (CG.join (fun Γ L=>∃ (z:Nat)(h_:Hp),Γ=[(2,mV Y),(6,uV 0),(7,uV 0),(8,mV s),(14,mV u0),(15,mV l),(17,mV r1),(18,mV z)]/\SS w h L h_ [] [] []/\z=(r1*4294967296+u0)/Y/\(r1*4294967296+u0)-z*Y=(r1*4294967296+u0)%Y/\z*Y<=r1*4294967296+u0) ?_ ?_))
  .
   refine kZ ?_;refine bG _ (CG.loop (fun J Γ L=>∃ (p:Nat)(t:Nat)(h_:Hp),J=p/\Γ=[(2,mV Y),(6,uV 0),(7,uV 0),(8,mV s),(9,mV y1),(10,mV y0),(14,mV u0),(15,mV l),(17,mV r1),(18,mV p),(16,mV t)]/\SS w h L h_ [] [] []/\HalfQ Y y1 y0 r1 u0 p t/\t<4294967296) _ ⟨qb,rb,zq,rfl,rfl,c.to _ _,H,oM⟩ ?_);rintro _ _ _ ⟨p,t,U,bk,rfl,c,M,ht⟩;have bq:=M.qb;refine cQ (aa c ac ?_);cases zd:(decide ((4294967296:Int)<=(p:Int)))
   .
    have zm:=oF zd;refine lB 103 zd (lL c dL (lV 107 (mV (p*y0)) ?_ (hr:=rU (((p:Int)*(y0:Int))) kR (fu p y0 (CM oM oM)))));refine lL c ac (lV 109 (mV (4294967296*t)) ?_ (hr:=rU (((4294967296:Int)*(t:Int))) kR (fu 4294967296 t oM)));refine lL c ac (lV 111 (mV ((4294967296*t)+u0)) ?_ (hr:=rU ((((4294967296*t:Nat):Int)+(u0:Int))) kR (dr (4294967296*t) u0 oM)));cases ze:(decide ((((4294967296*t)+u0:Nat):Int)<((p*y0:Nat):Int)))
    .
     have zn:=oF ze;refine lB 112 ze (lL c [.v qF] (ah (CG.exit ?_)));intro F f;exact ⟨_,⟨p,U,rfl,c.to _ _,(by first|exact M.fin d oM|exact j.brk d oM oM (by have:=j.qb;omega))⟩,f.to _ kR⟩
    have zn:=oT ze;refine lB 112 ze (lL c [.v qT] (aj (cK (kZ (aa c ac ?_)))));have hq2:0<p:=by first|omega|exact dt (show 4294967296*t+u0<p*y0 by omega)
    have j:=M.dec d oM o (by first|exact .inl oM|exact .inr oM);refine lV 115 (mV (p-1)) ?_ (hr:=rU (((p:Int)-(1:Int))) kR (fc p 1 oM oM));refine lL c ac (aE (lL c aF (lV 118 (mV (t+y1)) ?_ (hr:=rU (((t:Int)+(y1:Int))) kR (dr t y1 oM)))));refine lL c ac (aE (lL c ac ?_));cases zf:(decide ((4294967296:Int)<=((t+y1:Nat):Int)))
    .
     have zo:=oF zf;refine lB 120 zf (ah (CG.skip ?_));intro F f;refine ⟨_,_,?_,⟨p-1,t+y1,U,rfl,rfl,c.to _ _,j,oM⟩,f.to _ kR⟩
     omega
    have zo:=oT zf;refine lB 120 zf (aj (CG.exit ?_));intro F f;exact ⟨_,⟨(p-1),U,rfl,c.to _ _,(by first|exact M.fin d oM|exact j.brk d oM oM (by have:=j.qb;omega))⟩,f.to _ kR⟩
   have zm:=oT zd;refine lB 103 zd (lL c ac (lG 105 ?_));refine lG 106 (lG 107 (lG 108 (lG 109 (lG 110 (lG 111 (lG 112 (lL c [.v qT] (aj (cK (kZ (aa c ac ?_)))))))))));have hq2:0<p:=by first|omega|exact dt (show 4294967296*t+u0<p*y0 by omega)
   have j:=M.dec d oM o (by first|exact .inl oM|exact .inr oM);refine lV 115 (mV (p-1)) ?_ (hr:=rU (((p:Int)-(1:Int))) kR (fc p 1 oM oM));refine lL c ac (aE (lL c aF (lV 118 (mV (t+y1)) ?_ (hr:=rU (((t:Int)+(y1:Int))) kR (dr t y1 oM)))));refine lL c ac (aE (lL c ac ?_));cases zg:(decide ((4294967296:Int)<=((t+y1:Nat):Int)))
   .
    have zp:=oF zg;refine lB 120 zg (ah (CG.skip ?_));intro F f;refine ⟨_,_,?_,⟨p-1,t+y1,U,rfl,rfl,c.to _ _,j,oM⟩,f.to _ kR⟩
    omega
   have zp:=oT zg;refine lB 120 zg (aj (CG.exit ?_));intro F f;exact ⟨_,⟨(p-1),U,rfl,c.to _ _,(by first|exact M.fin d oM|exact j.brk d oM oM (by have:=j.qb;omega))⟩,f.to _ kR⟩
  rintro _ _ ⟨z,_,rfl,c,hE⟩;refine aG ?_;obtain ⟨hE1,hE2,hE3⟩:=hE;have hE4:=pp (u1:=u0) o oM;rw[<-hE1] at hE4
  refine lL c ac (lV 122 (mV (l*4294967296)) ?_ (hr:=rU (((l:Int)*(4294967296:Int))) kR (fu l 4294967296 oM)));refine lL c ac (lV 124 (mV ((l*4294967296)+z)) ?_ (hr:=rU ((((l*4294967296:Nat):Int)+(z:Int))) kR (dr (l*4294967296) z oM)));refine lL c ac (lV 126 (mV ((r1*4294967296)%18446744073709551616)) ?_ (hr:=rU (((r1:Int)*(4294967296:Int))) kR (iQ r1 4294967296)));refine lL c ac (lV 128 (mV ((((r1*4294967296)%18446744073709551616)+u0)%18446744073709551616)) ?_ (hr:=rU (((((r1*4294967296)%18446744073709551616:Nat):Int)+(u0:Int))) kR (wt ((r1*4294967296)%18446744073709551616) u0)));refine lL c aF (lV 131 (mV ((z*Y)%18446744073709551616)) ?_ (hr:=rU (((z:Int)*(Y:Int))) kR (iQ z Y)));obtain ⟨R,hR⟩:∃ e,e=(r1*4294967296+u0)%Y:=⟨_,rfl⟩;have hRY:R<Y:=by rw[hR];exact ua _ oM
  refine lV 132 (mV R) ?_ (hr:=aN (aN (n:=IntKind.wrap .u64 ((((((r1*4294967296)%18446744073709551616)+u0)%18446744073709551616:Nat):Int)-(((z*Y)%18446744073709551616:Nat):Int))) kR (j5 ((((r1*4294967296)%18446744073709551616)+u0)%18446744073709551616:Nat) ((z*Y)%18446744073709551616) oM)) (by rw[mH hE3 (hE2.trans hR.symm) oM]));refine lL c ac (lV 134 (mV (R/2^s)) ?_ (hr:=fK (t:=24) (u:=162) (x:=.tmp 132) (y:=.tmp 133) (ky:=.u64) (a:=R) (n:=s) kR kR kR oM _));refine lL c aF (lN (kX ?_));obtain ⟨hB1,hB2⟩:=tQ (A:=hi*18446744073709551616+lo) (y:=y) hY K (show u10=u1*4294967296+u0 by omega) oM V hr1 hE1 hR;exact c.ret [] (.tuple #[mV ((l*4294967296)+z),mV (R/2^s)]) (⟨_,_,rfl,hB1,hB2,by omega⟩)
 have S:=eq_of_beq D;refine lB 27 D (aj (cQ (cR 6 [] mixed c aw ?_)));refine eV 0 28 (mV lo) (eV 1 29 (mV y) (eV 2 30 (mV (lo/y)) ?_ (hv:=fun _=>aN (cZ (t:=24) (u:=24) (x:=.tmp 28) (y:=.tmp 29) (k:=.u64) (a:=(lo:Int)) (b:=(y:Int)) kR kR kR oM _) (jT lo y oM))));refine eV 3 31 (mV lo) (eV 4 32 (mV y) (eV 5 33 (mV (lo%y)) ?_ (hv:=fun _=>aN (dV (t:=24) (u:=24) (x:=.tmp 31) (y:=.tmp 32) (k:=.u64) (a:=(lo:Int)) (b:=(y:Int)) kR kR kR oM _) (cM lo y))));refine cG c (fun _ _ c=>tV 6 6 (mV (lo/y)) (tV 7 7 (mV (lo%y)) (tN (kX ?_))));have hdm:=I9 lo y;have hml:=ua lo (show 0<y by omega);have bl:=y7 lo y;have hh0:hi=0:=by omega
 subst hh0;exact c.ret [] (.tuple #[mV (lo/y),mV (lo%y)]) (⟨lo/y,lo%y,rfl,by rw[sA,s4];exact hdm.symm,hml,by omega⟩)
def Cm (h1:Hp)(v:Value)(m:Nat)(Q:List Nat->Prop):Prop:=∃ A c,∃ z:List Nat,v=.slice A z.length c/\z.length<=c/\z.length=m/\Wd z/\Q z/\SlO 1 ar 0 h1 A z
theorem Wd.set {l:List Nat}(h:Wd l)(k:Nat){x:Nat}(a:x<18446744073709551616):Wd (l.set k x):=Dg.set h k a
theorem Wd.rep (n:Nat):Wd (ta n 0):=Dg.rep kD
theorem pZ {l:List Nat}{k j x:Nat}(a:k<l.length)(h:∀ i,j<=i->l.getD i 0=0)(b:k<j):∀ i,j<=i->(l.set k x).getD i 0=0:=fun i hi=>by rw[bC a,if_neg oM];exact h i hi
theorem CK (A:Z9)(c:Nat)(x:List Nat)(D:Z9)(d:Nat)(y:List Nat)(hx:Wd x)(hy:Wd y)(hlx:x.length<=1000000000)(hly:y.length<=1000000000)(w:World)(h:Hp)(g:G w h)(hA:SlO 1 ar 0 h A x)(hD:SlO 1 ar 0 h D y):CR 225 #[.slice A x.length c,.slice D y.length d] w h (fun v h1=>Cm h1 v (x.length+y.length) (fun z=>aD z=aD x*aD y)):=by
 have e:=(((sS g).aS hA).aS hD);refine go Tryz.func225 [(0,qS A x.length c),(1,qS D y.length d)] rfl (aa e ac (aE (lL e [.c,.v (nV x.length),.c,.v (nV y.length)] (bg 19 ((x.length:Nat)+(y.length:Nat)) (x.length+y.length) ?_))));refine lK 20 24 (x.length+y.length) 1 8 (uV 0) ar 0 e (fun u w2 h3 e=>?_);have hl4:(ta (x.length+y.length) 0).length=(x.length+y.length):=by simp
 refine lL e ac (ai (aa e [.c,.v (nV x.length),.c] (bE ?_)));refine bG _ (CG.loop (fun Q Γ w_=>∃ (i:Nat)(l:List Nat)(F:Hp),Q=x.length-i/\Γ=[(1,qS D y.length d),(4,sZ),(5,qS (sB u) (x.length+y.length) (x.length+y.length)),(21,qS A x.length c),(22,nV x.length),(23,nV i)]/\SS w h w_ F [⟨u,24,(l).flatMap ar⟩] [] [fun F=>SlO 1 ar 0 F D y,fun F=>SlO 1 ar 0 F A x]/\i<=x.length/\l.length=x.length+y.length/\Wd l/\aD l=am 18446744073709551616 (x.take i)*aD y/\(∀ k,i+y.length<=k->l.getD k 0=0)) _ ⟨0,ta (x.length+y.length) 0,h3,rfl,rfl,e.to _ _,JH _,hl4,Wd.rep _,(by show am _ _=_;rw[di];simp[am]),fun k _=>dG⟩ ?_);rintro _ _ w5 ⟨i,l,h6,hm7,rfl,e,hi,L,hW,hv,hz⟩;refine aG ?_;cases J:(decide ((i:Int)<(x.length:Int)))
 .
  have W:=oF J;refine lB 24 J (ai (da (CG.exit ?_)))
  show CG _ _ _ _ _ _ _ _
  refine aa e aF (lN (kX ?_));have hix:i=x.length:=by omega
  rw[hix,r9] at hv
  obtain ⟨h9,e,X,b3,bp⟩:=e.pub 0;replace e:=(e.to [] []).aS (SlO.of_flat (sz:=1) (f:=ar) (d:=0) (b:=u) (o:=0) (l:=l) (fun _=>rfl) X);exact e.ret [] (qS (sB u) (x.length+y.length) (x.length+y.length)) (⟨sB u,_,l,by rw[L],by omega,L,hW,hv,e.f.1⟩)
 have W:=oT J;refine lB 24 J (ai (ci (cK (cQ (kZ (aa e ac (lX 26 A x.length c 1 (i:Nat) i ((e.f.2.1).ok oM) ?_)))))));refine lH 27 (mV (x.getD i 0)) e ((e.f.2.1).el i oM) (lL e aF (aE (lL e ac (ai (aa e [.c,.v (nV y.length),.c] (bE ?_))))));refine bG _ (CG.loop (fun Q Γ w_=>∃ (j:Nat)(l2:List Nat)(H:Nat)(F:Hp),Q=y.length-j/\Γ=[(1,qS D y.length d),(4,sZ),(5,qS (sB u) (x.length+y.length) (x.length+y.length)),(21,qS A x.length c),(22,nV x.length),(23,nV i),(6,nV i),(7,mV (x.getD i 0)),(28,qS D y.length d),(29,nV y.length),(30,nV j),(8,mV H)]/\SS w h w_ F [⟨u,24,(l2).flatMap ar⟩] [] [fun F=>SlO 1 ar 0 F D y,fun F=>SlO 1 ar 0 F A x]/\j<=y.length/\l2.length=x.length+y.length/\Wd l2/\H<18446744073709551616/\am 18446744073709551616 l2+18446744073709551616^(i+j)*H=aD l+18446744073709551616^i*(x.getD i 0*am 18446744073709551616 (y.take j))/\(∀ k,i+y.length<=k->l2.getD k 0=0)) _ ⟨0,l,0,h6,rfl,rfl,e.to _ _,JH _,L,hW,by omega,(by show am _ l+_=am _ l+_;simp[am]),hz⟩ ?_);rintro _ _ _ ⟨j,l2,H,zi,bw,rfl,e,hj,K,O,hc,S,M⟩;have hlk:=O.get (i+j);refine aG ?_;cases zc:(decide ((j:Int)<(y.length:Int)))
 .
  have zd:=oF zc;refine lB 31 zc (ai (da (CG.exit ?_)))
  show CG _ _ _ _ _ _ _ _
  refine kQ (lL e [.c,.c,.c,.v (nV y.length)] (bg 75 ((i:Nat)+(y.length:Nat)) (i+y.length) ?_));refine lL e ac (lX 77 (sB u) (x.length+y.length) (x.length+y.length) 1 (i+y.length:Nat) (i+y.length) rfl ?_);refine lW 0 l2 ar 1 (i+y.length) H e oM (fun _ e=>?_);have zf:((l2).set (i+y.length) H).length=(x.length+y.length):=by rw[Jt];exact K
  replace e:=e.to [⟨u,24,((l2).set (i+y.length) H).flatMap ar⟩] [];refine lN (kQ (bg 78 ((i:Nat)+1) (i+1) ?_));refine lL e ac (lD ?_);intro a_ ka;refine ⟨_,_,?_,⟨i+1,(l2).set (i+y.length) H,zi,rfl,rfl,e.to _ _,oM,zf,(O.set _ hc),(by have hjy:j=y.length:=oM;rw[hjy] at S;exact (sJ oM S (M _ oM)).trans (rY hv)),(pZ oM (fun k hk=>M k oM) oM)⟩,ka.to _ kR⟩
  omega
 have zd:=oT zc;refine lB 31 zc (ai (ci (cK (cQ (kZ (aa e ac (lX 33 D y.length d 1 (j:Nat) j ((e.f.1).ok oM) ?_)))))));refine lH 34 (mV (y.getD j 0)) e ((e.f.1).el j oM) (lL e aF (aE (lL e aF (lC 38 e (li (x.getD i 0) (y.getD j 0) wM wM _ _ e.g) ?_))));rintro _ _ zj e ⟨p,ze,rfl,bb,bl,bt,bd⟩;have Z:=g9 (a:=(x.getD i 0)) (b:=(y.getD j 0)) wM wM;refine lL e [.c,.v (mV p),.v (mV ze),.c,.c] (aE (lL e m4 (bg 46 ((i:Nat)+(j:Nat)) (i+j) ?_)));refine lX 47 (sB u) (x.length+y.length) (x.length+y.length) 1 (i+j:Nat) (i+j) rfl (lQ 48 0 l2 ar 1 0 (i+j) (mV ((l2).getD (i+j) 0)) e oM ?_);obtain ⟨I,C,bk,b0,br,V⟩:=dN ze ((l2).getD (i+j) 0) 0 wM wM oM;refine lV 49 (.tuple #[mV I,mV C]) ?_ (hr:=dZ kR (V _));refine lL e [.c,.v (mV I),.v (mV C),.c,.c] (aE (lL e aF (lV 54 (mV (p+C)) ?_ (hr:=rU (((p:Int)+(C:Int))) kR (dr p C oM)))));refine lL e ac (lN (bG [(1,qS D y.length d),(4,sZ),(5,qS (sB u) (x.length+y.length) (x.length+y.length)),(21,qS A x.length c),(22,nV x.length),(23,nV i),(6,nV i),(7,mV (x.getD i 0)),(28,qS D y.length d),(29,nV y.length),(30,nV j),(8,mV H),(9,nV j),(11,mV (p+C)),(13,mV I),(14,mV C)] ?_));refine aa e aF ?_;obtain ⟨B,U,bq,b2,bm,Y⟩:=dN I H 0 wM wM oM;refine lV 58 (.tuple #[mV B,mV U]) ?_ (hr:=dZ kR (Y _));refine lL e [.c,.v (mV B),.v (mV U),.c,.c] (lN (kQ (lL e dL (bg 64 ((i:Nat)+(j:Nat)) (i+j) ?_))));refine lL e dL (lV 68 (mV ((p+C)+U)) ?_ (hr:=rU ((((p+C:Nat):Int)+(U:Int))) kR (dr (p+C) U oM)));refine lX 69 (sB u) (x.length+y.length) (x.length+y.length) 1 (i+j:Nat) (i+j) rfl (lW 0 l2 ar 1 (i+j) B e oM (fun _ e=>?_));have zg:((l2).set (i+j) B).length=(x.length+y.length):=by rw[Jt];exact K
 replace e:=e.to [⟨u,24,((l2).set (i+j) B).flatMap ar⟩] [];refine lL e ac (lN (kQ (bg 70 ((j:Nat)+1) (j+1) ?_)));refine lL e ac (lD ?_);intro a_ ka;refine ⟨_,_,?_,⟨j+1,(l2).set (i+j) B,((p+C)+U),zj,rfl,rfl,e.to _ _,oM,zg,(O.set _ oM),oM,(lp oM S oM),(pZ oM M oM)⟩,ka.to _ kR⟩
 omega
theorem Bl {x:List Nat}(a:Wd x){n:Nat}(h:x.length<=n/64):aD x<2^n:=by
 have h1:=bV a;have c:(18446744073709551616:Nat)^x.length=2^(64*x.length):=by rw[A4]
 have b:(2:Nat)^(64*x.length)<=2^n:=Aa oM oM
 show am _ x<_
 omega
theorem mS {l:List Nat}{k x:Nat}(a:k<l.length)(h:∀ i,k<=i->l.getD i 0=0):∀ i,k+1<=i->(l.set k x).getD i 0=0:=fun i hi=>by rw[bC a,if_neg oM];exact h i oM
theorem wU (A:Z9)(c:Nat)(x:List Nat)(Y:Wd x)(hlx:x.length<=1000000000)(n:Nat)(hn:n<=1000000000)(w:World)(h:Hp)(g:G w h)(hA:SlO 1 ar 0 h A x):CR 248 #[.slice A x.length c,nV n] w h (fun v h1=>Cm h1 v (x.length+n/64+1) (fun z=>aD z=aD x*2^n)):=by
 have e:=((sS g).aS hA);refine go Tryz.func248 [(0,qS A x.length c),(1,nV n)] rfl (aa e ac (aE (lL e ac (lV 11 (nV (n/64)) ?_ (hr:=aN (cZ (t:=3) (u:=3) (x:=.tmp 10) (y:=.const (iV 64)) (k:=.i64) (a:=(n:Int)) (b:=(64:Int)) kR kR kR oM _) (dh n 64 oM))))));refine lL e ac (lV 13 (nV (n%64)) ?_ (hr:=aN (dV (t:=3) (u:=3) (x:=.tmp 12) (y:=.const (iV 64)) (k:=.i64) (a:=(n:Int)) (b:=(64:Int)) kR kR kR oM _) (cM n 64)));refine lV 14 (mV (n%64)) ?_ (hr:=rU (((n%64:Nat):Int)) kR (az oM oM));refine lL e aF (aE (lL e [.c,.v (nV x.length),.c] (bg 18 ((x.length:Nat)+(n/64:Nat)) (x.length+(n/64)) ?_)));refine bg 19 ((x.length+(n/64):Nat)+1) ((x.length+(n/64))+1) (lK 20 24 ((x.length+(n/64))+1:Nat) 1 8 (uV 0) ar 0 e (fun j w2 h3 e=>?_));have O:(ta ((x.length+(n/64))+1:Nat) 0).length=((x.length+(n/64))+1:Nat):=by simp
 refine lL e ac (ai (aa e [.c,.v (nV x.length),.c] (bE ?_)));refine bG _ (CG.loop (fun J Γ X=>∃ (i:Nat)(l:List Nat)(L:Hp),J=x.length-i/\Γ=[(4,sZ),(5,nV (n/64)),(6,mV (n%64)),(7,qS (sB j) ((x.length+(n/64))+1:Nat) ((x.length+(n/64))+1:Nat)),(21,qS A x.length c),(22,nV x.length),(23,nV i)]/\SS w h X L [⟨j,24,(l).flatMap ar⟩] [] [fun L=>SlO 1 ar 0 L A x]/\i<=x.length/\l.length=x.length+n/64+1/\Wd l/\aD l=2^(n%64)*(18446744073709551616^(n/64)*am 18446744073709551616 (x.take i))/\l.getD (i+n/64) 0<2^(n%64)/\(∀ k,i+n/64+1<=k->l.getD k 0=0)) _ ⟨0,ta ((x.length+(n/64))+1:Nat) 0,h3,rfl,rfl,e.to _ _,JH _,O,Wd.rep _,(by show am _ _=_;rw[di];simp[am]),(by rw[dG];exact z8 _),fun k _=>dG⟩ ?_);rintro _ _ w5 ⟨i,l,h6,hm7,rfl,e,hi,C,S,hv,ho,hz⟩;refine aG ?_;cases B:(decide ((i:Int)<(x.length:Int)))
 .
  have D:=oF B;refine lB 24 B (ai (da (CG.exit ?_)))
  show CG _ _ _ _ _ _ _ _
  refine aa e aF (lN (kX ?_));have U:i=x.length:=by omega
  rw[U,r9] at hv
  obtain ⟨h9,e,F,W,V⟩:=e.pub 0;replace e:=(e.to [] []).aS (SlO.of_flat (sz:=1) (f:=ar) (d:=0) (b:=j) (o:=0) (l:=l) (fun _=>rfl) F);exact e.ret [] (qS (sB j) ((x.length+(n/64))+1:Nat) ((x.length+(n/64))+1:Nat)) (⟨sB j,_,l,by rw[C],by omega,C,S,(by show aD l=_;rw[hv,vF n];show _*(_*aD x)=_;ac_rfl),e.f.1⟩)
 have D:=oT B;refine lB 24 B (ai (ci (cK (cQ (kZ (aa e ac (lX 26 A x.length c 1 (i:Nat) i ((e.f.1).ok oM) ?_)))))));refine lH 27 (mV (x.getD i 0)) e ((e.f.1).el i oM) (lL e aF (aE (lL e dL (bg 31 ((i:Nat)+(n/64:Nat)) (i+(n/64)) ?_))));refine lX 32 (sB j) ((x.length+(n/64))+1:Nat) ((x.length+(n/64))+1:Nat) 1 (i+(n/64):Nat) (i+(n/64)) rfl (lQ 33 0 l ar 1 0 (i+(n/64)) (mV ((l).getD (i+(n/64)) 0)) e oM (lL e aF (lV 36 (mV ((x.getD i 0)*2^(n%64)%18446744073709551616)) ?_ (hr:=f8 (t:=24) (u:=162) (x:=.tmp 34) (y:=.tmp 35) (ky:=.u64) (a:=(x.getD i 0)) (n:=(n%64)) kR kR kR _))));have Q:=Y.get i;obtain ⟨I,K,H,M⟩:=vv (x:=x.getD i 0) (p:=n%64) (o:=l.getD (i+n/64) 0) oM Q ho;have hlg:=S.get (i+n/64);refine lV 37 (mV (l.getD (i+n/64) 0+x.getD i 0*2^(n%64)%18446744073709551616)) ?_ (hr:=aN (gl (t:=24) (u:=24) (x:=.tmp 33) (y:=.tmp 36) (a:=((l).getD (i+(n/64)) 0:Nat)) (b:=((x.getD i 0)*2^(n%64)%18446744073709551616)) kR kR kR oM oM _) (by rw[I]));refine lX 38 (sB j) ((x.length+(n/64))+1:Nat) ((x.length+(n/64))+1:Nat) 1 (i+(n/64):Nat) (i+(n/64)) rfl (lW 0 l ar 1 (i+(n/64)) (l.getD (i+n/64) 0+x.getD i 0*2^(n%64)%18446744073709551616) e oM (fun _ e=>?_));have za:((l).set (i+(n/64)) (l.getD (i+n/64) 0+x.getD i 0*2^(n%64)%18446744073709551616)).length=((x.length+(n/64))+1:Nat):=by rw[Jt];exact C
 replace e:=e.to [⟨j,24,((l).set (i+(n/64)) (l.getD (i+n/64) 0+x.getD i 0*2^(n%64)%18446744073709551616)).flatMap ar⟩] [];refine lN (kQ (lL e dL (bg 42 ((i:Nat)+(n/64:Nat)) (i+(n/64)) ?_)));refine bg 43 ((i+(n/64):Nat)+1) ((i+(n/64))+1) (lL e aF (lV 46 (mV (64-(n%64))) ?_ (hr:=rU (((64:Int)-((n%64:Nat):Int))) kR (fc 64 (n%64) oM oM))));refine lV 47 (mV ((x.getD i 0)/2^(64-(n%64)))) ?_ (hr:=fK (t:=24) (u:=162) (x:=.tmp 44) (y:=.tmp 46) (ky:=.u64) (a:=(x.getD i 0)) (n:=(64-(n%64))) kR kR kR oM _);refine lX 48 (sB j) ((x.length+(n/64))+1:Nat) ((x.length+(n/64))+1:Nat) 1 ((i+(n/64))+1:Nat) ((i+(n/64))+1:Nat) rfl (lW 0 ((l).set (i+(n/64)) (l.getD (i+n/64) 0+x.getD i 0*2^(n%64)%18446744073709551616)) ar 1 ((i+(n/64))+1:Nat) ((x.getD i 0)/2^(64-(n%64)):Nat) e oM (fun _ e=>?_));have zb:(((l).set (i+(n/64)) (l.getD (i+n/64) 0+x.getD i 0*2^(n%64)%18446744073709551616)).set ((i+(n/64))+1:Nat) ((x.getD i 0)/2^(64-(n%64)):Nat)).length=((x.length+(n/64))+1:Nat):=by rw[Jt];exact za
 replace e:=e.to [⟨j,24,(((l).set (i+(n/64)) (l.getD (i+n/64) 0+x.getD i 0*2^(n%64)%18446744073709551616)).set ((i+(n/64))+1:Nat) ((x.getD i 0)/2^(64-(n%64)):Nat)).flatMap ar⟩] [];refine lN (kQ (bg 49 ((i:Nat)+1) (i+1) ?_));refine lL e ac (lD ?_);intro a_ Z;refine ⟨_,_,?_,⟨i+1,((l).set (i+(n/64)) (l.getD (i+n/64) 0+x.getD i 0*2^(n%64)%18446744073709551616)).set ((i+(n/64))+1:Nat) ((x.getD i 0)/2^(64-(n%64)):Nat),h6,rfl,rfl,e.to _ _,oM,zb,((S.set _ K).set _ (by have:=y7 (x.getD i 0) (2^(64-n%64));omega)),(Ag oM hv (hz _ oM) H rfl rfl),(by rw[show i+1+n/64=i+n/64+1 by omega,bC (by rw[Jt];omega),if_pos rfl];exact M),(fun k hk=>by rw[bC (by rw[Jt];omega),if_neg oM,bC oM,if_neg oM];exact hz k oM)⟩,Z.to _ kR⟩
 omega
theorem GE (A:Z9)(c:Nat)(x:List Nat)(S:Wd x)(hlx:x.length<=1000000000)(n:Nat)(hn:n<=1000000000)(w:World)(h:Hp)(g:G w h)(hA:SlO 1 ar 0 h A x):CR 250 #[.slice A x.length c,nV n] w h (fun v h1=>Cm h1 v (x.length-n/64) (fun z=>aD z=aD x/2^n)):=by
 have e:=((sS g).aS hA);refine go Tryz.func250 [(0,qS A x.length c),(1,nV n)] rfl (aa e ac (aE (lL e ac (lV 10 (nV (n/64)) ?_ (hr:=aN (cZ (t:=3) (u:=3) (x:=.tmp 9) (y:=.const (iV 64)) (k:=.i64) (a:=(n:Int)) (b:=(64:Int)) kR kR kR oM _) (dh n 64 oM))))));refine lL e ac (lV 12 (nV (n%64)) ?_ (hr:=aN (dV (t:=3) (u:=3) (x:=.tmp 11) (y:=.const (iV 64)) (k:=.i64) (a:=(n:Int)) (b:=(64:Int)) kR kR kR oM _) (cM n 64)));refine lV 13 (mV (n%64)) ?_ (hr:=rU (((n%64:Nat):Int)) kR (az oM oM));refine lL e aF (ai (aa e [.c,.c,.v (nV x.length)] ?_));cases D:(decide ((x.length:Int)<=((n/64:Nat):Int)))
 .
  have J:=oF D;refine lB 17 D (ah (cK (aa e [.c,.v (nV x.length),.c] (bg 21 ((x.length:Nat)-(n/64:Nat)) (x.length-(n/64)) ?_))));refine lK 22 24 (x.length-(n/64)) 1 8 (uV 0) ar 0 e (fun B w3 h4 e=>?_);have V:(ta (x.length-(n/64)) 0).length=(x.length-(n/64)):=by simp
  refine lL e ac (ai (aa e [.c,.v (nV (x.length-(n/64))),.c] (bE ?_)));refine bG _ (CG.loop (fun X Γ w_=>∃ (i:Nat)(l:List Nat)(Z:Hp),X=x.length-n/64-i/\Γ=[(0,qS A x.length c),(4,sZ),(5,nV (n/64)),(6,mV (n%64)),(7,qS (sB B) (x.length-(n/64)) (x.length-(n/64))),(24,nV (x.length-(n/64))),(25,nV i)]/\SS w h w_ Z [⟨B,24,(l).flatMap ar⟩] [] [fun Z=>SlO 1 ar 0 Z A x]/\i<=x.length-n/64/\l.length=x.length-n/64/\Wd l/\2^(n%64)*am 18446744073709551616 l+(x.drop (n/64)).getD 0 0%2^(n%64)=am 18446744073709551616 ((x.drop (n/64)).take i)+18446744073709551616^i*((x.drop (n/64)).getD i 0%2^(n%64))/\(∀ k,i<=k->l.getD k 0=0)) _ ⟨0,ta (x.length-(n/64)) 0,h4,rfl,rfl,e.to _ _,JH _,V,Wd.rep _,(by rw[di];simp[am]),fun k _=>dG⟩ ?_);rintro _ _ w6 ⟨i,l,h7,hm8,rfl,e,hi,H,hW,F,hz⟩;refine aG ?_;cases C:(decide ((i:Int)<(((x.length-(n/64)):Nat):Int)))
  .
   have I:=oF C;refine lB 26 C (ai (da (CG.exit ?_)))
   show CG _ _ _ _ _ _ _ _
   refine aa e aF (lN (kX ?_));have hix:i=x.length-n/64:=by omega
   have hE:=AI (W:=x.drop (n/64)) (m:=i) (by rw[Jb];omega) F;rw[mw S oM,Nat.div_div_eq_div_mul,<-vF n] at hE
   obtain ⟨_,e,L,bd,bb⟩:=e.pub 0;replace e:=(e.to [] []).aS (SlO.of_flat (sz:=1) (f:=ar) (d:=0) (b:=B) (o:=0) (l:=l) (fun _=>rfl) L);exact e.ret [] (qS (sB B) (x.length-(n/64)) (x.length-(n/64))) (⟨sB B,_,l,by rw[H],by omega,by omega,hW,hE,e.f.1⟩)
  have I:=oT C;refine lB 26 C (ai (ci (cK (cQ (kZ (aa e aF (aE (lL e m5 (bg 33 ((i:Nat)+(n/64:Nat)) (i+(n/64)) ?_)))))))));refine lX 34 A x.length c 1 (i+(n/64):Nat) (i+(n/64)) ((e.f.1).ok oM) (lH 35 (mV (x.getD (i+(n/64)) 0)) e ((e.f.1).el (i+(n/64)) oM) (lL e ac ?_));have hxi:=S.get (i+n/64);refine lV 37 (mV ((x.getD (i+(n/64)) 0:Nat)/2^(n%64))) ?_ (hr:=fK (t:=24) (u:=162) (x:=.tmp 35) (y:=.tmp 36) (ky:=.u64) (a:=(x.getD (i+(n/64)) 0:Nat)) (n:=(n%64)) kR kR kR oM _);refine lX 38 (sB B) (x.length-(n/64)) (x.length-(n/64)) 1 (i:Nat) i rfl (lW 0 l ar 1 i ((x.getD (i+(n/64)) 0:Nat)/2^(n%64):Nat) e oM (fun _ e=>?_));have zb:((l).set i ((x.getD (i+(n/64)) 0:Nat)/2^(n%64):Nat)).length=(x.length-(n/64)):=by rw[Jt];exact H
  replace e:=e.to [⟨B,24,((l).set i ((x.getD (i+(n/64)) 0:Nat)/2^(n%64):Nat)).flatMap ar⟩] [];refine aE (lL e aF (bg 41 ((i:Nat)+(n/64:Nat)) (i+(n/64)) ?_));refine bg 42 ((i+(n/64):Nat)+1) ((i+(n/64))+1) (lL e [.c,.v (nV x.length)] ?_);cases M:(decide ((((i+(n/64))+1:Nat):Int)<(x.length:Int)))
  .
   have zc:=oF M;refine lB 45 M (ah (cK (kQ (bg 62 ((i:Nat)+1) (i+1) ?_))));refine lL e ac (lD ?_);intro a_ U;refine ⟨_,_,?_,⟨i+1,(l).set i ((x.getD (i+(n/64)) 0:Nat)/2^(n%64):Nat),h7,rfl,rfl,e.to _ _,oM,zb,(hW.set _ (by have:=y7 (x.getD (i+n/64) 0) (2^(n%64));omega)),(o8 oM F (hz _ (nR _)) (by rw[bJ,bJ,show n/64+i=i+n/64 by omega,cP (show x.length<=n/64+(i+1) by omega),Ju,z6,ri];exact I9 _ _)),(mS oM hz)⟩,U.to _ kR⟩
   omega
  have zc:=oT M;refine lB 45 M (aj (cR 15 [] mixed e aw ?_));refine eV 0 46 (qS (sB B) (x.length-(n/64)) (x.length-(n/64))) (eV 1 47 (nV i) (eX 2 48 (sB B) (x.length-(n/64)) (x.length-(n/64)) 1 (i:Nat) i rfl (eQ 3 49 0 ((l).set i ((x.getD (i+(n/64)) 0:Nat)/2^(n%64):Nat)) ar 1 0 i (mV (((l).set i ((x.getD (i+(n/64)) 0:Nat)/2^(n%64):Nat)).getD i 0)) e oM (eV 4 50 (qS A x.length c) (eV 5 51 (nV i) (eV 6 52 (nV (n/64)) (iO 7 53 ((i:Nat)+(n/64:Nat)) (i+(n/64)) (iO 8 54 ((i+(n/64):Nat)+1) ((i+(n/64))+1) (eX 9 55 A x.length c 1 ((i+(n/64))+1:Nat) ((i+(n/64))+1:Nat) ((e.f.1).ok oM) (eH 10 56 (mV (x.getD ((i+(n/64))+1:Nat) 0)) e ((e.f.1).el ((i+(n/64))+1:Nat) oM) (eV 11 57 (mV (n%64)) (eV 12 58 (mV (64-(n%64))) ?_ (hv:=fun _=>rU (((64:Int)-((n%64:Nat):Int))) kR (fc 64 (n%64) oM oM))))))))))))));refine eV 13 59 (mV ((x.getD ((i+(n/64))+1:Nat) 0:Nat)*2^(64-(n%64))%18446744073709551616)) ?_ (hv:=fun _=>f8 (t:=24) (u:=162) (x:=.tmp 56) (y:=.tmp 58) (ky:=.u64) (a:=(x.getD ((i+(n/64))+1:Nat) 0:Nat)) (n:=(64-(n%64))) kR kR kR _);obtain ⟨Q,Y,O⟩:=ph (x:=x.getD (i+n/64) 0) (y:=x.getD (i+n/64+1) 0) (p:=n%64) oM hxi;have hdv:=y7 (x.getD (i+n/64) 0) (2^(n%64));have K:=bC (l:=l) (k:=i) (j:=i) (x:=x.getD (i+n/64) 0/2^(n%64)) oM;rw[if_pos rfl] at K
  refine eV 14 60 (mV (x.getD (i+n/64) 0/2^(n%64)+x.getD (i+n/64+1) 0*2^(64-n%64)%18446744073709551616)) ?_ (hv:=fun _=>aN (gl (t:=24) (u:=24) (x:=.tmp 49) (y:=.tmp 59) (a:=(((l).set i ((x.getD (i+(n/64)) 0:Nat)/2^(n%64):Nat)).getD i 0:Nat)) (b:=((x.getD ((i+(n/64))+1:Nat) 0:Nat)*2^(64-(n%64))%18446744073709551616:Nat)) kR kR kR oM oM _) (by rw[K,Q]));refine cG e (fun _ ze e=>tX 15 61 (sB B) (x.length-(n/64)) (x.length-(n/64)) 1 (i:Nat) i rfl (tW 16 0 ((l).set i ((x.getD (i+(n/64)) 0:Nat)/2^(n%64):Nat)) ar 1 i (x.getD (i+n/64) 0/2^(n%64)+x.getD (i+n/64+1) 0*2^(64-n%64)%18446744073709551616) e oM (fun _ e=>?_)));have zd:(((l).set i ((x.getD (i+(n/64)) 0:Nat)/2^(n%64):Nat)).set i (x.getD (i+n/64) 0/2^(n%64)+x.getD (i+n/64+1) 0*2^(64-n%64)%18446744073709551616)).length=(x.length-(n/64)):=by rw[Jt];exact zb
  replace e:=e.to [⟨B,24,(((l).set i ((x.getD (i+(n/64)) 0:Nat)/2^(n%64):Nat)).set i (x.getD (i+n/64) 0/2^(n%64)+x.getD (i+n/64+1) 0*2^(64-n%64)%18446744073709551616)).flatMap ar⟩] [];refine tN (bG [(0,qS A x.length c),(4,sZ),(5,nV (n/64)),(6,mV (n%64)),(7,qS (sB B) (x.length-(n/64)) (x.length-(n/64))),(24,nV (x.length-(n/64))),(25,nV i)] ?_);refine kQ (bg 62 ((i:Nat)+1) (i+1) ?_);refine lL e ac (lD ?_);intro a_ U;refine ⟨_,_,?_,⟨i+1,((l).set i ((x.getD (i+(n/64)) 0:Nat)/2^(n%64):Nat)).set i (x.getD (i+n/64) 0/2^(n%64)+x.getD (i+n/64+1) 0*2^(64-n%64)%18446744073709551616),ze,rfl,rfl,e.to _ _,oM,zd,((hW.set _ oM).set _ Y),(by rw[JM];exact o8 oM F (hz _ (nR _)) (by rw[bJ,bJ,show n/64+i=i+n/64 by omega,show n/64+(i+1)=i+n/64+1 by omega];exact O)),(by rw[JM];exact mS oM hz)⟩,U.to _ kR⟩
  omega
 have J:=oT D;exact lB 17 D (aj (aa e ac (af e [] (sZ) (⟨none,0,[],rfl,by simp,by simp;omega,Dg.nil,(by show 0=_;exact (y9 (Bl S oM)).symm),SlO.nil⟩))))
theorem Il {a b:Nat}(ha:a<18446744073709551616)(d:b<18446744073709551616):a*b<=340282366920938463426481119284349108225:=by
 have h1:a<=18446744073709551615:=by omega
 have c:b<=18446744073709551615:=by omega
 exact Nat.mul_le_mul h1 c
def w3 (u2 u1 u0:Nat):Nat:=18446744073709551616*(18446744073709551616*u2+u1)+u0
def w2 (v1 v0:Nat):Nat:=18446744073709551616*v1+v0
structure Gss (u2 u1 u0 v1 v0 g r o:Nat):Prop where
  e:g*v1+(r+18446744073709551616*o)=18446744073709551616*u2+u1
  lt:g+1=18446744073709551616\/w3 u2 u1 u0<(g+1)*w2 v1 v0
  gb:g<18446744073709551616
def CA (u2 u1 u0 v1 v0 g:Nat):Prop:=g*w2 v1 v0<=w3 u2 u1 u0/\(g+1=18446744073709551616\/w3 u2 u1 u0<(g+1)*w2 v1 v0)/\g<18446744073709551616
theorem gv {g a b:Nat}:g*w2 a b=18446744073709551616*(g*a)+g*b:=by unfold w2;rw[zT,Nat.mul_left_comm]
theorem Gss.fin {c u1 a d b g r o:Nat}(h:Gss c u1 a d b g r o)(f:g*b<=18446744073709551616*(r+18446744073709551616*o)+a):CA c u1 a d b g:=by
 refine ⟨?_,h.lt,h.gb⟩;rw[gv]
 unfold w3
 rw[<-h.e,zT]
 omega
theorem Gss.over {b u1 d c a g r o:Nat}(h:Gss b u1 d c a g r o)(e:0<o)(h0:a<18446744073709551616):CA b u1 d c a g:=by
 refine h.fin ?_;have h1:=Il h.gb h0
 omega
theorem Gss.dec {d u1 b a c g r f o':Nat}(h:Gss d u1 b a c g r 0)(k:18446744073709551616*r+b<g*c)(e:f+18446744073709551616*o'=r+a):0<g/\Gss d u1 b a c (g-1) f o':=by
 have j:0<g:=dt k;obtain ⟨p,rfl⟩:∃ p,g=p+1:=⟨g-1,by omega⟩;have i:=h.e;rw[z6,ri] at i
 have h1:w3 d u1 b<(p+1)*w2 a c:=by
  rw[gv]
  unfold w3
  rw[<-i,zT]
  omega
 have l:(p+1)*a=p*a+a:=by rw[I6,I8]
 rw[Jl];exact ⟨j,⟨by omega,Or.inr h1,by have:=h.gb;omega⟩⟩
theorem BW {b u1 c a d r o:Nat}(h:b=a)(e:r+18446744073709551616*o=u1+a):Gss b u1 c a d 18446744073709551615 r o:=by
 subst h;exact ⟨by omega,.inl rfl,by decide⟩
theorem Br {b u1 c a d q r:Nat}(e:b*18446744073709551616+u1=a*q+r)(hr:r<a)(h0:c<18446744073709551616)(f:q<18446744073709551616):Gss b u1 c a d q r 0:=by
 rw[zz b] at e
 refine ⟨by rw[zz q];omega,.inr ?_,f⟩;rw[gv,I6 q 1 a,I8,zz q a]
 unfold w3
 rw[e]
 have h1:18446744073709551616*(a*q+r)+18446744073709551616<=18446744073709551616*(a*q+a):=by
  rw[<-Nat.mul_succ];exact Ao _ oM
 have h:0<=(q+1)*d:=JH _
 omega
theorem Ey (o u1 k f i:Nat)(h0:o<18446744073709551616)(h1:u1<18446744073709551616)(h2:k<18446744073709551616)(h3:f<18446744073709551616)(h4:i<18446744073709551616)(hle:o<=f)(hv:0<f)(w:World)(h:Hp)(g:G w h):CR 249 #[mV o,mV u1,mV k,mV f,mV i] w h (fun v _=>∃ g:Nat,v=mV g/\CA o u1 k f i g):=by
 have d:=sS g;refine go Tryz.func249 [(0,mV o),(1,mV u1),(2,mV k),(3,mV f),(4,mV i)] rfl ?_;refine aa d ac (aE (lL d dL (lN (CG.join (fun Γ Z=>∃ (U:Nat)(I:Nat)(C:Nat)(h_:Hp),Γ=[(2,mV k),(3,mV f),(4,mV i),(10,uV 0),(11,mV U),(12,mV I),(13,mV C)]/\SS w h Z h_ [] [] []/\Gss o u1 k f i U I C/\I<18446744073709551616/\C<=1) ?_ ?_))))
 .
  refine aa d aF ?_;cases p:((o:Int) == (f:Int))
  .
   have H:=ao p;refine lB 18 p (ah (kQ (lL d dL (lC 29 d (qg o u1 f oM wM wM _ _ d.g) ?_))));rintro _ w7 h8 d ⟨q2,r3,rfl,he4,hl5,hm6⟩;refine lL d [.c,.v (mV q2),.v (mV r3),.c,.c] (lD ?_);intro a_ y;exact ⟨_,⟨q2,r3,0,h8,rfl,d.to _ _,(Br oM oM h2 oM),oM,oM⟩,y.to _ kR⟩
  have H:=eq_of_beq p;refine lB 18 p (aj (aa d ac (lN (kQ (lL d aF ?_)))));obtain ⟨B,X,bq,br,bt,K⟩:=dN u1 f 0 wM wM oM;refine lV 22 (.tuple #[mV B,mV X]) ?_ (hr:=dZ kR (K _));refine lL d [.c,.v (mV B),.v (mV X),.c,.c] (lD ?_);intro a_ y;exact ⟨_,⟨18446744073709551615,B,X,h,rfl,d.to _ _,(BW oM oM),oM,oM⟩,y.to _ kR⟩
 rintro _ _ ⟨U,I,C,zo,rfl,d,W,Y,D⟩;refine cQ (kZ ?_);refine bG _ (CG.loop (fun μ_ Γ Z=>∃ (g:Nat)(r:Nat)(l:Nat)(h_:Hp),μ_=g/\Γ=[(2,mV k),(3,mV f),(4,mV i),(10,uV 0),(11,mV g),(12,mV r),(13,mV l)]/\SS w h Z h_ [] [] []/\Gss o u1 k f i g r l/\r<18446744073709551616/\l<=1) _ ⟨U,I,C,zo,rfl,rfl,d.to _ _,W,Y,D⟩ ?_);rintro _ _ _ ⟨g,r,l,_,bb,rfl,d,e,hr,hov⟩;have hgl:=e.gb;refine cQ (aa d ac ?_);cases L:((l:Int) == (0:Int))
 .
  have zi:=ao L;refine lB 33 L (ah (CG.exit ?_))
  show CG _ _ _ _ _ _ _ _
  exact aa d aF (af d [] (mV g) (⟨g,rfl,(by first|exact e.over oM h4|(rw[show l=0 by omega] at e;exact e.fin oM))⟩))
 have zi:=eq_of_beq L;refine lB 33 L (aj (cK (kZ (aa d aF (lC 37 d (li g i wM wM _ _ d.g) ?_)))));rintro _ _ zm d ⟨u,zn,rfl,bk,bm,b0,bp⟩;have Q:=g9 (a:=g) (b:=i) wM wM;refine lL d [.c,.v (mV u),.v (mV zn),.c,.c] (ai (aa d aF ?_));cases S:(decide ((u:Int)<(r:Int)))
 .
  have zj:=oF S;refine lB 42 S (lL d dL ?_);cases O:((u:Int) == (r:Int))
  .
   have zk:=ao O;refine lB 46 O (lL d ac (lG 48 ?_));refine lG 49 (lG 50 (lL d [.v qF,.v qF] (ah (cK (aG ?_)))));have j:18446744073709551616*r+k<g*i:=by omega
   rw[show l=0 by omega] at e
   have hg0:=dt j;have hgb:=e.gb;refine lL d ac (lV 54 (mV (g-1)) ?_ (hr:=rU (((g:Int)-(1:Int))) kR (fc g 1 oM oM)));refine lL d ac (lN (kQ (lL d aF ?_)));obtain ⟨x,zf,b1,bl,b2,F⟩:=dN r f 0 wM wM oM;refine lV 58 (.tuple #[mV x,mV zf]) ?_ (hr:=dZ kR (F _));refine lL d [.c,.v (mV x),.v (mV zf),.c,.c] (lD ?_);intro a_ y;refine ⟨_,_,?_,⟨g-1,x,zf,zm,rfl,rfl,d.to _ _,((e.dec j oM).2),oM,oM⟩,y.to _ kR⟩
   omega
  have zk:=eq_of_beq O;refine lB 46 O (lL d dL ?_);cases M:(decide ((zn:Int)<=(k:Int)))
  .
   have zl:=oF M;refine lB 50 M (lL d [.v qF,.v qF] (ah (cK (aG ?_))));have j:18446744073709551616*r+k<g*i:=by omega
   rw[show l=0 by omega] at e
   have hg0:=dt j;have hgb:=e.gb;refine lL d ac (lV 54 (mV (g-1)) ?_ (hr:=rU (((g:Int)-(1:Int))) kR (fc g 1 oM oM)));refine lL d ac (lN (kQ (lL d aF ?_)));obtain ⟨z,V,bw,bd,b3,J⟩:=dN r f 0 wM wM oM;refine lV 58 (.tuple #[mV z,mV V]) ?_ (hr:=dZ kR (J _));refine lL d [.c,.v (mV z),.v (mV V),.c,.c] (lD ?_);intro a_ y;refine ⟨_,_,?_,⟨g-1,z,V,zm,rfl,rfl,d.to _ _,((e.dec j oM).2),oM,oM⟩,y.to _ kR⟩
   omega
  have zl:=oT M;refine lB 50 M (lL d [.v qT,.v qT] (aj (CG.exit ?_)))
  show CG _ _ _ _ _ _ _ _
  exact aa d aF (af d [] (mV g) (⟨g,rfl,(by first|exact e.over oM h4|(rw[show l=0 by omega] at e;exact e.fin oM))⟩))
 have zj:=oT S;refine lB 42 S (lL d ac (lG 44 ?_));refine lG 45 (lG 46 (lG 47 (lG 48 (lG 49 (lG 50 (lG 51 (lL d [.v qT] (aj (CG.exit ?_)))))))))
 show CG _ _ _ _ _ _ _ _
 exact aa d aF (af d [] (mV g) (⟨g,rfl,(by first|exact e.over oM h4|(rw[show l=0 by omega] at e;exact e.fin oM))⟩))
theorem uY (A:Z9)(c:Nat)(l:List Nat)(n:Nat)(d:l.length=n)(e:l.length<=1099511627776)(b:l.length<=c)(w:World)(h:Hp)(g:G w h)(a:SlO 1 ar 0 h A l):CV 141 #[.slice A n c] w h (.slice A (tl l n) c):=by
 subst d;exact Dd A c l e b w h g a
theorem Hs (rb:Nat)(l:List Nat)(c d:Nat)(hd:0<d)(hdB:d<18446744073709551616)(hW:Wd l)(hl:l.length<=1000000000)(hc:l.length<=c)(w:World)(h:Hp)(g:G w h)(V:Own w rb 24 (l.flatMap ar))(Q:h[rb]?=some junk):Calls Tryz.prog 114 #[.slice (sB rb) l.length c,mV d] w (bW rb w h fun v w' _=>∃ z:List Nat,∃ r:Nat,v=.tuple #[.slice (sB rb) (tl z z.length) c,uV r]/\z.length=l.length/\Wd z/\aD l=d*aD z+r/\r<d/\Own w' rb 24 (z.flatMap ar)):=by
 have e:UpM [rb] w h w h:=UpM.refl g;obtain ⟨wz,hz,a⟩:=SS.at_ g V Q;have M:l.length=l.length:=rfl;refine go Tryz.func114 [(0,qS (sB rb) l.length c),(1,mV d)] rfl (aa a aF (aE (lL a ac (ai (aa a [.c,.v (nV l.length)] (lV 10 (iV ((l.length:Int)-1)) ?_ (hr:=rS (((l.length:Nat)-1)) kR ((dS oM oM).trans oM))))))));refine lL a ac (bE ?_);refine bG _ (CG.loop (fun y Γ H=>∃ (m:Nat)(z:List Nat)(r:Nat)(h_:Hp),y=m/\Γ=[(0,qS (sB rb) l.length c),(1,mV d),(4,sZ),(5,uV 0),(7,iV ((m:Int)-1)),(6,mV r)]/\SS wz hz H h_ [⟨rb,24,(z).flatMap ar⟩] [] []/\m<=l.length/\z.length=l.length/\Wd z/\aD l=d*(18446744073709551616^m*am 18446744073709551616 (z.drop m))+(18446744073709551616^m*r+am 18446744073709551616 (z.take m))/\r<d/\UpM [rb] w h H h_) _ ⟨l.length,l,0,h,rfl,rfl,a.to _ _,nR _,rfl,hW,(by show am _ l=_;simp[am,JA]),hd,e⟩ ?_);rintro _ _ w1 ⟨m,z,r,h2,O,rfl,a,hm,i,B,k,F,e⟩;refine cQ (aa a ac ?_);cases j:(decide ((0:Int)<=((m:Int)-1:Int)))
 .
  have u:=oF j;refine lB 12 j (ah (CG.exit ?_))
  show CG _ _ _ _ _ _ _ _
  refine aa a ac (vO 29 0 a (fun _ U f_ D=>uY (sB rb) c (z) (l.length) i oM oM _ _ U (SlO.of_flat (sz:=1) (f:=ar) (d:=0) (b:=rb) (o:=0) (l:=z) (fun _=>rfl) D)) ?_);rintro _ w5 h6 u7 a rfl;replace e:=e.trans (u7.m _);refine lL a dL (lN (kX ?_));have C:m=0:=by omega
  rw[C] at k
  exact a.retM e [] (.tuple #[qS (sB rb) (tl (z) l.length) c,mV r]) ⟨z,r,by rw[i],i,B,(by simp only[JI,I8,rk,List.take_zero,am] at k;exact k),F,a.own 0⟩
 have u:=oT j;refine lB 12 j (aj (cK (cQ (kZ (kQ (lL a m5 (lX 21 (sB rb) l.length c 1 ((m:Int)-1) (m-1) rfl ?_)))))));have Y:=B.get (m-1);refine lQ 22 0 z ar 1 0 (m-1) (mV ((z).getD (m-1) 0)) a oM (lL a ac (d7 24 (qg r ((z).getD (m-1) 0) d oM wM wM _ _ a.g) ?_));rintro _ _ X p ⟨x,I,rfl,L,J,K⟩;replace e:=e.trans (p.m _);replace a:=a.step p;refine lL a [.c,.v (mV x),.v (mV I)] (lX 27 (sB rb) l.length c 1 ((m:Int)-1) (m-1) rfl ?_);refine GF 0 z ar 1 (m-1) x a oM (fun _ W a=>?_);replace e:=e.put W (n1.2 rfl) a.g;have Z:((z).set (m-1) x).length=l.length:=by rw[Jt];exact i
 replace a:=a.to [⟨rb,24,((z).set (m-1) x).flatMap ar⟩] [];refine lL a ac (lN (kQ (lL a ac (lV 14 (iV (((m-1:Nat):Int)-1)) ?_ (hr:=rS ((((m:Int)-1)-1)) kR ((dS oM oM).trans oM))))));refine lL a ac (lD ?_);intro a_ S;refine ⟨_,_,?_,⟨m-1,(z).set (m-1) x,I,X,rfl,rfl,a.to _ _,oM,Z,(B.set _ oM),(rL oM (by rw[show m-1+1=m by omega];exact k) oM),oM,e⟩,S.to _ kR⟩
 omega
theorem Fk {u:List Nat}{k:Nat}(a:2<=k):w3 (u.getD k 0) (u.getD (k-1) 0) (u.getD (k-2) 0)=u.getD k 0*18446744073709551616*18446744073709551616+u.getD (k-1) 0*18446744073709551616+u.getD (k-2) 0:=by
 unfold w3
 rw[zz (u.getD k 0) 18446744073709551616,zz (18446744073709551616*u.getD k 0) 18446744073709551616,zz (u.getD (k-1) 0),zT]
theorem Fx {a b:Nat}:w2 a b=a*18446744073709551616+b:=by unfold w2;rw[zz]
section
variable {n j G:Nat}{u v:List Nat}
theorem El (x:2<=n)(y:v.length=n)(a:Wd v)(f:Wd u)(hu:j+n<u.length)(p:aD u<18446744073709551616^(j+1)*aD v):u.getD (j+n) 0<=v.getD (n-1) 0:=by
 rcases co (v.getD (n-1) 0) (u.getD (j+n) 0) with h|h
 ·exfalso
  have b:=aJ 18446744073709551616 (l:=v) (k:=n-1) oM;rw[show n-1+1=v.length by omega,r9] at b
  have h1:=bV (Dg.take a (n-1));rw[z1,z2 oM] at h1
  have e:=aJ 18446744073709551616 (l:=u) (k:=j+n) oM;have c:=bX 18446744073709551616 (l:=u) (k:=j+n+1) oM;have o:18446744073709551616^(j+n)*(v.getD (n-1) 0+1)<=18446744073709551616^(j+n)*u.getD (j+n) 0:=Ao _ h
  have d:18446744073709551616^(j+1)*aD v<18446744073709551616^(j+1)*(18446744073709551616^(n-1)*(v.getD (n-1) 0+1)):=by
   refine F2 ?_ (A8 kD)
   show am _ v<_
   rw[b,zT,HA];omega
  rw[<-zY,<-Am,show j+1+(n-1)=j+n by omega] at d
  have i:aD u=am 18446744073709551616 (u.take (j+n))+18446744073709551616^(j+n)*u.getD (j+n) 0+18446744073709551616^(j+n+1)*am 18446744073709551616 (u.drop (j+n+1)):=by
   show am _ u=_
   rw[c,e]
  have z:=JH (18446744073709551616^(j+n+1)*am 18446744073709551616 (u.drop (j+n+1)))
  omega
 ·exact h
theorem v8 (i:2<=n)(k:v.length=n)(b:Wd v)(c:Wd u)(hu:j+n<u.length)(a:v.getD (n-1) 0≠0)(h:aD u<18446744073709551616^(j+1)*aD v)(f:CA (u.getD (j+n) 0) (u.getD (j+n-1) 0) (u.getD (j+n-2) 0) (v.getD (n-1) 0) (v.getD (n-2) 0) G) :
  aD u/(18446744073709551616^j*aD v)<=G/\G<=aD u/(18446744073709551616^j*aD v)+1:=by
 obtain ⟨h1,d,e⟩:=f;rw[Fk oM,Fx] at h1 d
 exact mJ kD i k b c hu a h h1 d e
theorem vw (h:2<=n)(e:v.length=n)(a:Wd v)(b:v.getD (n-1) 0≠0):18446744073709551616^(n-1)<=aD v/\aD v<18446744073709551616^n:=by
 have c:=bV a;rw[e] at c
 refine ⟨?_,c⟩;have d:=aJ 18446744073709551616 (l:=v) (k:=n-1) oM;rw[show n-1+1=v.length by omega,r9] at d
 have f:18446744073709551616^(n-1)*1<=18446744073709551616^(n-1)*v.getD (n-1) 0:=Ao _ oM
 show _<=am _ v
 omega
theorem xE (e:2<=n)(c:v.length=n)(a:Wd v)(d:aD u<18446744073709551616^(j+1)*aD v):aD u<18446744073709551616^(j+n+1):=by
 have b:=bV a;rw[c] at b
 have h1:18446744073709551616^(j+1)*aD v<18446744073709551616^(j+1)*18446744073709551616^n:=F2 b (A8 kD);rw[<-Am,show j+1+n=j+n+1 by omega] at h1
 omega
theorem AE {u1:List Nat}(h:2<=n)(l:v.length=n)(d:Wd v)(i:Wd u)(f:Wd u1)(hu:j+n<u.length)(a:v.getD (n-1) 0≠0)(k:aD u<18446744073709551616^(j+1)*aD v)
  (p:aD u/(18446744073709551616^j*aD v)<=G/\G<=aD u/(18446744073709551616^j*aD v)+1)(c:Above u1 u (j+n+1))(e:aD u1+18446744073709551616^j*(G*aD v)=aD u+18446744073709551616^(j+n+1)*0) :
  aD u1<18446744073709551616^j*aD v/\aD u1+18446744073709551616^j*(G*aD v)=aD u:=by
 obtain ⟨o,y⟩:=vw h l d a;have x:=d9 (b:=18446744073709551616) kD c f i (by rw[c.1];omega) (xE h l d k);have:=(eW (b:=18446744073709551616) kD h o y k x e (JH 1) p).1 rfl;rw[z6,ri] at e
 exact ⟨this.2.2.1,e⟩
theorem Gf {b a W K T c:Nat}(f:a+T*c=b+W)(j:b+W=K+T)(l:a<T)(e:K<W)(k:W<=T):a=K:=by
 have d:c=1:=by
  rcases JN c 1 with h|h|h
  ·have:c=0:=by omega
   subst this;omega
  ·exact h
  ·have i:T*2<=T*c:=Ao _ h
   omega
 subst d
 omega
theorem Ee {u1 d:List Nat}{c:Nat}(z:2<=n)(C:v.length=n)(f:Wd v)(o:Wd u)(y:Wd u1)(x:Wd d)(hu:j+n<u.length)(h:v.getD (n-1) 0≠0)(B:aD u<18446744073709551616^(j+1)*aD v)
  (J:aD u/(18446744073709551616^j*aD v)<=G/\G<=aD u/(18446744073709551616^j*aD v)+1)(k:Above u1 u (j+n+1))(a:Above d u (j+n+1))(e:aD u1+18446744073709551616^j*(G*aD v)=aD u+18446744073709551616^(j+n+1)*1)
  (M:aD d+18446744073709551616^(j+n+1)*c=aD u1+18446744073709551616^j*aD v) :
  aD d<18446744073709551616^j*aD v/\aD d+18446744073709551616^j*((G-1)*aD v)=aD u/\0<G:=by
 obtain ⟨L,H⟩:=vw z C f h;have l:=xE z C f B;have O:=d9 (b:=18446744073709551616) kD k y o (by rw[k.1];omega) l;have p:=d9 (b:=18446744073709551616) kD a x o (by rw[a.1];omega) l;obtain ⟨Q,I,F,S⟩:=(eW (b:=18446744073709551616) kD z L H B O e oM J).2 rfl
 have i:18446744073709551616^j*aD v<=18446744073709551616^(j+n+1):=by
  have h1:18446744073709551616^j*aD v<=18446744073709551616^j*18446744073709551616^n:=Ao _ (JO H);rw[<-Am] at h1
  have K:(18446744073709551616:Nat)^(j+n)<=18446744073709551616^(j+n+1):=Aa kD oM;exact ed h1 K
 have D:aD d=aD u-18446744073709551616^j*((G-1)*aD v):=Gf M I p F i;exact ⟨by rw[D];exact F,by rw[D];exact Nat.sub_add_cancel S,by rw[Q];exact JJ _⟩
theorem D3 {u1:List Nat}(h:2<=n)(l:v.length=n)(d:Wd v)(i:Wd u)(f:Wd u1)(hu:j+n<u.length)(a:v.getD (n-1) 0≠0)(k:aD u<18446744073709551616^(j+1)*aD v)
  (x:aD u/(18446744073709551616^j*aD v)<=G/\G<=aD u/(18446744073709551616^j*aD v)+1)(c:Above u1 u (j+n+1))(e:aD u1+18446744073709551616^j*(G*aD v)=aD u+18446744073709551616^(j+n+1)*1):0<G:=by
 obtain ⟨o,z⟩:=vw h l d a;have y:=d9 (b:=18446744073709551616) kD c f i (by rw[c.1];omega) (xE h l d k);obtain ⟨p,_⟩:=(eW (b:=18446744073709551616) kD h o z k y e (Nat.le_refl 1) x).2 rfl;rw[p];exact JJ _
theorem Bk (j:n<=u.length)(o:v.length=n)(a:Wd v)(b:Wd u)(h:aD u<aD v):aD (u.take n)=aD u:=by
 have c:=bV a;rw[o] at c
 have f:am 18446744073709551616 u<18446744073709551616^(n+0):=Nat.lt_trans h c;have hz:=(gU 18446744073709551616 (l:=u) (k:=n) (m:=0) oM kD b f).2;have e:=bX 18446744073709551616 (l:=u) (k:=n) j;have d:am 18446744073709551616 (u.drop n)=0:=gn _ (fun i=>by rw[bJ];exact hz _ oM);rw[d,z6,ri] at e
 exact e.symm
end
theorem xg {q:List Nat}{j Q X V R R':Nat}(d:j<q.length)(h0:q.getD j 0=0)(a:X=aD q*V+R)(e:R'+18446744073709551616^j*(Q*V)=R):X=aD (q.set j Q)*V+R':=by
 have b:=ct 18446744073709551616 (l:=q) (k:=j) Q d;rw[h0,z6,ri] at b
 have c:aD (q.set j Q)=aD q+18446744073709551616^j*Q:=b;rw[c,I6,a,<-e,zY];omega
theorem DA {X V R q a b s:Nat}(f:V=b*2^s)(o:X=a*2^s)(c:X=q*V+R)(k:R<V):q=a/b/\R/2^s=a%b:=by
 have p:=z8 s;have j:0<V:=by omega
 have l:0<b:=by
  rcases va b with h|h
  ·rw[h,sA] at f;omega
  ·exact h
 have i:a*2^s=V*q+R:=by rw[<-o,c,zz]
 obtain ⟨h1,e⟩:=jC (A:=a) (y:=b) (Q:=q) f i k;have d:a=R/2^s+b*q:=by omega
 constructor
 ·rw[d,Nat.add_mul_div_left _ _ l,y9 e,s4]
 ·rw[d,Jw,tv e]
theorem xt {a s:Nat}(c:s<=64)(h:a*2^s<18446744073709551616):a*2^s+2^s<=18446744073709551616:=by
 have e:=vG c;rw[e] at h ⊢
 have h1:a<2^(64-s):=Nat.lt_of_mul_lt_mul_right h;have b:(a+1)*2^s<=2^(64-s)*2^s:=s5 _ h1;rw[I6,I8] at b
 exact b
theorem uZ {x y:List Nat}{s:Nat}(f:Wd x)(j:Wd y)(o:1<=y.length)(a:y.getD (y.length-1) 0≠0)(c:y.length<=x.length):aD x*2^s<18446744073709551616^(x.length-y.length+1)*(aD y*2^s):=by
 have d:=aJ 18446744073709551616 (l:=y) (k:=y.length-1) oM;rw[show y.length-1+1=y.length by omega,r9] at d
 have i:18446744073709551616^(y.length-1)*1<=18446744073709551616^(y.length-1)*y.getD (y.length-1) 0:=Ao _ oM;have e:18446744073709551616^(y.length-1)<=aD y:=by show _<=am _ y;omega
 have b:18446744073709551616^(x.length-y.length+1)*18446744073709551616^(y.length-1)<=18446744073709551616^(x.length-y.length+1)*aD y:=Ao _ e;rw[<-Am,show x.length-y.length+1+(y.length-1)=x.length by omega] at b
 have h:aD x<18446744073709551616^x.length:=bV f;rw[<-zY];exact Jo (ep h b) (z8 s)
theorem D9 (A:Z9)(c:Nat)(x:List Nat)(m:Nat)(d:x.length=m)(f:Wd x)(a:x.length<=1000000000)(n:Nat)(e:n<=1000000000)(w:World)(h:Hp)(g:G w h)(b:SlO 1 ar 0 h A x):CR 250 #[.slice A m c,nV n] w h (fun v h1=>Cm h1 v (x.length-n/64) (fun z=>aD z=aD x/2^n)):=by
 subst d;exact GE A c x f a n e w h g b
theorem Eg {y z:List Nat}{s:Nat}(a:s<=64)(B:Wd y)(hz:Wd z)(j:aD z=aD y*2^s)(C:1<=y.length)(p:y.getD (y.length-1) 0*2^s<18446744073709551616)(h:y.length<=z.length):aD (z.take y.length)=aD y*2^s:=by
 have d:aD z<18446744073709551616^(y.length+0):=by
  rw[j,ri];have f:=aJ 18446744073709551616 (l:=y) (k:=y.length-1) oM;rw[show y.length-1+1=y.length by omega,r9] at f
  have h1:=bV (Dg.take B (y.length-1));rw[z1,z2 oM] at h1
  have u:aD y<18446744073709551616^(y.length-1)*(y.getD (y.length-1) 0+1):=by
   show am _ y<_
   rw[f,zT,HA];omega
  have x:aD y*2^s<18446744073709551616^(y.length-1)*(y.getD (y.length-1) 0+1)*2^s:=Jo u (z8 s)
  have c:18446744073709551616^(y.length-1)*(y.getD (y.length-1) 0+1)*2^s<=18446744073709551616^y.length:=by
   have o:(18446744073709551616:Nat)^y.length=18446744073709551616^(y.length-1)*18446744073709551616:=by rw[<-zy];congr 1;omega
   rw[o,zY];refine Ao _ ?_;rw[I6,I8];exact xt a p
  exact ep x c
 have b:=(gU 18446744073709551616 (l:=z) (k:=y.length) (m:=0) oM kD hz d).2;have e:=bX 18446744073709551616 (l:=z) (k:=y.length) oM;have c:am 18446744073709551616 (z.drop y.length)=0:=gn _ (fun i=>by rw[bJ];exact b _ oM);rw[c,z6,ri] at e
 rw[<-j];exact e.symm
theorem Cn {y v:List Nat}{s:Nat}(j:Wd y)(hv:Wd v)(e:v.length=y.length)(i:aD v=aD y*2^s)(o:1<=y.length)(f:9223372036854775808<=y.getD (y.length-1) 0*2^s):v.getD (v.length-1) 0≠0:=by
 intro h0;have a:=aJ 18446744073709551616 (l:=v) (k:=v.length-1) oM;rw[show v.length-1+1=v.length by omega,r9,h0,z6,ri] at a
 have h1:=bV (Dg.take hv (v.length-1));rw[z1,z2 oM] at h1
 have c:=aJ 18446744073709551616 (l:=y) (k:=y.length-1) oM;rw[show y.length-1+1=y.length by omega,r9] at c
 have d:18446744073709551616^(y.length-1)*y.getD (y.length-1) 0<=aD y:=by show _<=am _ y;omega
 have b:18446744073709551616^(y.length-1)*y.getD (y.length-1) 0*2^s<=aD y*2^s:=s5 _ d;rw[zY] at b
 have h:18446744073709551616^(y.length-1)*1<=18446744073709551616^(y.length-1)*(y.getD (y.length-1) 0*2^s):=Ao _ oM
 have p:aD v<18446744073709551616^(y.length-1):=by
  show am _ v<_
  rw[a,<-e];exact h1
 omega
theorem En (A:Z9)(c:Nat)(x:List Nat)(D:Z9)(d:Nat)(y:List Nat)(hx:Wd x)(hy:Wd y)(hlx:x.length<=1000000000)(hny:2<=y.length)(hxy:y.length<=x.length)(bt:y.getD (y.length-1) 0≠0)(w:World)(h:Hp)(g:G w h)(hA:SlO 1 ar 0 h A x)(hD:SlO 1 ar 0 h D y):CR 238 #[.slice A x.length c,.slice D y.length d] w h (fun v h1=>∃ Aq cq,∃ q:List Nat,∃ Ar cr,∃ r:List Nat,v=.tuple #[.slice Aq q.length cq,.slice Ar r.length cr]/\q.length<=cq/\r.length<=cr/\Wd q/\Wd r/\aD q=aD x/aD y/\aD r=aD x%aD y/\q.length<=x.length/\r.length<=y.length/\SlO 1 ar 0 h1 Aq q/\SlO 1 ar 0 h1 Ar r):=by
 have e:=(((sS g).aS hA).aS hD);refine go Tryz.func238 [(0,qS A x.length c),(1,qS D y.length d)] rfl (aa e aF (aE (lL e [.c,.v (nV y.length),.c] (aE (lL e aF (bg 25 ((y.length:Nat)-1) (y.length-1) ?_))))));refine lX 26 D y.length d 1 (y.length-1:Nat) (y.length-1) ((e.f.1).ok oM) (lH 27 (mV (y.getD (y.length-1) 0)) e ((e.f.1).el (y.length-1) oM) ?_);have hyt:=hy.get (y.length-1);refine aq 28 e (C1 (y.getD (y.length-1) 0) wM _ _ e.g) (fun w1 h2 e=>lL e ac (aE (lL e aF (lC 31 e (wU D d y hy oM (64-nb (y.getD (y.length-1) 0)) oM _ _ e.g e.f.1) ?_))));rintro _ w3 h4 e ⟨V,vc,zv,rfl,hvc,dk,hWv,hVv,hFv⟩;replace e:=e.aS hFv;refine lL e ac (lT 33 V zv.length vc 1 (y.length:Nat) y.length ?_);obtain ⟨p,hvl_⟩:∃ p,p=zv.take y.length:=⟨_,rfl⟩;have br:p.length=y.length:=by rw[hvl_,z1];omega
 have B:Wd p:=by rw[hvl_];exact Dg.take hWv _
 have c5:=(cl (n:=y.getD (y.length-1) 0) oM).2.2;have bm:=sK (y:=y.getD (y.length-1) 0) oM (hy.get _);have bd:aD p=aD y*2^(64-nb (y.getD (y.length-1) 0)):=by rw[hvl_];exact Eg oM hy hWv hVv oM bm.2 oM
 have O:p.getD (p.length-1) 0≠0:=Cn hy B br bd oM bm.1;replace e:=e.aS ((e.f.1).take y.length);rw[<-hvl_] at e
 refine lL e ac (aE (lL e [.c,.v (nV x.length)] (bg 36 ((x.length:Nat)+1) (x.length+1) ?_)));refine lK 37 24 (x.length+1) 1 8 (uV 0) ar 0 e (fun z w6 h7 e=>?_);have hl8:(ta (x.length+1) 0).length=(x.length+1):=by simp
 refine lL e ac (aE (lL e dL (lC 41 e (wU A c x hx hlx (64-nb (y.getD (y.length-1) 0)) oM _ _ e.g e.f.r.2.1) ?_)));rintro _ w9 _ e ⟨Uo,uc,zu,rfl,huc,hh,b0,hVu,hFu⟩;replace e:=e.aS hFu;have b1:zu.length=x.length+1:=by omega
 refine IQ 42 0 (.tmp 38) (.tmp 41) 149 24 ar 0 Uo zu (x.length+1) zu.length uc (x.length+1) e e.f.1 rfl oM oM (by show ((ta (x.length+1) 0).flatMap ar).length=_;rw[db (sz:=1) (fun _=>rfl)];simp) (fun _ e=>?_);replace e:=e.to [⟨z,24,(zu).flatMap ar⟩] [];refine aE (lL e [.c,.v (nV x.length),.c] (bg 46 ((x.length:Nat)-(y.length:Nat)) (x.length-y.length) ?_));refine bg 47 ((x.length-y.length:Nat)+1) ((x.length-y.length)+1) (lK 48 24 ((x.length-y.length)+1) 1 8 (uV 0) ar 0 e (fun M _ zD e=>?_));have zt:(ta ((x.length-y.length)+1) 0).length=((x.length-y.length)+1):=by simp
 refine lL e ac (ai (aa e [.c,.v (nV x.length),.c] (lV 52 (iV (((x.length-y.length+1:Nat):Int)-1)) ?_ (hr:=rS (((x.length:Nat)-(y.length:Nat))) kR ((dS oM oM).trans oM)))));refine lL e ac (lN (bG [(4,qS (sB M) ((x.length-y.length)+1) ((x.length-y.length)+1)),(5,sZ),(6,nV y.length),(7,nV (64-nb (y.getD (y.length-1) 0))),(8,qS V y.length vc),(9,qS (sB z) (x.length+1) (x.length+1)),(10,iV (((x.length-y.length+1:Nat):Int)-1))] ?_));refine kZ ?_;refine bG _ (CG.loop (fun μ_ Γ w_=>∃ (m:Nat)(H:List Nat)(K:List Nat)(C:Hp),μ_=m/\Γ=[(4,qS (sB M) ((x.length-y.length)+1) ((x.length-y.length)+1)),(5,sZ),(6,nV y.length),(7,nV (64-nb (y.getD (y.length-1) 0))),(8,qS V y.length vc),(9,qS (sB z) (x.length+1) (x.length+1)),(10,iV ((m:Int)-1))]/\SS w h w_ C [⟨M,24,(K).flatMap ar⟩,⟨z,24,(H).flatMap ar⟩] [] [fun C=>SlO 1 ar 0 C Uo zu,fun C=>SlO 1 ar 0 C V p,fun C=>SlO 1 ar 0 C V zv,fun C=>SlO 1 ar 0 C D y,fun C=>SlO 1 ar 0 C A x]/\m<=x.length-y.length+1/\H.length=x.length+1/\Wd H/\K.length=x.length-y.length+1/\Wd K/\aD H<18446744073709551616^m*aD p/\aD zu=aD K*aD p+aD H/\(∀ k,k<m->K.getD k 0=0)) _ ⟨x.length-y.length+1,zu,ta ((x.length-y.length)+1) 0,zD,rfl,rfl,e.to _ _,nR _,b1,b0,zt,Wd.rep _,(by rw[hVu,bd];exact uZ hx hy oM bt oM),(by show _=am _ _*_+_;rw[di,sA,s4]),fun k _=>dG⟩ ?_);rintro _ _ _ ⟨m,H,K,_,dn,rfl,e,hm,hul,J,hql,hWq,hR,inv,hq0⟩;refine cQ (aa e ac ?_);cases zd:(decide ((0:Int)<=((m:Int)-1:Int)))
 .
  have zl:=oF zd;refine lB 54 zd (ah (CG.exit ?_))
  show CG _ _ _ _ _ _ _ _
  refine aG ?_;have hm0:m=0:=by omega
  obtain ⟨_,e,b3,hd,fm⟩:=e.pub 0;replace e:=(e.to [⟨z,24,(H).flatMap ar⟩] []).aS (SlO.of_flat (sz:=1) (f:=ar) (d:=0) (b:=M) (o:=0) (l:=K) (fun _=>rfl) b3);obtain ⟨_,e,b4,df,d1⟩:=e.pub 0;replace e:=(e.to [] []).aS (SlO.of_flat (sz:=1) (f:=ar) (d:=0) (b:=z) (o:=0) (l:=H) (fun _=>rfl) b4);refine lL e dL (lT 190 (sB z) (x.length+1) (x.length+1) 1 (y.length:Nat) y.length ?_);refine lL e ac (lC 192 e (D9 (sB z) (x.length+1) (H.take y.length) y.length (by rw[z1];omega) (Dg.take J _) (by rw[z1];omega) (64-nb (y.getD (y.length-1) 0)) oM _ _ e.g ((e.f.1).take y.length)) ?_);rintro _ _ _ e ⟨Ar,cr,zr,rfl,hcr,hlr,hWr,hVr,hFr⟩;replace e:=e.aS hFr;refine lL e aF (lN (kX ?_));rw[hm0,JI,I8] at hR
  obtain ⟨hQ,hRm⟩:=DA bd hVu inv hR;rw[Bk (v:=p) oM oM B J hR] at hVr
  exact e.ret [] (.tuple #[qS (sB M) ((x.length-y.length)+1) ((x.length-y.length)+1),qS Ar zr.length cr]) (⟨_,_,K,Ar,cr,zr,by rw[hql],by omega,hcr,hWq,hWr,hQ,hVr.trans hRm,by omega,(by have:=List.length_take_le y.length H;omega),e.f.r.1,e.f.1⟩)
 have zl:=oT zd;refine lB 54 zd (aj (cK (cQ (kZ (cQ (cR 31 [] mixed e aw ?_))))));have hm1:0<m:=by omega
 have hn2:2<=p.length:=by omega
 have W:m-1+p.length<H.length:=by omega
 have Z:aD H<18446744073709551616^(m-1+1)*aD p:=by rw[show m-1+1=m by omega];exact hR
 have hle:=El (n:=p.length) (j:=m-1) hn2 rfl B J W Z;refine eV 0 57 (qS (sB z) (x.length+1) (x.length+1)) (eV 1 58 (iV ((m:Int)-1)) (eV 2 59 (nV y.length) (iO 3 60 (((m:Int)-1)+(y.length:Nat)) (m-1+p.length) (eX 4 61 (sB z) (x.length+1) (x.length+1) 1 (m-1+p.length:Nat) (m-1+p.length) rfl (eQ 5 62 1 H ar 1 0 (m-1+p.length) (mV ((H).getD (m-1+p.length) 0)) e oM (eV 6 63 (qS (sB z) (x.length+1) (x.length+1)) (eV 7 64 (iV ((m:Int)-1)) (eV 8 65 (nV y.length) (iO 9 66 (((m:Int)-1)+(y.length:Nat)) (m-1+p.length) (iO 10 67 ((m-1+p.length:Nat)-1) (m-1+p.length-1) (eX 11 68 (sB z) (x.length+1) (x.length+1) 1 (m-1+p.length-1:Nat) (m-1+p.length-1) rfl (eQ 12 69 1 H ar 1 0 (m-1+p.length-1) (mV ((H).getD (m-1+p.length-1) 0)) e oM (eV 13 70 (qS (sB z) (x.length+1) (x.length+1)) (eV 14 71 (iV ((m:Int)-1)) (eV 15 72 (nV y.length) (iO 16 73 (((m:Int)-1)+(y.length:Nat)) (m-1+p.length) (iO 17 74 ((m-1+p.length:Nat)-2) (m-1+p.length-2) (eX 18 75 (sB z) (x.length+1) (x.length+1) 1 (m-1+p.length-2:Nat) (m-1+p.length-2) rfl (eQ 19 76 1 H ar 1 0 (m-1+p.length-2) (mV ((H).getD (m-1+p.length-2) 0)) e oM (eV 20 77 (qS V y.length vc) (eV 21 78 (nV y.length) (iO 22 79 ((y.length:Nat)-1) (p.length-1) (eX 23 80 V y.length vc 1 (p.length-1:Nat) (p.length-1) ((e.f.2.1).ok oM) (eH 24 81 (mV (p.getD (p.length-1) 0)) e ((e.f.2.1).el (p.length-1) oM) (eV 25 82 (qS V y.length vc) (eV 26 83 (nV y.length) (iO 27 84 ((y.length:Nat)-2) (p.length-2) (eX 28 85 V y.length vc 1 (p.length-2:Nat) (p.length-2) ((e.f.2.1).ok oM) (eH 29 86 (mV (p.getD (p.length-2) 0)) e ((e.f.2.1).el (p.length-2) oM) (eC 30 87 e (fun _ _ e=>Ey (((H).getD (m-1+p.length) 0)) (((H).getD (m-1+p.length-1) 0)) (((H).getD (m-1+p.length-2) 0)) ((p.getD (p.length-1) 0)) ((p.getD (p.length-2) 0)) (J.get _) (J.get _) (J.get _) (B.get _) (B.get _) hle oM _ _ e.g) ?_))))))))))))))))))))))))))))));rintro _ _ _ _ _ e ⟨g,rfl,hG0⟩;have hG:=v8 (n:=p.length) (j:=m-1) hn2 rfl B J W O Z hG0;have hgb:=hG0.2.2;refine cG e (fun _ zE e=>tV 31 11 (mV g) (tN (bG [(4,qS (sB M) ((x.length-y.length)+1) ((x.length-y.length)+1)),(5,sZ),(6,nV y.length),(7,nV (64-nb (y.getD (y.length-1) 0))),(8,qS V y.length vc),(9,qS (sB z) (x.length+1) (x.length+1)),(10,iV ((m:Int)-1)),(11,mV g)] ?_)));refine aa e aF (ai (aa e aF (bE ?_)));refine bG _ (CG.loop (fun μ_ Γ w_=>∃ (i:Nat)(u1:List Nat)(cy:Nat)(bo:Nat)(C:Hp),μ_=y.length-i/\Γ=[(4,qS (sB M) ((x.length-y.length)+1) ((x.length-y.length)+1)),(5,sZ),(6,nV y.length),(7,nV (64-nb (y.getD (y.length-1) 0))),(8,qS V y.length vc),(9,qS (sB z) (x.length+1) (x.length+1)),(10,iV ((m:Int)-1)),(11,mV g),(88,nV y.length),(89,nV i),(12,mV cy),(13,mV bo)]/\SS w h w_ C [⟨M,24,(K).flatMap ar⟩,⟨z,24,(u1).flatMap ar⟩] [] [fun C=>SlO 1 ar 0 C Uo zu,fun C=>SlO 1 ar 0 C V p,fun C=>SlO 1 ar 0 C V zv,fun C=>SlO 1 ar 0 C D y,fun C=>SlO 1 ar 0 C A x]/\i<=y.length/\u1.length=x.length+1/\Wd u1/\cy<18446744073709551616/\bo<=1/\am 18446744073709551616 u1+18446744073709551616^(m-1)*(g*am 18446744073709551616 (p.take i))=aD H+18446744073709551616^(m-1+i)*(cy+bo)/\Above u1 H (m-1+p.length+1)) _ ⟨0,H,0,0,zE,rfl,rfl,e.to _ _,JH _,hul,J,oM,oM,(by show am _ H+_=am _ H+_;simp[am]),Above.refl _ _⟩ ?_);rintro _ _ _ ⟨i,u1,cy,bo,zq,d0,rfl,e,hi,hu1,hW1,hcy,hbo,X,bk⟩;have ds:=hW1.get (m-1+i);have hvk:=B.get i;refine aG ?_;cases ze:(decide ((i:Int)<(y.length:Int)))
 .
  have zm:=oF ze;refine lB 90 ze (ai (da (CG.exit ?_)))
  show CG _ _ _ _ _ _ _ _
  refine aG ?_;rw[show i=p.length by omega] at X
  have f3:=hW1.get (m-1+p.length);refine lL e dL (bg 132 (((m:Int)-1)+(y.length:Nat)) (m-1+p.length) ?_);refine lL e dL (bg 136 (((m:Int)-1)+(y.length:Nat)) (m-1+p.length) ?_);refine lX 137 (sB z) (x.length+1) (x.length+1) 1 (m-1+p.length:Nat) (m-1+p.length) rfl (lQ 138 1 u1 ar 1 0 (m-1+p.length) (mV ((u1).getD (m-1+p.length) 0)) e oM (lL e aF ?_));obtain ⟨I,zc,fp,c8,d2,b2⟩:=nQ ((u1).getD (m-1+p.length) 0) cy bo wM wM oM;refine lV 141 (.tuple #[mV I,mV zc]) ?_ (hr:=dZ kR (b2 _));refine lL e [.c,.v (mV I),.v (mV zc)] (lX 144 (sB z) (x.length+1) (x.length+1) 1 (m-1+p.length:Nat) (m-1+p.length) rfl ?_);refine lW 1 u1 ar 1 (m-1+p.length) I e oM (fun _ e=>?_);have zk:((u1).set (m-1+p.length) I).length=(x.length+1):=by rw[Jt];exact hu1
  replace e:=e.to [⟨M,24,(K).flatMap ar⟩,⟨z,24,((u1).set (m-1+p.length) I).flatMap ar⟩] [];refine lL e ac (ai (aG ?_));have hE:=vn oM X (s:=I) (bo':=zc) oM;have Y:Wd ((u1).set (m-1+p.length) I):=hW1.set _ oM;have S:=bk.set (x:=I) (show m-1+p.length<m-1+p.length+1 by omega) oM;refine lL e ac ?_;cases zf:((zc:Int) != (0:Int))
  .
   have zn:=ay zf;refine lB 146 zf (ah (cK (kQ ?_)));have hD_:=AE hn2 rfl B J Y W O Z hG S (by rw[show zc=0 by omega] at hE;exact hE);have hDw:=Y;have hDg:=hgb;have hDu:=hD_.1;have hDe:=hD_.2;refine lL e dL (lX 186 (sB M) ((x.length-y.length)+1) ((x.length-y.length)+1) 1 ((m:Int)-1) (m-1) rfl ?_);refine lW 0 K ar 1 (m-1) g e oM (fun _ e=>?_);have zw:((K).set (m-1) g).length=((x.length-y.length)+1):=by rw[Jt];exact hql
   replace e:=e.to [⟨M,24,((K).set (m-1) g).flatMap ar⟩,⟨z,24,((u1).set (m-1+p.length) I).flatMap ar⟩] [];refine lN (kQ (lL e ac (lV 56 (iV (((m-1:Nat):Int)-1)) ?_ (hr:=rS ((((m:Int)-1)-1)) kR ((dS oM oM).trans oM)))));refine lL e ac (lD ?_);intro a_ ka;refine ⟨_,_,?_,⟨m-1,(u1).set (m-1+p.length) I,(K).set (m-1) g,zq,rfl,rfl,e.to _ _,oM,zk,hDw,zw,(hWq.set _ hDg),hDu,(xg oM (hq0 _ oM) inv hDe),(fun k hk=>by rw[bC oM,if_neg oM];exact hq0 k oM)⟩,ka.to _ kR⟩
   omega
  have zn:=a6 zf;refine lB 146 zf (aj (aa e ac ?_));have hE1:=hE;rw[show zc=1 by omega] at hE1
  have hgp:=D3 hn2 rfl B J Y W O Z hG S hE1;refine lV 148 (mV (g-1)) ?_ (hr:=rU (((g:Int)-(1:Int))) kR (fc g 1 oM oM));refine lL e ac (aE (lL e ac (ai (aa e aF (bE ?_)))));refine bG _ (CG.loop (fun μ_ Γ w_=>∃ (u:Nat)(F:List Nat)(c2:Nat)(C:Hp),μ_=y.length-u/\Γ=[(4,qS (sB M) ((x.length-y.length)+1) ((x.length-y.length)+1)),(5,sZ),(6,nV y.length),(7,nV (64-nb (y.getD (y.length-1) 0))),(8,qS V y.length vc),(9,qS (sB z) (x.length+1) (x.length+1)),(10,iV ((m:Int)-1)),(11,mV (g-1)),(149,nV y.length),(150,nV u),(19,mV c2)]/\SS w h w_ C [⟨M,24,(K).flatMap ar⟩,⟨z,24,(F).flatMap ar⟩] [] [fun C=>SlO 1 ar 0 C Uo zu,fun C=>SlO 1 ar 0 C V p,fun C=>SlO 1 ar 0 C V zv,fun C=>SlO 1 ar 0 C D y,fun C=>SlO 1 ar 0 C A x]/\u<=y.length/\F.length=x.length+1/\Wd F/\c2<=1/\am 18446744073709551616 F+18446744073709551616^(m-1+u)*c2=am 18446744073709551616 ((u1).set (m-1+p.length) I)+18446744073709551616^(m-1)*am 18446744073709551616 (p.take u)/\Above F H (m-1+p.length+1)) _ ⟨0,(u1).set (m-1+p.length) I,0,zq,rfl,rfl,e.to _ _,JH _,zk,Y,oM,(by simp[am]),S⟩ ?_);rintro _ _ _ ⟨u,F,c2,zG,dc,rfl,e,hi2,hu2,hW2,hc2,bb,bl⟩;have b6:=hW2.get (m-1+u);have dp:=B.get u;refine aG ?_;cases zg:(decide ((u:Int)<(y.length:Int)))
  .
   have zo:=oF zg;refine lB 151 zg (ai (da (CG.exit ?_)))
   show CG _ _ _ _ _ _ _ _
   refine kQ (lL e dL (bg 177 (((m:Int)-1)+(y.length:Nat)) (m-1+p.length) ?_));refine lX 178 (sB z) (x.length+1) (x.length+1) 1 (m-1+p.length:Nat) (m-1+p.length) rfl (lQ 179 1 F ar 1 0 (m-1+p.length) (mV ((F).getD (m-1+p.length) 0)) e oM (lL e ac (lV 181 (mV ((((F).getD (m-1+p.length) 0)+c2)%18446744073709551616)) ?_ (hr:=rU (((((F).getD (m-1+p.length) 0:Nat):Int)+(c2:Int))) kR (wt ((F).getD (m-1+p.length) 0) c2)))));refine lX 182 (sB z) (x.length+1) (x.length+1) 1 (m-1+p.length:Nat) (m-1+p.length) rfl (lW 1 F ar 1 (m-1+p.length) ((((F).getD (m-1+p.length) 0)+c2)%18446744073709551616:Nat) e oM (fun _ e=>?_));have zx:((F).set (m-1+p.length) ((((F).getD (m-1+p.length) 0)+c2)%18446744073709551616:Nat)).length=(x.length+1):=by rw[Jt];exact hu2
   replace e:=e.to [⟨M,24,(K).flatMap ar⟩,⟨z,24,((F).set (m-1+p.length) ((((F).getD (m-1+p.length) 0)+c2)%18446744073709551616:Nat)).flatMap ar⟩] [];refine lN (kQ ?_);have bw:u=p.length:=by omega
   rw[bw] at bb
   have b6:=hW2.get (m-1+p.length);have hE3:=uI (s:=(F.getD (m-1+p.length) 0+c2)%18446744073709551616) (c':=(F.getD (m-1+p.length) 0+c2)/18446744073709551616) oM bb (Nat.mod_add_div _ _);have hDw:Wd ((F).set (m-1+p.length) ((((F).getD (m-1+p.length) 0)+c2)%18446744073709551616:Nat)):=hW2.set _ (ua _ kD);obtain ⟨hDu,hDe,hDp⟩:=Ee hn2 rfl B J Y hDw W O Z hG S (bl.set oM oM) hE1 hE3;have hDg:g-1<18446744073709551616:=by omega
   refine lL e dL (lX 186 (sB M) ((x.length-y.length)+1) ((x.length-y.length)+1) 1 ((m:Int)-1) (m-1) rfl ?_);refine lW 0 K ar 1 (m-1) (g-1) e oM (fun _ e=>?_);have zA:((K).set (m-1) (g-1)).length=((x.length-y.length)+1):=by rw[Jt];exact hql
   replace e:=e.to [⟨M,24,((K).set (m-1) (g-1)).flatMap ar⟩,⟨z,24,((F).set (m-1+p.length) ((((F).getD (m-1+p.length) 0)+c2)%18446744073709551616:Nat)).flatMap ar⟩] [];refine lN (kQ (lL e ac (lV 56 (iV (((m-1:Nat):Int)-1)) ?_ (hr:=rS ((((m:Int)-1)-1)) kR ((dS oM oM).trans oM)))));refine lL e ac (lD ?_);intro a_ ka;refine ⟨_,_,?_,⟨m-1,(F).set (m-1+p.length) ((((F).getD (m-1+p.length) 0)+c2)%18446744073709551616:Nat),(K).set (m-1) (g-1),zG,rfl,rfl,e.to _ _,oM,zx,hDw,zA,(hWq.set _ hDg),hDu,(xg oM (hq0 _ oM) inv hDe),(fun k hk=>by rw[bC oM,if_neg oM];exact hq0 k oM)⟩,ka.to _ kR⟩
   omega
  have zo:=oT zg;refine lB 151 zg (ai (ci (cK (cQ (kZ (aa e aF (lN (cR 19 [] mixed e aw ?_))))))));refine eV 0 154 (qS (sB z) (x.length+1) (x.length+1)) (eV 1 155 (iV ((m:Int)-1)) (eV 2 156 (nV u) (iO 3 157 (((m:Int)-1)+(u:Nat)) (m-1+u) (eV 4 158 (qS (sB z) (x.length+1) (x.length+1)) (eV 5 159 (iV ((m:Int)-1)) (eV 6 160 (nV u) (iO 7 161 (((m:Int)-1)+(u:Nat)) (m-1+u) (eX 8 162 (sB z) (x.length+1) (x.length+1) 1 (m-1+u:Nat) (m-1+u) rfl (eQ 9 163 1 F ar 1 0 (m-1+u) (mV ((F).getD (m-1+u) 0)) e oM (eV 10 164 (qS V y.length vc) (eV 11 165 (nV u) (eX 12 166 V y.length vc 1 (u:Nat) u ((e.f.2.1).ok oM) (eH 13 167 (mV (p.getD u 0)) e ((e.f.2.1).el u oM) (eV 14 168 (mV c2) ?_))))))))))))));obtain ⟨Q,zj,hc,fz,fn,b7⟩:=dN ((F).getD (m-1+u) 0) (p.getD u 0) c2 wM wM oM;refine eV 15 169 (.tuple #[mV Q,mV zj]) ?_ (hv:=fun _=>dZ kR (b7 _));refine eV 16 153 (.tuple #[mV Q,mV zj]) (eV 17 170 (mV Q) (eV 18 171 (mV zj) (cG e (fun _ zH e=>tX 19 172 (sB z) (x.length+1) (x.length+1) 1 (m-1+u:Nat) (m-1+u) rfl (tW 20 1 F ar 1 (m-1+u) Q e oM (fun _ e=>?_))))));have zB:((F).set (m-1+u) Q).length=(x.length+1):=by rw[Jt];exact hu2
  replace e:=e.to [⟨M,24,(K).flatMap ar⟩,⟨z,24,((F).set (m-1+u) Q).flatMap ar⟩] [];refine tV 21 19 (mV zj) (tN (kQ (bg 173 ((u:Nat)+1) (u+1) ?_)));refine lL e ac (lD ?_);intro a_ ka;refine ⟨_,_,?_,⟨u+1,(F).set (m-1+u) Q,zj,zH,rfl,rfl,e.to _ _,oM,zB,(hW2.set _ oM),oM,(rX oM bb oM),(bl.set oM oM)⟩,ka.to _ kR⟩
  omega
 have zm:=oT ze;refine lB 90 ze (ai (ci (cK (cQ (kZ (aa e aF (aE (lL e dL (lX 96 V y.length vc 1 (i:Nat) i ((e.f.2.1).ok oM) ?_)))))))));refine lH 97 (mV (p.getD i 0)) e ((e.f.2.1).el i oM) (lC 98 e (li g (p.getD i 0) wM wM _ _ e.g) ?_);rintro _ _ zI e ⟨U,zs,rfl,f1,c7,hb,c6⟩;have b9:=g9 (a:=g) (b:=(p.getD i 0)) wM wM;refine lL e [.c,.v (mV U),.v (mV zs),.c,.c] (aE (lL e aF ?_));obtain ⟨s99,zb,cz,cx,c4,bq⟩:=dN zs cy 0 wM wM oM;refine lV 104 (.tuple #[mV s99,mV zb]) ?_ (hr:=dZ kR (bq _));refine lL e [.c,.v (mV s99),.v (mV zb),.c,.c] (aE (lL e aF (lV 109 (mV (U+zb)) ?_ (hr:=rU (((U:Int)+(zb:Int))) kR (dr U zb oM)))));refine lL e ac (lN (kQ (lL e dL (bg 114 (((m:Int)-1)+(i:Nat)) (m-1+i) ?_))));refine lL e dL (bg 118 (((m:Int)-1)+(i:Nat)) (m-1+i) ?_);refine lX 119 (sB z) (x.length+1) (x.length+1) 1 (m-1+i:Nat) (m-1+i) rfl (lQ 120 1 u1 ar 1 0 (m-1+i) (mV ((u1).getD (m-1+i) 0)) e oM (lL e aF ?_));obtain ⟨L,zi,cm,ch,c3,bp⟩:=nQ ((u1).getD (m-1+i) 0) s99 bo wM wM oM;refine lV 123 (.tuple #[mV L,mV zi]) ?_ (hr:=dZ kR (bp _));refine lL e [.c,.v (mV L),.v (mV zi)] (lX 126 (sB z) (x.length+1) (x.length+1) 1 (m-1+i:Nat) (m-1+i) rfl ?_);refine lW 1 u1 ar 1 (m-1+i) L e oM (fun _ e=>?_);have zp:((u1).set (m-1+i) L).length=(x.length+1):=by rw[Jt];exact hu1
 replace e:=e.to [⟨M,24,(K).flatMap ar⟩,⟨z,24,((u1).set (m-1+i) L).flatMap ar⟩] [];refine lL e ac (lN (bG [(4,qS (sB M) ((x.length-y.length)+1) ((x.length-y.length)+1)),(5,sZ),(6,nV y.length),(7,nV (64-nb (y.getD (y.length-1) 0))),(8,qS V y.length vc),(9,qS (sB z) (x.length+1) (x.length+1)),(10,iV ((m:Int)-1)),(11,mV g),(88,nV y.length),(89,nV i),(12,mV (U+zb)),(13,mV zi)] ?_));refine kQ (bg 127 ((i:Nat)+1) (i+1) ?_);refine lL e ac (lD ?_);intro a_ ka;refine ⟨_,_,?_,⟨i+1,(u1).set (m-1+i) L,(U+zb),zi,zI,rfl,rfl,e.to _ _,oM,zp,(hW1.set _ oM),oM,oM,(rM (t:=s99) oM X oM oM),(bk.set oM oM)⟩,ka.to _ kR⟩
 omega
theorem dm (A:Z9)(c:Nat)(l:List Nat)(m x:Nat)(b:l.length=m)(d:Wd l)(hv:aD l=x)(f:l.length<=1099511627776)(e:l.length<=c)(w:World)(h:Hp)(g:G w h)(a:SlO 1 ar 0 h A l):CV 129 #[.slice A m c] w h (nv x):=by
 subst b hv;exact uL A c l d f e w h g a
theorem FV (a b:Nat)(K:(wds a).length<=1000000000)(F:(wds b).length<=1000000000)(u:a<18446744073709551616)(p:b<18446744073709551616)(w:World)(h:Hp)(g:G w h):CV 195 #[nv a,nv b] w h (nv (a+b)):=by
 have e:=sS g;have I:=tv u;have J:=tv p;refine go Tryz.func195 [(0,nv a),(1,nv b)] rfl (aG (lA 2 26 (nc a) e (fun y w2 S e=>lA 3 26 (nc b) e (fun B Q O e=>lA 4 26 ([uV 0,eS]) e (fun U M V e=>ai (aa e [.v (qP y 1),.o (.string (hi a)) 2 1 1] (lV 14 qT ?_ (hr:=rb kR (iG (eu u))))))))));refine lL e [.c,.v (qP B 1),.o (.string (hi b)) 1 1 1] (lV 18 qT ?_ (hr:=rb kR (iG (eu p))));refine lL e [.v qT] (aj (aa e [.v (pB y),.o (mV (a%18446744073709551616)) 2 0 1,.v (pB B),.o (mV (b%18446744073709551616)) 1 0 1] ?_));obtain ⟨i,j,C,z,D,k⟩:=dN (a%18446744073709551616) (b%18446744073709551616) 0 wM wM oM;refine lV 25 (.tuple #[mV i,mV j]) ?_ (hr:=dZ kR (k _));refine lL e [.c,.v (mV i),.v (mV j),.c,.c] (ai (aa e ac ?_));cases x:((j:Int) == (0:Int))
 .
  have H:=ao x;refine lB 29 x (ah (cK (aa e aF (lR 34 24 2 ([mV i,mV j]) e (fun L _ _ e=>?_)))));replace e:=e.aS (SlO.of_flat (sz:=1) (f:=ar) (d:=0) (l:=[i,j]) (fun _=>rfl) e.f.1);exact aq 35 e (dm (sB L) 2 ([i,j]) 2 ((a+b)) (by first|rfl|assumption|(simp;done)|(simp;omega)|omega) (Dg.cons oM (Dg.one oM)) (by show i+18446744073709551616*(j+18446744073709551616*0)=a+b;omega) sM sM _ _ e.g e.f.1) (fun _ _ e=>lP 0 0 (nc (a+b)) e (fun _ e=>af e [(0,0,2)] (nv (a+b)) rfl))
 have H:=eq_of_beq x;exact lB 29 x (aj (aa e [.c,.v (.agg #[mV i,eS])] (lP 0 0 ([mV i,eS]) e (fun _ e=>af e [(0,0,2)] (.agg #[mV i,eS]) (by rw[show i=a+b by omega];exact jS oM)))))
theorem Fy (a b:Nat)(hla:(wds a).length<=1000000000)(hlb:(wds b).length<=1000000000)(has:18446744073709551616<=a)(hb0:0<b)(hle:(wds b).length<=(wds a).length)(w:World)(h:Hp)(g:G w h):CV 195 #[nv a,nv b] w h (nv (a+b)):=by
 have e:=sS g;refine go Tryz.func195 [(0,nv a),(1,nv b)] rfl (aG (lA 2 26 (nc a) e (fun C w2 h3 e=>lA 3 26 (nc b) e (fun F w5 h6 e=>lA 4 26 ([uV 0,eS]) e (fun D w8 h9 e=>ai (aa e [.v (qP C 1),.o (.string (hi a)) 2 1 1] (lV 14 qF ?_ (hr:=rb kR (g7 (fv has))))))))));refine lL e ac (lG 16 ?_);refine lG 17 (lG 18 (lL e [.v qF] (ah (cK (cQ ?_)))));obtain ⟨L,hK_⟩:∃ L,L=w8.heap.size:=⟨_,rfl⟩;have bd:D<L:=by rw[hK_];exact gi e 0
 have J:F<L:=by rw[hK_];exact gi e 1
 have H:C<L:=by rw[hK_];exact gi e 2
 refine Ay ⟨[],some (L,[])⟩ 0 mixed ?_;have bt:=e.g.size;replace e:=e.drew;have y:=JP hK_;refine zO 0 36 [(2,0,2)] (nv a) rfl y e (fun p hp=>by obtain rfl:=n1.1 hp;exact H) (zO 2 38 [(1,0,2)] (nv b) rfl y e (fun p hp=>by obtain rfl:=n1.1 hp;exact J) (xZ 1 37 (fk a oM oM _ _ e.g) rfl y ?_));rintro _ _ _ u12 y ⟨j,rfl,W,V,b6⟩;obtain ⟨_,e,-,-⟩:=e.take u12 W V;replace e:=e.to [⟨j,24,(wds a).flatMap ar⟩,⟨D,26,[uV 0,eS]⟩,⟨F,26,nc b⟩,⟨C,26,nc a⟩] [];refine xZ 3 39 (fk b oM oM _ _ e.g) rfl y ?_;rintro _ _ _ u16 y ⟨u,rfl,M,X,bl⟩;obtain ⟨zn,e,-,-⟩:=e.take u16 M X;replace e:=e.to [⟨u,24,(wds b).flatMap ar⟩,⟨j,24,(wds a).flatMap ar⟩,⟨D,26,[uV 0,eS]⟩,⟨F,26,nc b⟩,⟨C,26,nc a⟩] [];refine zV 4 7 (qS (sB j) ((wds a).length) ((wds a).length)) (zV 5 8 (qS (sB u) ((wds b).length) ((wds b).length)) (tN (cQ (aa e [.c,.v (nV ((wds a).length)),.c,.v (nV ((wds b).length))] ?_))));have ⟨zk,bb⟩:=dF (p:=(((wds a).length:Nat):Int)<(((wds b).length:Nat):Int)) oM;refine lB 44 zk (ah (cK (aa e ac (ai (aa e [.c,.v (nV ((wds a).length)),.c] (bE ?_))))));refine bG _ (CG.loop (fun μ_ Γ w_=>∃ (i:Nat)(l:List Nat)(x:Nat)(h_:Hp),μ_=(wds a).length-i/\Γ=[(4,pB D),(7,qS (sB j) ((wds a).length) ((wds a).length)),(8,qS (sB u) ((wds b).length) ((wds b).length)),(48,nV ((wds a).length)),(49,nV i),(9,mV x)]/\SS w h w_ h_ [⟨u,24,(wds b).flatMap ar⟩,⟨j,24,(l).flatMap ar⟩,⟨D,26,[uV 0,eS]⟩,⟨F,26,nc b⟩,⟨C,26,nc a⟩] [] []/\i<=(wds a).length/\l.length=(wds a).length/\Wd l/\x<=1/\am 18446744073709551616 l+18446744073709551616^i*x=a+am 18446744073709551616 ((wds b:List Nat).take i)) _ ⟨0,wds a,0,zn,rfl,rfl,e.to _ _,JH _,rfl,Wd.wds _,oM,(by have hx_:am 18446744073709551616 (wds a)=a:=aZ _;rw[hx_];simp[am])⟩ ?_);rintro _ _ _ ⟨i,l,x,zj,b3,rfl,e,hi,Q,Y,hcy,K⟩;have hlk:=Y.get i;have hyk:=(Wd.wds b).get i;refine aG ?_;cases Z:(decide ((i:Int)<(((wds a).length:Nat):Int)))
 .
  have zf:=oF Z;refine lB 50 Z (ai (da (CG.exit ?_)))
  show CG _ _ _ _ _ _ _ _
  refine cQ (aG ?_);have I:=K;rw[I7 (show (wds b).length<=i by first|omega|(simp;done)|(simp;omega))] at I
  rw[show i=l.length by omega] at I
  have hE_:am 18446744073709551616 (wds b)=b:=aZ _;replace I:am 18446744073709551616 l+18446744073709551616^l.length*x=(a+b):=by rw[I,hE_];first|done|omega
  refine lL e ac ?_;cases zb:((x:Int) != (0:Int))
  .
   have zg:=ay zb;refine lB 75 zb (ah (cK (aG ?_)));obtain ⟨_,e,S,br,bw⟩:=e.pub 1;replace e:=(e.to [⟨u,24,(wds b).flatMap ar⟩,⟨D,26,[uV 0,eS]⟩,⟨F,26,nc b⟩,⟨C,26,nc a⟩] []).aS (SlO.of_flat (sz:=1) (f:=ar) (d:=0) (b:=j) (o:=0) (l:=l) (fun _=>rfl) S);exact lL e ac (aq 81 e (dm (sB j) ((wds a).length) (l) ((wds a).length) ((a+b)) (by first|rfl|assumption|(simp;done)|(simp;omega)|omega) (Y) (by rw[show x=0 by omega,z6,ri] at I;exact I) sM sM _ _ e.g e.f.1) (fun _ _ e=>lP 1 0 (nc (a+b)) e (fun _ e=>af e [(1,0,2)] (nv (a+b)) rfl)))
  have zg:=a6 zb;refine lB 75 zb (aj (kQ (lL e aF (lR 78 24 1 ([mV x]) e (fun zo _ _ e=>HC 79 1 ((wds a).length) zo l ar 0 x 8 (uV 0) e e.f.1 oM oM (fun zp zq _ _ e bk=>?_))))));replace e:=e.to [⟨u,24,(wds b).flatMap ar⟩,⟨D,26,[uV 0,eS]⟩,⟨F,26,nc b⟩,⟨C,26,nc a⟩] [];exact lL e ac (aE (lL e ac (aq 81 e (dm zp zq (l++[x]) ((wds a).length+1) ((a+b)) (by first|rfl|assumption|(simp;done)|(simp;omega)|omega) (Dg.append Y (Dg.one oM)) (by show am _ (l++[x])=_;rw[cC];show _+_*(x+_*0)=_;rw[z6,ri];exact I) sM sM _ _ e.g e.f.1) (fun _ _ e=>lP 1 0 (nc (a+b)) e (fun _ e=>af e [(1,0,2)] (nv (a+b)) rfl)))))
 have zf:=oT Z;refine lB 50 Z (ai (ci (cK (cQ (kZ (aa e aF (aE (lL e ac (ai (aa e [.c,.c,.v (nV ((wds b).length))] ?_))))))))));cases zc:(decide ((i:Int)<(((wds b).length:Nat):Int)))
 .
  have zi:=oF zc;refine lB 55 zc (ah (cK (kQ (lL e m4 (lX 65 (sB j) ((wds a).length) ((wds a).length) 1 (i:Nat) i rfl ?_)))));refine lQ 66 1 l ar 1 0 i (mV ((l).getD i 0)) e oM (lL e aF ?_);obtain ⟨B,zd,b2,bm,b5,U⟩:=dN ((l).getD i 0) 0 x wM wM oM;refine lV 69 (.tuple #[mV B,mV zd]) ?_ (hr:=dZ kR (U _));refine lL e [.c,.v (mV B),.v (mV zd)] (lX 72 (sB j) ((wds a).length) ((wds a).length) 1 (i:Nat) i rfl ?_);refine lW 1 l ar 1 i B e oM (fun _ e=>?_);have zl:((l).set i B).length=(wds a).length:=by rw[Jt];exact Q
  replace e:=e.to [⟨u,24,(wds b).flatMap ar⟩,⟨j,24,((l).set i B).flatMap ar⟩,⟨D,26,[uV 0,eS]⟩,⟨F,26,nc b⟩,⟨C,26,nc a⟩] [];refine lL e ac (lN (kQ (bg 73 ((i:Nat)+1) (i+1) ?_)));refine lL e ac (lD ?_);intro a_ ka;refine ⟨_,_,?_,⟨i+1,(l).set i B,zd,zj,rfl,rfl,e.to _ _,oM,zl,(Y.set _ oM),oM,(fS oM K (by first|omega|(have hy0:=cP (l:=(wds b:List Nat)) (k:=i) (by first|omega|(simp;done));omega)))⟩,ka.to _ kR⟩
  omega
 have zi:=oT zc;refine lB 55 zc (aj (kQ (lL e aF (lX 58 (sB u) ((wds b).length) ((wds b).length) 1 (i:Nat) i rfl ?_))));refine lQ 59 0 (wds b) ar 1 0 i (mV ((wds b).getD i 0)) e oM (lL e ac (lN (kQ (lL e m4 (lX 65 (sB j) ((wds a).length) ((wds a).length) 1 (i:Nat) i rfl ?_)))));refine lQ 66 1 l ar 1 0 i (mV ((l).getD i 0)) e oM (lL e aF ?_);obtain ⟨z,ze,bp,b0,bq,O⟩:=dN ((l).getD i 0) ((wds b).getD i 0) x wM wM oM;refine lV 69 (.tuple #[mV z,mV ze]) ?_ (hr:=dZ kR (O _));refine lL e [.c,.v (mV z),.v (mV ze)] (lX 72 (sB j) ((wds a).length) ((wds a).length) 1 (i:Nat) i rfl ?_);refine lW 1 l ar 1 i z e oM (fun _ e=>?_);have zm:((l).set i z).length=(wds a).length:=by rw[Jt];exact Q
 replace e:=e.to [⟨u,24,(wds b).flatMap ar⟩,⟨j,24,((l).set i z).flatMap ar⟩,⟨D,26,[uV 0,eS]⟩,⟨F,26,nc b⟩,⟨C,26,nc a⟩] [];refine lL e ac (lN (kQ (bg 73 ((i:Nat)+1) (i+1) ?_)));refine lL e ac (lD ?_);intro a_ ka;refine ⟨_,_,?_,⟨i+1,(l).set i z,ze,zj,rfl,rfl,e.to _ _,oM,zm,(Y.set _ oM),oM,(fS oM K (by first|omega|(have hy0:=cP (l:=(wds b:List Nat)) (k:=i) (by first|omega|(simp;done));omega)))⟩,ka.to _ kR⟩
 omega
theorem Dj (a b:Nat)(hla:(wds a).length<=1000000000)(hlb:(wds b).length<=1000000000)(ha0:0<a)(hbs:18446744073709551616<=b)(hlt:(wds a).length<(wds b).length)(w:World)(h:Hp)(g:G w h):CV 195 #[nv a,nv b] w h (nv (a+b)):=by
 have e:=sS g;refine go Tryz.func195 [(0,nv a),(1,nv b)] rfl (aG (lA 2 26 (nc a) e (fun C w2 h3 e=>lA 3 26 (nc b) e (fun D w5 h6 e=>lA 4 26 ([uV 0,eS]) e (fun F w8 h9 e=>?_)))));refine lN (CG.join (fun Γ w_=>∃  (h_:Hp),Γ=[(2,pB C),(3,pB D),(4,pB F)]/\SS w h w_ h_ [⟨F,26,[uV 0,eS]⟩,⟨D,26,nc b⟩,⟨C,26,nc a⟩] [] []) ?_ ?_)
 .
  refine aa e [.v (qP C 1),.o (.string (hi a)) 2 1 1] ?_;cases za:(kn (hi a) (⟨#[]⟩))
  .
   have zg:=gt za;refine lB 14 za (lL e ac (lG 16 ?_));refine lG 17 (lG 18 (lL e [.v qF] (ah (CG.skip ?_))));intro a_ H;exact ⟨_,⟨h9,rfl,e.to _ _⟩,H.to _ kR⟩
  have zg:=f7 za;refine lB 14 za (lL e [.c,.v (qP D 1),.o (.string (hi b)) 1 1 1] (lV 18 qF ?_ (hr:=rb kR (g7 (fv hbs)))));refine lL e [.v qF] (ah (CG.skip ?_));intro a_ H;exact ⟨_,⟨h9,rfl,e.to _ _⟩,H.to _ kR⟩
 rintro _ zp ⟨_,rfl,e⟩;refine cQ ?_;obtain ⟨M,hK_⟩:∃ M,M=zp.heap.size:=⟨_,rfl⟩;have bb:F<M:=by rw[hK_];exact gi e 0
 have K:D<M:=by rw[hK_];exact gi e 1
 have I:C<M:=by rw[hK_];exact gi e 2
 refine Ay ⟨[],some (M,[])⟩ 0 mixed ?_;have b3:=e.g.size;replace e:=e.drew;have z:=JP hK_;refine zO 0 36 [(2,0,2)] (nv a) rfl z e (fun p hp=>by obtain rfl:=n1.1 hp;exact I) (zO 2 38 [(1,0,2)] (nv b) rfl z e (fun p hp=>by obtain rfl:=n1.1 hp;exact K) (xZ 1 37 (fk a oM oM _ _ e.g) rfl z ?_));rintro _ _ _ u15 z ⟨u,rfl,X,W,b6⟩;obtain ⟨_,e,-,-⟩:=e.take u15 X W;replace e:=e.to [⟨u,24,(wds a).flatMap ar⟩,⟨F,26,[uV 0,eS]⟩,⟨D,26,nc b⟩,⟨C,26,nc a⟩] [];refine xZ 3 39 (fk b oM oM _ _ e.g) rfl z ?_;rintro _ _ _ u19 z ⟨j,rfl,O,Y,bp⟩;obtain ⟨zq,e,-,-⟩:=e.take u19 O Y;replace e:=e.to [⟨j,24,(wds b).flatMap ar⟩,⟨u,24,(wds a).flatMap ar⟩,⟨F,26,[uV 0,eS]⟩,⟨D,26,nc b⟩,⟨C,26,nc a⟩] [];refine zV 4 7 (qS (sB u) ((wds a).length) ((wds a).length)) (zV 5 8 (qS (sB j) ((wds b).length) ((wds b).length)) (tN (cQ (aa e [.c,.v (nV ((wds a).length)),.c,.v (nV ((wds b).length))] ?_))));have ⟨zm,bd⟩:=dT (p:=(((wds a).length:Nat):Int)<(((wds b).length:Nat):Int)) oM;refine lB 44 zm (aj (kQ (lL e m4 (aE (lL e ac (ai (aa e [.c,.v (nV ((wds b).length)),.c] (bE ?_))))))));refine bG _ (CG.loop (fun μ_ Γ w_=>∃ (i:Nat)(l:List Nat)(x:Nat)(h_:Hp),μ_=(wds b).length-i/\Γ=[(4,pB F),(7,qS (sB j) ((wds b).length) ((wds b).length)),(8,qS (sB u) ((wds a).length) ((wds a).length)),(48,nV ((wds b).length)),(49,nV i),(9,mV x)]/\SS w h w_ h_ [⟨j,24,(l).flatMap ar⟩,⟨u,24,(wds a).flatMap ar⟩,⟨F,26,[uV 0,eS]⟩,⟨D,26,nc b⟩,⟨C,26,nc a⟩] [] []/\i<=(wds b).length/\l.length=(wds b).length/\Wd l/\x<=1/\am 18446744073709551616 l+18446744073709551616^i*x=b+am 18446744073709551616 ((wds a:List Nat).take i)) _ ⟨0,wds b,0,zq,rfl,rfl,e.to _ _,JH _,rfl,Wd.wds _,oM,(by have hx_:am 18446744073709551616 (wds b)=b:=aZ _;rw[hx_];simp[am])⟩ ?_);rintro _ _ _ ⟨i,l,x,zl,bt,rfl,e,hi,S,Z,hcy,L⟩;have hlk:=Z.get i;have hyk:=(Wd.wds a).get i;refine aG ?_;cases zb:(decide ((i:Int)<(((wds b).length:Nat):Int)))
 .
  have zi:=oF zb;refine lB 50 zb (ai (da (CG.exit ?_)))
  show CG _ _ _ _ _ _ _ _
  refine cQ (aG ?_);have J:=L;rw[I7 (show (wds a).length<=i by first|omega|(simp;done)|(simp;omega))] at J
  rw[show i=l.length by omega] at J
  have hE_:am 18446744073709551616 (wds a)=a:=aZ _;replace J:am 18446744073709551616 l+18446744073709551616^l.length*x=(a+b):=by rw[J,hE_];first|done|omega
  refine lL e ac ?_;cases zc:((x:Int) != (0:Int))
  .
   have zj:=ay zc;refine lB 75 zc (ah (cK (aG ?_)));obtain ⟨_,e,U,b2,b5⟩:=e.pub 0;replace e:=(e.to [⟨u,24,(wds a).flatMap ar⟩,⟨F,26,[uV 0,eS]⟩,⟨D,26,nc b⟩,⟨C,26,nc a⟩] []).aS (SlO.of_flat (sz:=1) (f:=ar) (d:=0) (b:=j) (o:=0) (l:=l) (fun _=>rfl) U);exact lL e ac (aq 81 e (dm (sB j) ((wds b).length) (l) ((wds b).length) ((a+b)) (by first|rfl|assumption|(simp;done)|(simp;omega)|omega) (Z) (by rw[show x=0 by omega,z6,ri] at J;exact J) sM sM _ _ e.g e.f.1) (fun _ _ e=>lP 1 0 (nc (a+b)) e (fun _ e=>af e [(1,0,2)] (nv (a+b)) rfl)))
  have zj:=a6 zc;refine lB 75 zc (aj (kQ (lL e aF (lR 78 24 1 ([mV x]) e (fun zr _ _ e=>HC 79 0 ((wds b).length) zr l ar 0 x 8 (uV 0) e e.f.1 oM oM (fun zs zt _ _ e bk=>?_))))));replace e:=e.to [⟨u,24,(wds a).flatMap ar⟩,⟨F,26,[uV 0,eS]⟩,⟨D,26,nc b⟩,⟨C,26,nc a⟩] [];exact lL e ac (aE (lL e ac (aq 81 e (dm zs zt (l++[x]) ((wds b).length+1) ((a+b)) (by first|rfl|assumption|(simp;done)|(simp;omega)|omega) (Dg.append Z (Dg.one oM)) (by show am _ (l++[x])=_;rw[cC];show _+_*(x+_*0)=_;rw[z6,ri];exact J) sM sM _ _ e.g e.f.1) (fun _ _ e=>lP 1 0 (nc (a+b)) e (fun _ e=>af e [(1,0,2)] (nv (a+b)) rfl)))))
 have zi:=oT zb;refine lB 50 zb (ai (ci (cK (cQ (kZ (aa e aF (aE (lL e ac (ai (aa e [.c,.c,.v (nV ((wds a).length))] ?_))))))))));cases zd:(decide ((i:Int)<(((wds a).length:Nat):Int)))
 .
  have zk:=oF zd;refine lB 55 zd (ah (cK (kQ (lL e m4 (lX 65 (sB j) ((wds b).length) ((wds b).length) 1 (i:Nat) i rfl ?_)))));refine lQ 66 0 l ar 1 0 i (mV ((l).getD i 0)) e oM (lL e aF ?_);obtain ⟨y,ze,b0,bq,bm,V⟩:=dN ((l).getD i 0) 0 x wM wM oM;refine lV 69 (.tuple #[mV y,mV ze]) ?_ (hr:=dZ kR (V _));refine lL e [.c,.v (mV y),.v (mV ze)] (lX 72 (sB j) ((wds b).length) ((wds b).length) 1 (i:Nat) i rfl ?_);refine lW 0 l ar 1 i y e oM (fun _ e=>?_);have zn:((l).set i y).length=(wds b).length:=by rw[Jt];exact S
  replace e:=e.to [⟨j,24,((l).set i y).flatMap ar⟩,⟨u,24,(wds a).flatMap ar⟩,⟨F,26,[uV 0,eS]⟩,⟨D,26,nc b⟩,⟨C,26,nc a⟩] [];refine lL e ac (lN (kQ (bg 73 ((i:Nat)+1) (i+1) ?_)));refine lL e ac (lD ?_);intro a_ H;refine ⟨_,_,?_,⟨i+1,(l).set i y,ze,zl,rfl,rfl,e.to _ _,oM,zn,(Z.set _ oM),oM,(fS oM L (by first|omega|(have hy0:=cP (l:=(wds a:List Nat)) (k:=i) (by first|omega|(simp;done));omega)))⟩,H.to _ kR⟩
  omega
 have zk:=oT zd;refine lB 55 zd (aj (kQ (lL e aF (lX 58 (sB u) ((wds a).length) ((wds a).length) 1 (i:Nat) i rfl ?_))));refine lQ 59 1 (wds a) ar 1 0 i (mV ((wds a).getD i 0)) e oM (lL e ac (lN (kQ (lL e m4 (lX 65 (sB j) ((wds b).length) ((wds b).length) 1 (i:Nat) i rfl ?_)))));refine lQ 66 0 l ar 1 0 i (mV ((l).getD i 0)) e oM (lL e aF ?_);obtain ⟨B,zf,br,bl,bw,Q⟩:=dN ((l).getD i 0) ((wds a).getD i 0) x wM wM oM;refine lV 69 (.tuple #[mV B,mV zf]) ?_ (hr:=dZ kR (Q _));refine lL e [.c,.v (mV B),.v (mV zf)] (lX 72 (sB j) ((wds b).length) ((wds b).length) 1 (i:Nat) i rfl ?_);refine lW 0 l ar 1 i B e oM (fun _ e=>?_);have zo:((l).set i B).length=(wds b).length:=by rw[Jt];exact S
 replace e:=e.to [⟨j,24,((l).set i B).flatMap ar⟩,⟨u,24,(wds a).flatMap ar⟩,⟨F,26,[uV 0,eS]⟩,⟨D,26,nc b⟩,⟨C,26,nc a⟩] [];refine lL e ac (lN (kQ (bg 73 ((i:Nat)+1) (i+1) ?_)));refine lL e ac (lD ?_);intro a_ H;refine ⟨_,_,?_,⟨i+1,(l).set i B,zf,zl,rfl,rfl,e.to _ _,oM,zo,(Z.set _ oM),oM,(fS oM L (by first|omega|(have hy0:=cP (l:=(wds a:List Nat)) (k:=i) (by first|omega|(simp;done));omega)))⟩,H.to _ kR⟩
 omega
theorem Ex (b:Nat)(hl:(wds b).length<=1000000000)(L:18446744073709551616<=b)(w:World)(h:Hp)(g:G w h):CV 195 #[nv 0,nv b] w h (nv (0+b)):=by
 have a:=sS g;have h2l:=cA L;refine go Tryz.func195 [(0,nv 0),(1,nv b)] rfl (aG (lA 2 26 (nc 0) a (fun z w2 h3 a=>lA 3 26 (nc b) a (fun B w5 h6 a=>lA 4 26 ([uV 0,eS]) a (fun F w8 h9 a=>ai (aa a [.v (qP z 1),.o (.string (hi 0)) 2 1 1] (lV 14 qT ?_ (hr:=rb kR (iG rfl)))))))));refine lL a [.c,.v (qP B 1),.o (.string (hi b)) 1 1 1] (lV 18 qF ?_ (hr:=rb kR (g7 (fv L))));refine lL a [.v qF] (ah (cK (cQ ?_)));obtain ⟨H,hK_⟩:∃ H,H=w8.heap.size:=⟨_,rfl⟩;have V:F<H:=by rw[hK_];exact gi a 0
 have y:B<H:=by rw[hK_];exact gi a 1
 have C:z<H:=by rw[hK_];exact gi a 2
 refine Ay ⟨[],some (H,[])⟩ 0 mixed ?_;have bq:=a.g.size;replace a:=a.drew;have x:=JP hK_;refine zO 0 36 [(2,0,2)] (nv 0) rfl x a (fun p X=>by obtain rfl:=n1.1 X;exact C) (zO 2 38 [(1,0,2)] (nv b) rfl x a (fun p X=>by obtain rfl:=n1.1 X;exact y) (xZ 1 37 (jj _ _ a.g) rfl x ?_));rintro _ _ _ Z x rfl;replace a:=a.step Z;refine xZ 3 39 (fk b oM oM _ _ a.g) rfl x ?_;rintro _ _ _ u15 x ⟨e,rfl,J,I,bw⟩;obtain ⟨zj,a,-,-⟩:=a.take u15 J I;replace a:=a.to [⟨e,24,(wds b).flatMap ar⟩,⟨F,26,[uV 0,eS]⟩,⟨B,26,nc b⟩,⟨z,26,nc 0⟩] [];refine zV 4 7 (sZ) (zV 5 8 (qS (sB e) ((wds b).length) ((wds b).length)) (tN (cQ (aa a [.c,.v (iV 0),.c,.v (nV ((wds b).length))] ?_))));have ⟨zf,bk⟩:=dT (p:=(0:Int)<(((wds b).length:Nat):Int)) oM;refine lB 44 zf (aj (kQ (lL a m4 (aE (lL a ac (ai (aa a [.c,.v (nV ((wds b).length)),.c] (bE ?_))))))));refine bG _ (CG.loop (fun Y Γ w_=>∃ (i:Nat)(l:List Nat)(u:Nat)(h_:Hp),Y=(wds b).length-i/\Γ=[(4,pB F),(7,qS (sB e) ((wds b).length) ((wds b).length)),(8,sZ),(48,nV ((wds b).length)),(49,nV i),(9,mV u)]/\SS w h w_ h_ [⟨e,24,(l).flatMap ar⟩,⟨F,26,[uV 0,eS]⟩,⟨B,26,nc b⟩,⟨z,26,nc 0⟩] [] []/\i<=(wds b).length/\l.length=(wds b).length/\Wd l/\u<=1/\am 18446744073709551616 l+18446744073709551616^i*u=b+am 18446744073709551616 (([]:List Nat).take i)) _ ⟨0,wds b,0,zj,rfl,rfl,a.to _ _,JH _,rfl,Wd.wds _,oM,(by have hx_:am 18446744073709551616 (wds b)=b:=aZ _;rw[hx_];simp[am])⟩ ?_);rintro _ _ _ ⟨i,l,u,zk,br,rfl,a,hi,W,U,hcy,M⟩;have hlk:=U.get i;have hyk:=Wd.get (l:=[]) Dg.nil i;refine aG ?_;cases S:(decide ((i:Int)<(((wds b).length:Nat):Int)))
 .
  have zd:=oF S;refine lB 50 S (ai (da (CG.exit ?_)))
  show CG _ _ _ _ _ _ _ _
  refine cQ (aG ?_);have D:=M;rw[I7 (show ([]).length<=i by first|omega|(simp;done)|(simp;omega))] at D
  rw[show i=l.length by omega] at D
  have hE_:([]:List Nat)=[]:=rfl;replace D:am 18446744073709551616 l+18446744073709551616^l.length*u=(0+b):=by rw[D];simp[am]
  refine lL a ac ?_;cases Q:((u:Int) != (0:Int))
  .
   have ze:=ay Q;refine lB 75 Q (ah (cK (aG ?_)));obtain ⟨_,a,O,b0,bl⟩:=a.pub 0;replace a:=(a.to [⟨F,26,[uV 0,eS]⟩,⟨B,26,nc b⟩,⟨z,26,nc 0⟩] []).aS (SlO.of_flat (sz:=1) (f:=ar) (d:=0) (b:=e) (o:=0) (l:=l) (fun _=>rfl) O);exact lL a ac (aq 81 a (dm (sB e) ((wds b).length) (l) ((wds b).length) ((0+b)) (by first|rfl|assumption|(simp;done)|(simp;omega)|omega) (U) (by rw[show u=0 by omega,z6,ri] at D;exact D) sM sM _ _ a.g a.f.1) (fun _ _ a=>lP 0 0 (nc (0+b)) a (fun _ a=>af a [(0,0,2)] (nv (0+b)) rfl)))
  have ze:=a6 Q;refine lB 75 Q (aj (kQ (lL a aF (lR 78 24 1 ([mV u]) a (fun zl _ _ a=>HC 79 0 ((wds b).length) zl l ar 0 u 8 (uV 0) a a.f.1 oM oM (fun zm zn _ _ a bd=>?_))))));replace a:=a.to [⟨F,26,[uV 0,eS]⟩,⟨B,26,nc b⟩,⟨z,26,nc 0⟩] [];exact lL a ac (aE (lL a ac (aq 81 a (dm zm zn (l++[u]) ((wds b).length+1) ((0+b)) (by first|rfl|assumption|(simp;done)|(simp;omega)|omega) (Dg.append U (Dg.one oM)) (by show am _ (l++[u])=_;rw[cC];show _+_*(u+_*0)=_;rw[z6,ri];exact D) sM sM _ _ a.g a.f.1) (fun _ _ a=>lP 0 0 (nc (0+b)) a (fun _ a=>af a [(0,0,2)] (nv (0+b)) rfl)))))
 have zd:=oT S;refine lB 50 S (ai (ci (cK (cQ (kZ (aa a aF (aE (lL a ac (ai (aa a [.c,.c,.v (iV 0)] ?_))))))))));have ⟨zg,bb⟩:=dF (p:=(i:Int)<(0:Int)) oM;refine lB 55 zg (ah (cK (kQ (lL a m4 (lX 65 (sB e) ((wds b).length) ((wds b).length) 1 (i:Nat) i rfl ?_)))));refine lQ 66 0 l ar 1 0 i (mV ((l).getD i 0)) a oM (lL a aF ?_);obtain ⟨j,zc,bp,bt,bm,K⟩:=dN ((l).getD i 0) 0 u wM wM oM;refine lV 69 (.tuple #[mV j,mV zc]) ?_ (hr:=dZ kR (K _));refine lL a [.c,.v (mV j),.v (mV zc)] (lX 72 (sB e) ((wds b).length) ((wds b).length) 1 (i:Nat) i rfl ?_);refine lW 0 l ar 1 i j a oM (fun _ a=>?_);have zi:((l).set i j).length=(wds b).length:=by rw[Jt];exact W
 replace a:=a.to [⟨e,24,((l).set i j).flatMap ar⟩,⟨F,26,[uV 0,eS]⟩,⟨B,26,nc b⟩,⟨z,26,nc 0⟩] [];refine lL a ac (lN (kQ (bg 73 ((i:Nat)+1) (i+1) ?_)));refine lL a ac (lD ?_);intro a_ ka;refine ⟨_,_,?_,⟨i+1,(l).set i j,zc,zk,rfl,rfl,a.to _ _,oM,zi,(U.set _ oM),oM,(fS oM M (by first|omega|(have hy0:=cP (l:=([]:List Nat)) (k:=i) (by first|omega|(simp;done));omega)))⟩,ka.to _ kR⟩
 omega
theorem E1 (a:Nat)(hl:(wds a).length<=1000000000)(O:18446744073709551616<=a)(w:World)(h:Hp)(g:G w h):CV 195 #[nv a,nv 0] w h (nv (a+0)):=by
 have e:=sS g;have h2l:=cA O;refine go Tryz.func195 [(0,nv a),(1,nv 0)] rfl (aG (lA 2 26 (nc a) e (fun B w2 h3 e=>lA 3 26 (nc 0) e (fun H w5 h6 e=>lA 4 26 ([uV 0,eS]) e (fun F w8 h9 e=>ai (aa e [.v (qP B 1),.o (.string (hi a)) 2 1 1] (lV 14 qF ?_ (hr:=rb kR (g7 (fv O))))))))));refine lL e ac (lG 16 ?_);refine lG 17 (lG 18 (lL e [.v qF] (ah (cK (cQ ?_)))));obtain ⟨I,hK_⟩:∃ I,I=w8.heap.size:=⟨_,rfl⟩;have W:F<I:=by rw[hK_];exact gi e 0
 have z:H<I:=by rw[hK_];exact gi e 1
 have C:B<I:=by rw[hK_];exact gi e 2
 refine Ay ⟨[],some (I,[])⟩ 0 mixed ?_;have bq:=e.g.size;replace e:=e.drew;have y:=JP hK_;refine zO 0 36 [(2,0,2)] (nv a) rfl y e (fun p Y=>by obtain rfl:=n1.1 Y;exact C) (zO 2 38 [(1,0,2)] (nv 0) rfl y e (fun p Y=>by obtain rfl:=n1.1 Y;exact z) (xZ 1 37 (fk a oM oM _ _ e.g) rfl y ?_));rintro _ _ _ u12 y ⟨j,rfl,K,J,bw⟩;obtain ⟨_,e,-,-⟩:=e.take u12 K J;replace e:=e.to [⟨j,24,(wds a).flatMap ar⟩,⟨F,26,[uV 0,eS]⟩,⟨H,26,nc 0⟩,⟨B,26,nc a⟩] [];refine xZ 3 39 (jj _ _ e.g) rfl y ?_;rintro _ _ zj u16 y rfl;replace e:=e.step u16;refine zV 4 7 (qS (sB j) ((wds a).length) ((wds a).length)) (zV 5 8 (sZ) (tN (cQ (aa e [.c,.v (nV ((wds a).length)),.c,.v (iV 0)] ?_))));have ⟨zf,bk⟩:=dF (p:=(((wds a).length:Nat):Int)<(0:Int)) oM;refine lB 44 zf (ah (cK (aa e ac (ai (aa e [.c,.v (nV ((wds a).length)),.c] (bE ?_))))));refine bG _ (CG.loop (fun Z Γ w_=>∃ (i:Nat)(l:List Nat)(x:Nat)(h_:Hp),Z=(wds a).length-i/\Γ=[(4,pB F),(7,qS (sB j) ((wds a).length) ((wds a).length)),(8,sZ),(48,nV ((wds a).length)),(49,nV i),(9,mV x)]/\SS w h w_ h_ [⟨j,24,(l).flatMap ar⟩,⟨F,26,[uV 0,eS]⟩,⟨H,26,nc 0⟩,⟨B,26,nc a⟩] [] []/\i<=(wds a).length/\l.length=(wds a).length/\Wd l/\x<=1/\am 18446744073709551616 l+18446744073709551616^i*x=a+am 18446744073709551616 (([]:List Nat).take i)) _ ⟨0,wds a,0,zj,rfl,rfl,e.to _ _,JH _,rfl,Wd.wds _,oM,(by have hx_:am 18446744073709551616 (wds a)=a:=aZ _;rw[hx_];simp[am])⟩ ?_);rintro _ _ _ ⟨i,l,x,zk,br,rfl,e,hi,X,V,hcy,M⟩;have hlk:=V.get i;have hyk:=Wd.get (l:=[]) Dg.nil i;refine aG ?_;cases U:(decide ((i:Int)<(((wds a).length:Nat):Int)))
 .
  have zd:=oF U;refine lB 50 U (ai (da (CG.exit ?_)))
  show CG _ _ _ _ _ _ _ _
  refine cQ (aG ?_);have D:=M;rw[I7 (show ([]).length<=i by first|omega|(simp;done)|(simp;omega))] at D
  rw[show i=l.length by omega] at D
  have hE_:([]:List Nat)=[]:=rfl;replace D:am 18446744073709551616 l+18446744073709551616^l.length*x=(a+0):=by rw[D];simp[am]
  refine lL e ac ?_;cases S:((x:Int) != (0:Int))
  .
   have ze:=ay S;refine lB 75 S (ah (cK (aG ?_)));obtain ⟨_,e,Q,b0,bl⟩:=e.pub 0;replace e:=(e.to [⟨F,26,[uV 0,eS]⟩,⟨H,26,nc 0⟩,⟨B,26,nc a⟩] []).aS (SlO.of_flat (sz:=1) (f:=ar) (d:=0) (b:=j) (o:=0) (l:=l) (fun _=>rfl) Q);exact lL e ac (aq 81 e (dm (sB j) ((wds a).length) (l) ((wds a).length) ((a+0)) (by first|rfl|assumption|(simp;done)|(simp;omega)|omega) (V) (by rw[show x=0 by omega,z6,ri] at D;exact D) sM sM _ _ e.g e.f.1) (fun _ _ e=>lP 0 0 (nc (a+0)) e (fun _ e=>af e [(0,0,2)] (nv (a+0)) rfl)))
  have ze:=a6 S;refine lB 75 S (aj (kQ (lL e aF (lR 78 24 1 ([mV x]) e (fun zl _ _ e=>HC 79 0 ((wds a).length) zl l ar 0 x 8 (uV 0) e e.f.1 oM oM (fun zm zn _ _ e bd=>?_))))));replace e:=e.to [⟨F,26,[uV 0,eS]⟩,⟨H,26,nc 0⟩,⟨B,26,nc a⟩] [];exact lL e ac (aE (lL e ac (aq 81 e (dm zm zn (l++[x]) ((wds a).length+1) ((a+0)) (by first|rfl|assumption|(simp;done)|(simp;omega)|omega) (Dg.append V (Dg.one oM)) (by show am _ (l++[x])=_;rw[cC];show _+_*(x+_*0)=_;rw[z6,ri];exact D) sM sM _ _ e.g e.f.1) (fun _ _ e=>lP 0 0 (nc (a+0)) e (fun _ e=>af e [(0,0,2)] (nv (a+0)) rfl)))))
 have zd:=oT U;refine lB 50 U (ai (ci (cK (cQ (kZ (aa e aF (aE (lL e ac (ai (aa e [.c,.c,.v (iV 0)] ?_))))))))));have ⟨zg,bb⟩:=dF (p:=(i:Int)<(0:Int)) oM;refine lB 55 zg (ah (cK (kQ (lL e m4 (lX 65 (sB j) ((wds a).length) ((wds a).length) 1 (i:Nat) i rfl ?_)))));refine lQ 66 0 l ar 1 0 i (mV ((l).getD i 0)) e oM (lL e aF ?_);obtain ⟨u,zc,bp,bt,bm,L⟩:=dN ((l).getD i 0) 0 x wM wM oM;refine lV 69 (.tuple #[mV u,mV zc]) ?_ (hr:=dZ kR (L _));refine lL e [.c,.v (mV u),.v (mV zc)] (lX 72 (sB j) ((wds a).length) ((wds a).length) 1 (i:Nat) i rfl ?_);refine lW 0 l ar 1 i u e oM (fun _ e=>?_);have zi:((l).set i u).length=(wds a).length:=by rw[Jt];exact X
 replace e:=e.to [⟨j,24,((l).set i u).flatMap ar⟩,⟨F,26,[uV 0,eS]⟩,⟨H,26,nc 0⟩,⟨B,26,nc a⟩] [];refine lL e ac (lN (kQ (bg 73 ((i:Nat)+1) (i+1) ?_)));refine lL e ac (lD ?_);intro a_ ka;refine ⟨_,_,?_,⟨i+1,(l).set i u,zc,zk,rfl,rfl,e.to _ _,oM,zi,(V.set _ oM),oM,(fS oM M (by first|omega|(have hy0:=cP (l:=([]:List Nat)) (k:=i) (by first|omega|(simp;done));omega)))⟩,ka.to _ kR⟩
 omega
theorem CI (a b:Nat)(c:(wds a).length<=1000000000)(d:(wds b).length<=1000000000)(w:World)(h:Hp)(g:G w h):CV 195 #[nv a,nv b] w h (nv (a+b)):=by
 rcases co a 18446744073709551616 with h1|h1
 ·rcases co b 18446744073709551616 with h2|h2
  ·exact FV a b c d h1 h2 w h g
  ·rcases va a with h3|h3
   ·subst h3;exact Ex b d h2 w h g
   ·exact Dj a b c d h3 h2 (by have:=cA h2;have:=(ft (n:=a)).2 h1;omega) w h g
 ·rcases va b with h3|h3
  ·subst h3;exact E1 a c h1 w h g
  ·rcases co (wds a).length (wds b).length with h4|h4
   ·exact Dj a b c d oM (by have:=cA h1;rcases co b 18446744073709551616 with h5|h5;(have:=(ft (n:=b)).2 h5;omega);exact h5) h4 w h g
   ·exact Fy a b c d h1 h3 h4 w h g
theorem AW {l:List Nat}{a b d:Nat}(f:Wd l)(c:am 18446744073709551616 l+b=a+18446744073709551616^l.length*d)(e:b<=a)(i:d<=1):aD l=a-b:=by
 have h1:=bV f
 have:d=0:=by
  rcases va d with h|h
  ·exact h
  ·have:d=1:=by omega
   subst this;rw[HA] at c
   omega
 subst this;rw[z6,ri] at c
 show am _ l=_
 omega
theorem Ct {a b q r:Nat}(h:a=b*q+r)(hr:r<b):q=a/b/\r=a%b:=by
 subst h;rw[Nat.mul_add_div oM,y9 hr,Nat.mul_add_mod,tv hr];simp
theorem fG (n:Nat)(e:(wds n).length<=1000000000)(w:World)(h:Hp)(g:G w h):CR 112 #[nv n] w h (fun v h1=>∃ A c,v=.slice A (wds n).length c/\(wds n).length<=c/\SlO 1 ar 0 h1 A (wds n)):=by
 rcases va n with h0|h0
 ·subst h0
  refine (jj w h g).mono ?_;rintro _ w' ⟨_,a,rfl,u,rfl⟩;exact ⟨_,a,rfl,u,none,0,rfl,nR _,SlO.nil⟩
 ·refine (fk n h0 e w h g).mono ?_
  rintro _ w' ⟨_,a,rfl,u,b,rfl,_,_,d⟩;exact ⟨_,a,rfl,u,_,_,rfl,nR _,d⟩
theorem FP (a b:Nat)(L:(wds a).length<=1000000000)(J:(wds b).length<=1000000000)(u:a<18446744073709551616)(p:b<18446744073709551616)(w:World)(h:Hp)(g:G w h):CV 194 #[nv a,nv b] w h (nv (a*b)):=by
 have e:=sS g;have z:=tv u;have B:=tv p;refine go Tryz.func194 [(0,nv a),(1,nv b)] rfl (aG (lA 2 26 (nc a) e (fun C w2 U e=>lA 3 26 (nc b) e (fun F S Q e=>lA 4 26 ([uV 0,eS]) e (fun V O W e=>ai (aa e [.v (qP C 1),.o (.string (hi a)) 2 1 1] (lV 9 qT ?_ (hr:=rb kR (iG (eu u))))))))));refine lL e [.c,.v (qP F 1),.o (.string (hi b)) 1 1 1] (lV 13 qT ?_ (hr:=rb kR (iG (eu p))));refine lL e [.v qT] (aj (aa e [.v (pB C),.o (mV (a%18446744073709551616)) 2 0 1,.v (pB F),.o (mV (b%18446744073709551616)) 1 0 1] (lC 20 e (li (a%18446744073709551616) (b%18446744073709551616) wM wM _ _ e.g) ?_)));rintro _ _ _ e ⟨i,j,rfl,k,D,H,I⟩;have y:=g9 (a:=(a%18446744073709551616)) (b:=(b%18446744073709551616)) wM wM;refine lL e [.c,.v (mV i),.v (mV j),.c,.c] (ai (aG ?_));rw[z,B] at k
 refine lL e ac ?_;cases x:((i:Int) == (0:Int))
 .
  have K:=ao x;refine lB 24 x (ah (cK (aa e aF (lR 29 24 2 ([mV j,mV i]) e (fun M _ _ e=>?_)))));replace e:=e.aS (SlO.of_flat (sz:=1) (f:=ar) (d:=0) (l:=[j,i]) (fun _=>rfl) e.f.1);exact aq 30 e (dm (sB M) 2 ([j,i]) 2 ((a*b)) (by first|rfl|assumption|(simp;done)|(simp;omega)|omega) (Dg.cons oM (Dg.one oM)) (by show j+18446744073709551616*(i+18446744073709551616*0)=a*b;omega) sM sM _ _ e.g e.f.1) (fun _ _ e=>lP 0 0 (nc (a*b)) e (fun _ e=>af e [(0,0,2)] (nv (a*b)) rfl))
 have K:=eq_of_beq x;exact lB 24 x (aj (aa e [.c,.v (.agg #[mV j,eS])] (lP 0 0 ([mV j,eS]) e (fun _ e=>af e [(0,0,2)] (.agg #[mV j,eS]) (by rw[show j=a*b by omega];exact jS oM)))))
theorem G9 (a b:Nat)(J:(wds a).length<=1000000000)(F:(wds b).length<=1000000000)(u:18446744073709551616<=a)(w:World)(h:Hp)(g:G w h):CV 194 #[nv a,nv b] w h (nv (a*b)):=by
 have c:=sS g;refine go Tryz.func194 [(0,nv a),(1,nv b)] rfl (aG (lA 2 26 (nc a) c (fun D w2 U c=>lA 3 26 (nc b) c (fun O S Q c=>lA 4 26 ([uV 0,eS]) c (fun V M W c=>ai (aa c [.v (qP D 1),.o (.string (hi a)) 2 1 1] (lV 9 qF ?_ (hr:=rb kR (g7 (fv u))))))))));refine lL c ac (lG 11 ?_);refine lG 12 (lG 13 (lL c [.v qF] (ah (cK (cQ (cR 6 [] mixed c aw ?_))))));refine eO 0 31 [(2,0,2)] (nv a) c (eO 2 33 [(1,0,2)] (nv b) c (eC 1 32 c (fun _ _ c=>fG a oM _ _ c.g) ?_));rintro _ _ _ _ _ c ⟨k,p,rfl,B,l⟩;replace c:=c.aS l;refine eC 3 34 c (fun _ _ c=>fG b oM _ _ c.g) ?_;rintro _ _ _ _ _ c ⟨d,x,rfl,y,j⟩;replace c:=c.aS j;refine eC 4 35 c (fun _ _ c=>CK k p (wds a) d x (wds b) (Wd.wds a) (Wd.wds b) oM oM _ _ c.g c.f.2.1 c.f.1) ?_;rintro _ _ _ _ _ c ⟨L,K,z,rfl,I,H,i,e,C⟩;replace c:=c.aS C;exact aK 5 36 c (fun _ _ c=>dm L K (z) z.length ((a*b)) (by first|rfl|assumption|(simp;done)|(simp;omega)|omega) (i) (e.trans (by rw[aZ,aZ])) sM sM _ _ c.g c.f.1) (fun _ _ c=>cG c (fun _ _ c=>tP 6 0 0 (nc (a*b)) c (fun _ c=>tN (kX (c.ret [(0,0,2)] (nv (a*b)) rfl)))))
theorem F9 (a b:Nat)(M:(wds a).length<=1000000000)(I:(wds b).length<=1000000000)(y:a<18446744073709551616)(l:18446744073709551616<=b)(w:World)(h:Hp)(g:G w h):CV 194 #[nv a,nv b] w h (nv (a*b)):=by
 have d:=sS g;refine go Tryz.func194 [(0,nv a),(1,nv b)] rfl (aG (lA 2 26 (nc a) d (fun H w2 W d=>lA 3 26 (nc b) d (fun J V U d=>lA 4 26 ([uV 0,eS]) d (fun X S Y d=>ai (aa d [.v (qP H 1),.o (.string (hi a)) 2 1 1] (lV 9 qT ?_ (hr:=rb kR (iG (eu y))))))))));refine lL d [.c,.v (qP J 1),.o (.string (hi b)) 1 1 1] (lV 13 qF ?_ (hr:=rb kR (g7 (fv l))));refine lL d [.v qF] (ah (cK (cQ (cR 6 [] mixed d aw ?_))));refine eO 0 31 [(2,0,2)] (nv a) d (eO 2 33 [(1,0,2)] (nv b) d (eC 1 32 d (fun _ _ d=>fG a oM _ _ d.g) ?_));rintro _ _ _ _ _ d ⟨p,x,rfl,D,u⟩;replace d:=d.aS u;refine eC 3 34 d (fun _ _ d=>fG b oM _ _ d.g) ?_;rintro _ _ _ _ _ d ⟨e,z,rfl,B,k⟩;replace d:=d.aS k;refine eC 4 35 d (fun _ _ d=>CK p x (wds a) e z (wds b) (Wd.wds a) (Wd.wds b) oM oM _ _ d.g d.f.2.1 d.f.1) ?_;rintro _ _ _ _ _ d ⟨Q,O,C,rfl,L,K,j,i,F⟩;replace d:=d.aS F;exact aK 5 36 d (fun _ _ d=>dm Q O (C) C.length ((a*b)) (by first|rfl|assumption|(simp;done)|(simp;omega)|omega) (j) (i.trans (by rw[aZ,aZ])) sM sM _ _ d.g d.f.1) (fun _ _ d=>cG d (fun _ _ d=>tP 6 0 0 (nc (a*b)) d (fun _ d=>tN (kX (d.ret [(0,0,2)] (nv (a*b)) rfl)))))
theorem n8 (a b:Nat)(c:(wds a).length<=1000000000)(d:(wds b).length<=1000000000)(w:World)(h:Hp)(g:G w h):CV 194 #[nv a,nv b] w h (nv (a*b)):=by
 rcases co a 18446744073709551616 with h1|h1
 ·rcases co b 18446744073709551616 with h2|h2
  ·exact FP a b c d h1 h2 w h g
  ·exact F9 a b c d h1 h2 w h g
 ·exact G9 a b c d h1 w h g
theorem C7 (a b:Nat)(M:0<b)(Q:(wds a).length<=1000000000)(D:(wds b).length<=1000000000)(z:a<18446744073709551616)(l:b<18446744073709551616)(w:World)(h:Hp)(g:G w h):CV 233 #[nv a,nv b] w h (.tuple #[nv (a/b),nv (a%b),.bool true]):=by
 have d:=sS g;have J:=(cl M).2.2;have K:=tv l;refine go Tryz.func233 [(0,nv a),(1,nv b)] rfl (aG (lA 2 26 (nc a) d (fun C w2 X d=>lA 3 26 (nc b) d (fun F W V d=>lA 4 26 ([uV 0,eS]) d (fun S U Y d=>lA 5 26 ([uV 0,eS]) d (fun O _ _ d=>lL d ac (ai (aa d [.o (nv b) 2 0 2] (aq 12 d (eE b D _ _ d.g) (fun _ _ d=>?_))))))))));have L:(((nb b:Nat):Int) == (0:Int))=false:=gI oM;have I:=ao L;refine lB 13 L (ah (cK (cQ (aa d [.v (qP C 1),.o (.string (hi a)) 3 1 1] (lV 18 qT ?_ (hr:=rb kR (iG (eu z))))))));refine lL d [.c,.v (qP F 1),.o (.string (hi b)) 2 1 1] (lV 22 qT ?_ (hr:=rb kR (iG (eu l))));refine lL d [.v qT] (aj (cQ ?_));have B:=d;refine uH 12 [] [S,O] mixed d aw (eV 0 24 (pB C) (eO 1 25 [(3,0,1)] (mV (a%18446744073709551616)) d (eV 2 26 (pB F) (eO 3 27 [(2,0,1)] (mV (b%18446744073709551616)) d (eV 4 28 (mV ((a%18446744073709551616)/(b%18446744073709551616))) ?_ (hv:=fun _=>aN (cZ (t:=24) (u:=24) (x:=.tmp 25) (y:=.tmp 27) (k:=.u64) (a:=((a%18446744073709551616:Nat):Int)) (b:=((b%18446744073709551616:Nat):Int)) kR kR kR oM _) (jT (a%18446744073709551616) (b%18446744073709551616) oM)))))));refine eV 5 29 (.agg #[mV ((a%18446744073709551616)/(b%18446744073709551616)),eS]) (eV 6 30 (pB C) (uE 7 31 [(3,0,1)] (mV (a%18446744073709551616)) B d ?_ (hM:=fun p H=>by obtain rfl:=n1.1 H;exact fun f=>by rcases gq.1 f with e|f;exact cB d.st (i:=3) (j:=1) kR kR kR e;rcases gq.1 f with e|f;exact cB d.st (i:=3) (j:=0) kR kR kR e;cases f)));refine eV 8 32 (pB F) (uE 9 33 [(2,0,1)] (mV (b%18446744073709551616)) B d ?_ (hM:=fun p H=>by obtain rfl:=n1.1 H;exact fun f=>by rcases gq.1 f with e|f;exact cB d.st (i:=2) (j:=1) kR kR kR e;rcases gq.1 f with e|f;exact cB d.st (i:=2) (j:=0) kR kR kR e;cases f));refine eV 10 34 (mV ((a%18446744073709551616)%(b%18446744073709551616))) ?_ (hv:=fun _=>aN (dV (t:=24) (u:=24) (x:=.tmp 31) (y:=.tmp 33) (k:=.u64) (a:=((a%18446744073709551616:Nat):Int)) (b:=((b%18446744073709551616:Nat):Int)) kR kR kR oM _) (cM (a%18446744073709551616) (b%18446744073709551616)));refine eV 11 35 (.agg #[mV ((a%18446744073709551616)%(b%18446744073709551616)),eS]) (cG d (fun _ _ d=>tP 12 1 0 ([mV ((a%18446744073709551616)/(b%18446744073709551616)),eS]) d (fun _ d=>?_) (hz:=cO (JQ))));refine tP 13 0 0 ([mV ((a%18446744073709551616)%(b%18446744073709551616)),eS]) d (fun _ d=>?_) (hz:=cO (JR _<|JQ));exact tV 14 6 qT (tN (kX (d.ret [(1,0,2),(0,0,2)] (.tuple #[.agg #[mV ((a%18446744073709551616)/(b%18446744073709551616)),eS],.agg #[mV ((a%18446744073709551616)%(b%18446744073709551616)),eS],qT]) (by rw[tv z,tv l,jS (show a/b<18446744073709551616 by have:=y7 a b;omega),jS (show a%b<18446744073709551616 by have:=ua a M;omega)]))))
theorem Gz (a b:Nat)(hb:0<b)(M:(wds a).length<=1000000000)(H:(wds b).length<=1000000000)(has:18446744073709551616<=a)(y:b<18446744073709551616)(w:World)(h:Hp)(g:G w h):CV 233 #[nv a,nv b] w h (.tuple #[nv (a/b),nv (a%b),.bool true]):=by
 have i:=sS g;have bd:=(cl hb).2.2;have bl:=tv y;have hcl:=ig (show b<=a by omega);refine go Tryz.func233 [(0,nv a),(1,nv b)] rfl (aG (lA 2 26 (nc a) i (fun D w2 h3 i=>lA 3 26 (nc b) i (fun C w5 h6 i=>lA 4 26 ([uV 0,eS]) i (fun S w8 h9 i=>lA 5 26 ([uV 0,eS]) i (fun Q _ _ i=>lL i ac (ai (aa i [.o (nv b) 2 0 2] (aq 12 i (eE b H _ _ i.g) (fun _ _ i=>?_))))))))));have zb:(((nb b:Nat):Int) == (0:Int))=false:=gI oM;have Y:=ao zb;refine lB 13 zb (ah (cK (cQ (aa i [.v (qP D 1),.o (.string (hi a)) 3 1 1] (lV 18 qF ?_ (hr:=rb kR (g7 (fv has))))))));refine lL i ac (lG 20 ?_);refine lG 21 (lG 22 (lL i [.v qF] (ah (cK (cQ (aa i [.o (nv a) 3 0 2,.o (nv b) 2 0 2] (aq 38 i (qp a b M H _ _ i.g) (fun zd _ i=>?_))))))));have ⟨zc,bb⟩:=dF (p:=(cY a b:Int)<(0:Int)) oM;refine lB 39 zc (ah (cK (cQ (aa i [.v (qP C 1),.o (.string (hi b)) 2 1 1] (lV 44 qT ?_ (hr:=rb kR (iG (eu y))))))));refine aj (cQ ?_);obtain ⟨B,hK_⟩:∃ B,B=zd.heap.size:=⟨_,rfl⟩;have U:Q<B:=by rw[hK_];exact gi i 0
 have V:S<B:=by rw[hK_];exact gi i 1
 have u:C<B:=by rw[hK_];exact gi i 2
 have x:D<B:=by rw[hK_];exact gi i 3
 refine Ay ⟨[],some (B,[])⟩ 0 mixed ?_;have bm:=i.g.size;replace i:=i.drew;have k:=JP hK_;refine zO 0 46 [(3,0,2)] (nv a) rfl k i (fun p X=>by obtain rfl:=n1.1 X;exact x) (zV 2 48 (pB C) (zO 3 49 [(2,0,1)] (mV (b%18446744073709551616)) rfl k i (fun p X=>by obtain rfl:=n1.1 X;exact u) (xZ 1 47 (fk a oM oM _ _ i.g) rfl k ?_)));rintro _ _ _ u21 k ⟨j,rfl,I,F,bq⟩;obtain ⟨_,i,-,-⟩:=i.take u21 I F;replace i:=i.to [⟨j,24,(wds a).flatMap ar⟩,⟨Q,26,[uV 0,eS]⟩,⟨S,26,[uV 0,eS]⟩,⟨C,26,nc b⟩,⟨D,26,nc a⟩] [];refine IN 4 50 (Hs j (wds a) (wds a).length (b%18446744073709551616) oM oM (Wd.wds a) M (nR _) _ _ i.g (i.own 0) (i.jk 0)) rfl k oM ?_;rintro _ _ _ u25 k ⟨z,r,rfl,hzl,hWz,J,O,hOz⟩;replace i:=(i.stepM 0 u25 hOz).to [⟨j,24,(z).flatMap ar⟩,⟨Q,26,[uV 0,eS]⟩,⟨S,26,[uV 0,eS]⟩,⟨C,26,nc b⟩,⟨D,26,nc a⟩] [];refine zV 5 45 (.tuple #[qS (sB j) (tl z z.length) ((wds a).length),mV r]) (zV 6 51 (qS (sB j) (tl z z.length) ((wds a).length)) (zV 7 52 (mV r) (zV 8 7 (qS (sB j) (tl z z.length) ((wds a).length)) (zV 9 8 (mV r) (Av ?_)))));have L:=tv y;rw[aZ,L] at J
 rw[L] at O
 obtain ⟨W,Z⟩:=Ct J O;have htz:=fY z z.length;have hQ:aD (z.take (tl z z.length))=a/b:=by have e:=iR 18446744073709551616 z z.length (nR _);rw[r9] at e;exact e.trans W
 obtain ⟨_,i,K,bk,bp⟩:=i.pub 0;replace i:=(i.to [⟨Q,26,[uV 0,eS]⟩,⟨S,26,[uV 0,eS]⟩,⟨C,26,nc b⟩,⟨D,26,nc a⟩] []).aS (SlO.of_flat (sz:=1) (f:=ar) (d:=0) (b:=j) (o:=0) (l:=z) (fun _=>rfl) K);exact lL i ac (aq 54 i (dm (sB j) ((wds a).length) (z.take (tl z z.length)) (tl z z.length) ((a/b)) (by first|rfl|assumption|(simp;done)|(simp;omega)|omega) (Dg.take hWz _) (hQ) sM sM _ _ i.g ((i.f.1).take _)) (fun _ _ i=>lL i [.c,.v (.agg #[mV r,eS])] (lP 1 0 (nc (a/b)) i (fun _ i=>lP 0 0 ([mV r,eS]) i (fun _ i=>lL i ac (af i [(1,0,2),(0,0,2)] (.tuple #[nv (a/b),.agg #[mV r,eS],qT]) (by rw[Z,jS (by have:=ua a hb;omega)])))))))
theorem Gi (a b:Nat)(X:0<b)(j:(wds a).length<=1000000000)(d:(wds b).length<=1000000000)(e:b<=a)(L:18446744073709551616<=a)(i:18446744073709551616<=b)(w:World)(h:Hp)(g:G w h):CV 233 #[nv a,nv b] w h (.tuple #[nv (a/b),nv (a%b),.bool true]):=by
 have c:=sS g;have U:=(cl X).2.2;have hcl:=ig e;have hlm:=dY e;have hl2:=cA i;refine go Tryz.func233 [(0,nv a),(1,nv b)] rfl (aG (lA 2 26 (nc a) c (fun b1 w2 h3 c=>lA 3 26 (nc b) c (fun b4 w5 h6 c=>lA 4 26 ([uV 0,eS]) c (fun b7 w8 h9 c=>lA 5 26 ([uV 0,eS]) c (fun Z _ _ c=>lL c ac (ai (aa c [.o (nv b) 2 0 2] (aq 12 c (eE b d _ _ c.g) (fun _ _ c=>?_))))))))));have W:(((nb b:Nat):Int) == (0:Int))=false:=gI oM;have D:=ao W;refine lB 13 W (ah (cK (cQ (aa c [.v (qP b1 1),.o (.string (hi a)) 3 1 1] (lV 18 qF ?_ (hr:=rb kR (g7 (fv L))))))));refine lL c ac (lG 20 ?_);refine lG 21 (lG 22 (lL c [.v qF] (ah (cK (cQ (aa c [.o (nv a) 3 0 2,.o (nv b) 2 0 2] (aq 38 c (qp a b j d _ _ c.g) (fun _ _ c=>?_))))))));have ⟨zb,O⟩:=dF (p:=(cY a b:Int)<(0:Int)) oM;refine lB 39 zb (ah (cK (cQ (aa c [.v (qP b4 1),.o (.string (hi b)) 2 1 1] (lV 44 qF ?_ (hr:=rb kR (g7 (fv i))))))));refine ah (cK (cQ (cR 8 [] mixed c aw ?_)));refine eO 0 58 [(3,0,2)] (nv a) c (eO 2 60 [(2,0,2)] (nv b) c (eC 1 59 c (fun _ _ c=>fG a oM _ _ c.g) ?_));rintro _ _ _ _ _ c ⟨H,K,rfl,Y,J⟩;replace c:=c.aS J;refine eC 3 61 c (fun _ _ c=>fG b oM _ _ c.g) ?_;rintro _ _ _ _ _ c ⟨z,M,rfl,V,B⟩;replace c:=c.aS B;refine eC 4 62 c (fun _ _ c=>En H K (wds a) z M (wds b) (Wd.wds a) (Wd.wds b) j oM oM (kM X) _ _ c.g c.f.2.1 c.f.1) ?_;rintro _ _ _ _ _ c ⟨l,u,q,x,k,r,rfl,hcq,hcr,y,C,I,Q,hlq,hlr,S,F⟩;replace c:=c.aP S F;exact eV 5 57 (.tuple #[qS l q.length u,qS x r.length k]) (eV 6 63 (qS l q.length u) (eV 7 64 (qS x r.length k) (cG c (fun _ _ c=>tV 8 9 (qS l q.length u) (tV 9 10 (qS x r.length k) (Av (lL c ac (aq 66 c (dm l u (q) q.length ((a/b)) (by first|rfl|assumption|(simp;done)|(simp;omega)|omega) (y) (I.trans (by rw[aZ,aZ])) sM sM _ _ c.g c.f.2.1) (fun _ _ c=>lL c ac (aq 68 c (dm x k (r) r.length ((a%b)) (by first|rfl|assumption|(simp;done)|(simp;omega)|omega) (C) (Q.trans (by rw[aZ,aZ])) sM sM _ _ c.g c.f.1) (fun _ _ c=>lP 1 0 (nc (a/b)) c (fun _ c=>lP 0 0 (nc (a%b)) c (fun _ c=>lL c ac (af c [(1,0,2),(0,0,2)] (.tuple #[nv (a/b),nv (a%b),qT]) rfl))))))))))))))
theorem Gs (a b:Nat)(O:0<b)(y:(wds a).length<=1000000000)(l:(wds b).length<=1000000000)(f:a<b)(z:a<18446744073709551616)(x:18446744073709551616<=b)(w:World)(h:Hp)(g:G w h):CV 233 #[nv a,nv b] w h (.tuple #[nv (a/b),nv (a%b),.bool true]):=by
 have d:=sS g;have D:=(cl O).2.2;have I:=dK f;refine go Tryz.func233 [(0,nv a),(1,nv b)] rfl (aG (lA 2 26 (nc a) d (fun H w2 W d=>lA 3 26 (nc b) d (fun J V U d=>lA 4 26 ([uV 0,eS]) d (fun Q S X d=>lA 5 26 ([uV 0,eS]) d (fun M _ _ d=>lL d ac (ai (aa d [.o (nv b) 2 0 2] (aq 12 d (eE b l _ _ d.g) (fun _ _ d=>?_))))))))));have F:(((nb b:Nat):Int) == (0:Int))=false:=gI oM;have u:=ao F;refine lB 13 F (ah (cK (cQ (aa d [.v (qP H 1),.o (.string (hi a)) 3 1 1] (lV 18 qT ?_ (hr:=rb kR (iG (eu z))))))));refine lL d [.c,.v (qP J 1),.o (.string (hi b)) 2 1 1] (lV 22 qF ?_ (hr:=rb kR (g7 (fv x))));refine lL d [.v qF] (ah (cK (cQ (aa d [.o (nv a) 3 0 2,.o (nv b) 2 0 2] (aq 38 d (qp a b y l _ _ d.g) (fun _ _ d=>?_))))));have ⟨L,C⟩:=dT (p:=(cY a b:Int)<(0:Int)) oM;refine lB 39 L (aj (cQ ?_));have B:=d;refine uH 2 [] [Q,M] mixed d aw (eV 0 40 (.agg #[uV 0,eS]) (uE 1 41 [(3,0,2)] (nv a) B d ?_ (hM:=fun p K=>by obtain rfl:=n1.1 K;exact fun k=>by rcases gq.1 k with e|k;exact cB d.st (i:=3) (j:=1) kR kR kR e;rcases gq.1 k with e|k;exact cB d.st (i:=3) (j:=0) kR kR kR e;cases k)));refine cG d (fun _ _ d=>tP 2 1 0 ([uV 0,eS]) d (fun _ d=>?_) (hz:=cO (JQ)));refine tP 3 0 0 (nc a) d (fun _ d=>?_) (hz:=cO (JR _<|JQ));exact tV 4 6 qT (tN (kX (d.ret [(1,0,2),(0,0,2)] (.tuple #[.agg #[uV 0,eS],nv a,qT]) (by have f:a<b:=(by rcases co a b with h_|h_;exact h_;rcases ig h_ with e|e<;>omega);rw[y9 f,tv f];rfl))))
theorem Hn (a b:Nat)(K:0<b)(u:(wds a).length<=1000000000)(k:(wds b).length<=1000000000)(d:a<b)(x:18446744073709551616<=a)(w:World)(h:Hp)(g:G w h):CV 233 #[nv a,nv b] w h (.tuple #[nv (a/b),nv (a%b),.bool true]):=by
 have c:=sS g;have B:=(cl K).2.2;have F:=dK d;refine go Tryz.func233 [(0,nv a),(1,nv b)] rfl (aG (lA 2 26 (nc a) c (fun D w2 U c=>lA 3 26 (nc b) c (fun O S Q c=>lA 4 26 ([uV 0,eS]) c (fun L M V c=>lA 5 26 ([uV 0,eS]) c (fun J _ _ c=>lL c ac (ai (aa c [.o (nv b) 2 0 2] (aq 12 c (eE b k _ _ c.g) (fun _ _ c=>?_))))))))));have C:(((nb b:Nat):Int) == (0:Int))=false:=gI oM;have l:=ao C;refine lB 13 C (ah (cK (cQ (aa c [.v (qP D 1),.o (.string (hi a)) 3 1 1] (lV 18 qF ?_ (hr:=rb kR (g7 (fv x))))))));refine lL c ac (lG 20 ?_);refine lG 21 (lG 22 (lL c [.v qF] (ah (cK (cQ (aa c [.o (nv a) 3 0 2,.o (nv b) 2 0 2] (aq 38 c (qp a b u k _ _ c.g) (fun _ _ c=>?_))))))));have ⟨I,z⟩:=dT (p:=(cY a b:Int)<(0:Int)) oM;refine lB 39 I (aj (cQ ?_));have y:=c;refine uH 2 [] [L,J] mixed c aw (eV 0 40 (.agg #[uV 0,eS]) (uE 1 41 [(3,0,2)] (nv a) y c ?_ (hM:=fun p H=>by obtain rfl:=n1.1 H;exact fun f=>by rcases gq.1 f with e|f;exact cB c.st (i:=3) (j:=1) kR kR kR e;rcases gq.1 f with e|f;exact cB c.st (i:=3) (j:=0) kR kR kR e;cases f)));refine cG c (fun _ _ c=>tP 2 1 0 ([uV 0,eS]) c (fun _ c=>?_) (hz:=cO (JQ)));refine tP 3 0 0 (nc a) c (fun _ c=>?_) (hz:=cO (JR _<|JQ));exact tV 4 6 qT (tN (kX (c.ret [(1,0,2),(0,0,2)] (.tuple #[.agg #[uV 0,eS],nv a,qT]) (by have d:a<b:=(by rcases co a b with h_|h_;exact h_;rcases ig h_ with e|e<;>omega);rw[y9 d,tv d];rfl))))
theorem F6 (a b:Nat)(e:0<b)(c:(wds a).length<=1000000000)(d:(wds b).length<=1000000000)(w:World)(h:Hp)(g:G w h):CV 233 #[nv a,nv b] w h (.tuple #[nv (a/b),nv (a%b),.bool true]):=by
 rcases co a b with hab|hab
 ·rcases co a 18446744073709551616 with h1|h1
  ·rcases co b 18446744073709551616 with h2|h2
   ·exact C7 a b e c d h1 h2 w h g
   ·exact Gs a b e c d hab h1 h2 w h g
  ·exact Hn a b e c d hab h1 w h g
 ·rcases co b 18446744073709551616 with h2|h2
  ·rcases co a 18446744073709551616 with h1|h1
   ·exact C7 a b e c d h1 h2 w h g
   ·exact Gz a b e c d h1 h2 w h g
  ·exact Gi a b e c d hab oM h2 w h g
theorem jB {z:Int}{b:Bool}{n:Nat}(c:au z=b)(a:ab z=n):Value.agg #[.bool b,.int .u64 (lo n),.string (hi n)]=iv z:=by subst c a;rfl
theorem mU {z:Int}{b:Bool}(a:au z=b):iv z=Value.agg #[.bool b,.int .u64 (lo (ab z)),.string (hi (ab z))]:=(jB a rfl).symm
theorem mc (x y:Int):bD (au x != au y) (ab x*ab y)=x*y:=by
 rcases hx:au x with _|_<;>rcases hy:au y with _|_
 ·have h1:=bK hx
  have c:=bK hy;obtain ⟨a,rfl⟩:=JS h1;obtain ⟨b,rfl⟩:=JS c
  simp[bD,ab,JT,JU,JV]
 ·have h1:=bK hx
  have c:=bT hy;obtain ⟨a,rfl⟩:=JS h1;obtain ⟨b,d⟩:=JS (a:=-y) oM;obtain rfl:y = -b:=by omega
  simp[bD,ab,JT,JU,JV]
 ·have h1:=bT hx
  have c:=bK hy;obtain ⟨b,rfl⟩:=JS c;obtain ⟨a,ha⟩:=JS (a:=-x) oM;obtain rfl:x = -a:=by omega
  simp[bD,ab,JT,JU,JV]
 ·have h1:=bT hx
  have c:=bT hy;obtain ⟨a,ha⟩:=JS (a:=-x) oM;obtain ⟨b,d⟩:=JS (a:=-y) oM;obtain rfl:x = -a:=by omega
  obtain rfl:y = -b:=by omega
  simp[bD,ab,JT,JU,JV]
theorem kf {a b:Nat}:(wds (a*b)).length<=(wds a).length+(wds b).length:=by
 refine gx kD ?_;rw[Am];have h1:=fh a;have c:=fh b;exact ep (Nat.mul_lt_mul'' h1 c) (Nat.le_refl _)
theorem cp {a b k:Nat}(h:a<=b)(c:(wds b).length<=k):(wds a).length<=k:=ed (dY h) c
theorem vg (a:Nat)(w:World)(h:Hp)(g:G w h):CV 187 #[.bool false,nv a] w h (iv (bD false a)):=by
 have b:=sS g;refine go Tryz.func187 [(0,qF),(1,nv a)] rfl (aG (lA 3 26 (nc a) b (fun f w2 e b=>lA 4 28 ([qF,uV 0,eS]) b (fun d i j b=>ai (cR 8 [] mixed b aw ?_)))));exact eV 0 5 qF (eV 1 6 qF (eG 2 7 (eG 3 8 (eG 4 9 (eV 5 10 qF (eO 6 11 [(1,0,2)] (nv a) b (eV 7 12 (wX qF a) (cG b (fun l c b=>tP 8 0 0 (wC qF a) b (fun k b=>tN (kX (b.ret [(0,0,3)] (wX qF a) (jB (by rw[js];rfl) (cd _ _))))))))))))))
theorem Fa (j:(wds 0).length<=1000000000)(w:World)(h:Hp)(g:G w h):CV 187 #[.bool true,nv 0] w h (iv (bD true 0)):=by
 have a:=sS g;have b:nb 0=0:=rfl;refine go Tryz.func187 [(0,qT),(1,nv 0)] rfl (aG (lA 3 26 (nc 0) a (fun i w2 f a=>lA 4 28 ([qF,uV 0,eS]) a (fun d k l a=>ai (cR 8 [] mixed a aw ?_)))));refine eV 0 5 qT (eV 1 6 qT (eO 2 7 [(1,0,2)] (nv 0) a (eO 6 11 [(1,0,2)] (nv 0) a (aK 3 8 a (fun _ _ a=>eE 0 aM _ _ a.g) (fun p c a=>eV 4 9 qF ?_ (hv:=fun _=>rb (e:=decide ((0:Int)<((nb 0:Nat):Int))) kR (decide_eq_false oM)))))));exact eV 5 10 qF (eV 7 12 (wX qF 0) (cG a (fun o _ a=>tP 8 0 0 (wC qF 0) a (fun _ a=>tN (kX (a.ret [(0,0,3)] (wX qF 0) (jB (by rw[js];rfl) (cd _ _))))))))
theorem DZ (a:Nat)(ha:0<a)(k:(wds a).length<=1000000000)(w:World)(h:Hp)(g:G w h):CV 187 #[.bool true,nv a] w h (iv (bD true a)):=by
 have b:=sS g;have c:=(cl ha).2.2;refine go Tryz.func187 [(0,qT),(1,nv a)] rfl (aG (lA 3 26 (nc a) b (fun j w2 i b=>lA 4 28 ([qF,uV 0,eS]) b (fun f l o b=>ai (cR 8 [] mixed b aw ?_)))));refine eV 0 5 qT (eV 1 6 qT (eO 2 7 [(1,0,2)] (nv a) b (eO 6 11 [(1,0,2)] (nv a) b (aK 3 8 b (fun _ _ b=>eE a aM _ _ b.g) (fun u d b=>eV 4 9 qT ?_ (hv:=fun _=>rb (e:=decide ((0:Int)<((nb a:Nat):Int))) kR (decide_eq_true oM)))))));exact eV 5 10 qT (eV 7 12 (wX qT a) (cG b (fun p _ b=>tP 8 0 0 (wC qT a) b (fun _ b=>tN (kX (b.ret [(0,0,3)] (wX qT a) (jB (by rw[js];simpa using ha) (cd _ _))))))))
theorem gF (b:Bool)(a:Nat)(c:(wds a).length<=1000000000)(w:World)(h:Hp)(g:G w h):CV 187 #[.bool b,nv a] w h (iv (bD b a)):=by
 cases b
 ·exact vg a w h g
 ·rcases va a with h0|h0
  ·subst h0;exact Fa c w h g
  ·exact DZ a h0 c w h g
theorem Io (z:Int)(h0 : -9223372036854775808<=z)(hz:z<0)(w:World)(h:Hp)(g:G w h):CV 118 #[iV z] w h (iv z):=by
 have a:=sS g;have d:ab z<=9223372036854775808:=by unfold ab;omega
 refine go Tryz.func118 [(0,iV z)] rfl (aG (lA 2 28 ([qF,uV 0,eS]) a (fun f w2 e a=>ai (aa a ac ?_))));have ⟨b,c⟩:=dT (p:=(z:Int)<(0:Int)) oM;refine lB 4 b (aj (aa a ac (lV 6 (mV (18446744073709551616-ab z)) ?_ (hr:=rU (z) kR (by rw[IntKind.wrap_u64];unfold ab;omega)))));refine lV 7 (mV (ab z)) ?_ (hr:=rU ((0-((18446744073709551616-ab z:Nat):Int))) kR (by rw[IntKind.wrap_u64];omega));exact aq 8 a (Er (ab z) oM _ _ a.g) (fun i j a=>lL a [.v (wX qT (ab z))] (lP 0 0 (wC qT (ab z)) a (fun k a=>af a [(0,0,3)] (wX qT (ab z)) (jB (by simp[au,hz]) rfl))))
theorem HZ (n:Nat)(h1:n<9223372036854775808)(w:World)(h:Hp)(g:G w h):CV 118 #[nV n] w h (iv (n:Int)):=by
 have a:=sS g;refine go Tryz.func118 [(0,nV n)] rfl (aG (lA 2 28 ([qF,uV 0,eS]) a (fun e w2 d a=>ai (aa a ac ?_))));have ⟨b,c⟩:=dF (p:=(n:Int)<(0:Int)) oM;refine lB 4 b (ah (cK (aa a ac (lV 11 (mV n) ?_ (hr:=rU ((n:Int)) kR (az oM oM))))));exact aq 12 a (Er n oM _ _ a.g) (fun f i a=>lL a [.v (wX qF n)] (lP 0 0 (wC qF n) a (fun j a=>af a [(0,0,3)] (wX qF n) (jB (by simp[au]) (by simp[ab])))))
theorem IV (z:Int)(h0 : -9223372036854775808<=z)(h1:z<=9223372036854775807)(w:World)(h:Hp)(g:G w h):CV 118 #[iV z] w h (iv z):=by
 rcases Int.lt_or_le z 0 with hz|hz
 ·exact Io z h0 hz w h g
 ·obtain ⟨n,rfl⟩:=JS hz
  exact HZ n oM w h g
def dQ(x y:Int):Int:=if x<y then -1 else if y<x then 1 else 0
theorem AM {x y:Int}(h:x<y):dQ x y = -1:=by simp[dQ,h]
theorem B9 {x y:Int}(h:y<x):dQ x y=1:=by unfold dQ;rw[if_neg oM,if_pos h]
theorem Co {x y:Int}(d:0<=x)(c:0<=y):dQ x y=cY (ab x) (ab y):=by
 unfold dQ cY ab
 have a:(x<y)=(x.natAbs<y.natAbs):=by apply propext;omega
 have b:(y<x)=(y.natAbs<x.natAbs):=by apply propext;omega
 simp only[a,b]
theorem Ci {x y:Int}(d:x<0)(c:y<0):dQ x y=cY (ab y) (ab x):=by
 unfold dQ cY ab
 have a:(x<y)=(y.natAbs<x.natAbs):=by apply propext;omega
 have b:(y<x)=(x.natAbs<y.natAbs):=by apply propext;omega
 simp only[a,b]
theorem DO (z:Int)(w:World)(h:Hp)(g:G w h):CV 98 #[iv z] w h (nv (ab z)):=by
 have a:=sS g;exact go Tryz.func98 [(0,iv z)] rfl (aG (lA 1 28 (ic z) a (fun b w2 d a=>lA 2 26 ([uV 0,eS]) a (fun c e f a=>aE (lL a [.v (qP b 1),.o (nv (ab z)) 1 1 2] (lP 0 0 (nc (ab z)) a (fun i a=>af a [(0,0,2)] (nv (ab z)) rfl)))))))
theorem D8 (z:Int)(hz:au z=true)(w:World)(h:Hp)(g:G w h):CV 81 #[wX (.bool true) (ab z)] w h (iV z.sign):=by
 have a:=sS g;exact go Tryz.func81 [(0,wX qT (ab z))] rfl (aG (lA 1 28 (wC qT (ab z)) a (fun b w2 d a=>lL a ac (ai (kZ (aa a [.v (pB b),.o qT 0 0 1,.c] (aj (aa a ac (af a [] (iV (-1)) (by rw[Int.sign_eq_neg_one_of_neg (bT hz)]))))))))))
theorem FD (z:Int)(j:(wds (ab z)).length<=1000000000)(hz:au z=false)(h0:0<ab z)(w:World)(h:Hp)(g:G w h):CV 81 #[wX (.bool false) (ab z)] w h (iV z.sign):=by
 have a:=sS g;have f:=(cl h0).2.2;refine go Tryz.func81 [(0,wX qF (ab z))] rfl (aG (lA 1 28 (wC qF (ab z)) a (fun e w2 i a=>lL a ac (ai (kZ (aa a [.v (pB e),.o qF 0 0 1,.c] (ah (aa a [.v (qP e 1),.o (nv (ab z)) 0 1 2] (aq 9 a (eE (ab z) aM _ _ a.g) (fun k l a=>?_))))))))));have ⟨b,d⟩:=dT (p:=(0:Int)<((nb (ab z):Nat):Int)) oM;exact lB 10 b (lL a ac (aj (aa a ac (af a [] (iV 1) (by rw[Int.sign_eq_one_of_pos (by have:=bK hz;unfold ab at h0;omega)])))))
theorem EH (j:(wds (ab 0)).length<=1000000000)(w:World)(h:Hp)(g:G w h):CV 81 #[wX (.bool false) (ab 0)] w h (iV 0):=by
 have a:=sS g;have f:nb (ab 0)=0:=rfl;refine go Tryz.func81 [(0,wX qF (ab 0))] rfl (aG (lA 1 28 (wC qF (ab 0)) a (fun e w2 i a=>lL a ac (ai (kZ (aa a [.v (pB e),.o qF 0 0 1,.c] (ah (aa a [.v (qP e 1),.o (nv (ab 0)) 0 1 2] (aq 9 a (eE (ab 0) aM _ _ a.g) (fun k l a=>?_))))))))));have ⟨b,d⟩:=dF (p:=(0:Int)<((nb (ab 0):Nat):Int)) oM;exact lB 10 b (lL a ac (ah (cK (aa a ac (af a [] (iV 0) rfl)))))
theorem mp (z:Int)(a:(wds (ab z)).length<=1000000000)(w:World)(h:Hp)(g:G w h):CV 81 #[iv z] w h (iV z.sign):=by
 rcases hz:au z with _|_
 ·rw[mU hz]
  rcases va (ab z) with h0|h0
  ·have:z=0:=by unfold ab at h0;omega
   subst this;exact EH a w h g
  ·exact FD z a hz h0 w h g
 ·rw[mU hz];exact D8 z hz w h g
theorem EP (x y:Int)(e:(wds (ab x)).length<=1000000000)(j:(wds (ab y)).length<=1000000000)(i:au x=false)(f:au y=false)(w:World)(h:Hp)(g:G w h):CV 155 #[wX (.bool false) (ab x),wX (.bool false) (ab y)] w h (iV (dQ x y)):=by
 have a:=sS g;refine go Tryz.func155 [(0,wX qF (ab x)),(1,wX qF (ab y))] rfl (aG (lA 2 28 (wC qF (ab x)) a (fun b w2 l a=>lA 3 28 (wC qF (ab y)) a (fun d p u a=>lL a ac (ai (kZ (aa a [.v (pB b),.o qF 1 0 1,.c] (lG 9 ?_))))))));exact lG 10 (lL a [.v qF,.c] (ah (aa a [.v (pB b),.o qF 1 0 1,.c] (ah (aa a [.v (pB d),.o qF 0 0 1,.c] (ah (cK (aa a [.v (qP b 1),.o (nv (ab x)) 1 1 2,.v (qP d 1),.o (nv (ab y)) 0 1 2] (aq 27 a (qp (ab x) (ab y) aM aM _ _ a.g) (fun z k a=>lL a ac (af a [] (iV (cY (ab x) (ab y))) (by rw[Co (bK i) (bK f)]))))))))))))
theorem EK (x y:Int)(e:(wds (ab x)).length<=1000000000)(j:(wds (ab y)).length<=1000000000)(i:au x=false)(f:au y=true)(w:World)(h:Hp)(g:G w h):CV 155 #[wX (.bool false) (ab x),wX (.bool true) (ab y)] w h (iV (dQ x y)):=by
 have a:=sS g;refine go Tryz.func155 [(0,wX qF (ab x)),(1,wX qT (ab y))] rfl (aG (lA 2 28 (wC qF (ab x)) a (fun b w2 k a=>lA 3 28 (wC qT (ab y)) a (fun d l p a=>lL a ac (ai (kZ (aa a [.v (pB b),.o qF 1 0 1,.c] (lG 9 ?_))))))));exact lG 10 (lL a [.v qF,.c] (ah (aa a [.v (pB b),.o qF 1 0 1,.c] (ah (aa a [.v (pB d),.o qT 0 0 1,.c] (aj (aa a ac (af a [] (iV 1) (by rw[B9 (by have:=bK i;have:=bT f;omega)])))))))))
theorem EU (x y:Int)(e:(wds (ab x)).length<=1000000000)(j:(wds (ab y)).length<=1000000000)(i:au x=true)(f:au y=false)(w:World)(h:Hp)(g:G w h):CV 155 #[wX (.bool true) (ab x),wX (.bool false) (ab y)] w h (iV (dQ x y)):=by
 have a:=sS g;exact go Tryz.func155 [(0,wX qT (ab x)),(1,wX qF (ab y))] rfl (aG (lA 2 28 (wC qT (ab x)) a (fun b w2 k a=>lA 3 28 (wC qF (ab y)) a (fun d l p a=>lL a ac (ai (kZ (aa a [.v (pB b),.o qT 1 0 1,.c,.v (pB d),.o qF 0 0 1,.v qF,.c] (ah (aa a [.v (pB b),.o qT 1 0 1,.c] (aj (aa a ac (af a [] (iV (-1)) (by rw[AM (by have:=bT i;have:=bK f;omega)])))))))))))))
theorem Ej (x y:Int)(e:(wds (ab x)).length<=1000000000)(j:(wds (ab y)).length<=1000000000)(i:au x=true)(f:au y=true)(w:World)(h:Hp)(g:G w h):CV 155 #[wX (.bool true) (ab x),wX (.bool true) (ab y)] w h (iV (dQ x y)):=by
 have a:=sS g;exact go Tryz.func155 [(0,wX qT (ab x)),(1,wX qT (ab y))] rfl (aG (lA 2 28 (wC qT (ab x)) a (fun d w2 l a=>lA 3 28 (wC qT (ab y)) a (fun b p u a=>lL a ac (ai (kZ (aa a [.v (pB d),.o qT 1 0 1,.c,.v (pB b),.o qT 0 0 1,.v qT,.c] (aj (aa a [.v (qP b 1),.o (nv (ab y)) 0 1 2,.v (qP d 1),.o (nv (ab x)) 1 1 2] (aq 16 a (qp (ab y) (ab x) aM aM _ _ a.g) (fun z k a=>lL a ac (af a [] (iV (cY (ab y) (ab x))) (by rw[Ci (bT i) (bT f)])))))))))))))
theorem xc (x y:Int)(a:(wds (ab x)).length<=1000000000)(b:(wds (ab y)).length<=1000000000)(w:World)(h:Hp)(g:G w h):CV 155 #[iv x,iv y] w h (iV (dQ x y)):=by
 rcases hx:au x with _|_<;>rcases hy:au y with _|_<;>rw[mU hx,mU hy]
 ·exact EP x y a b hx hy w h g
 ·exact EK x y a b hx hy w h g
 ·exact EU x y a b hx hy w h g
 ·exact Ej x y a b hx hy w h g
theorem DB (x y:Int)(k:(wds (ab x)).length<=1000000000)(j:(wds (ab y)).length<=1000000000)(i:(wds (ab x*ab y)).length<=1000000000)(c:au x=false)(e:au y=false)(w:World)(h:Hp)(g:G w h):CV 186 #[wX (.bool false) (ab x),wX (.bool false) (ab y)] w h (iv (x*y)):=by
 have a:=sS g;have l:=bK c;have f:=bK e;refine go Tryz.func186 [(0,wX qF (ab x)),(1,wX qF (ab y))] rfl (aG (lA 2 28 (wC qF (ab x)) a (fun b w2 z a=>lA 3 28 (wC qF (ab y)) a (fun d u p a=>lA 4 28 ([qF,uV 0,eS]) a (fun B o C a=>ai (cR 11 [] mixed a aw ?_))))));exact eV 0 5 (pB b) (eO 1 6 [(2,0,1)] qF a (eV 2 7 (pB d) (eO 3 8 [(1,0,1)] qF a (eV 4 9 qF (eV 5 10 (qP b 1) (eO 6 11 [(2,1,2)] (nv (ab x)) a (eV 7 12 (qP d 1) (eO 8 13 [(1,1,2)] (nv (ab y)) a (aK 9 14 a (fun _ _ a=>n8 (ab x) (ab y) aM aM _ _ a.g) (fun _ _ a=>aK 10 15 a (fun _ _ a=>gF false ((ab x)*(ab y)) aM _ _ a.g) (fun _ _ a=>cG a (fun _ _ a=>tP 11 0 0 (ic (bD false ((ab x)*(ab y)))) a (fun _ a=>tN (kX (a.ret [(0,0,3)] (iv (bD false ((ab x)*(ab y)))) (by rw[<-mc x y,c,e];rfl))))))))))))))))
theorem Fu (x y:Int)(k:(wds (ab x)).length<=1000000000)(j:(wds (ab y)).length<=1000000000)(i:(wds (ab x*ab y)).length<=1000000000)(c:au x=false)(e:au y=true)(w:World)(h:Hp)(g:G w h):CV 186 #[wX (.bool false) (ab x),wX (.bool true) (ab y)] w h (iv (x*y)):=by
 have a:=sS g;have l:=bK c;have f:=bT e;refine go Tryz.func186 [(0,wX qF (ab x)),(1,wX qT (ab y))] rfl (aG (lA 2 28 (wC qF (ab x)) a (fun b w2 z a=>lA 3 28 (wC qT (ab y)) a (fun d u p a=>lA 4 28 ([qF,uV 0,eS]) a (fun B o C a=>ai (cR 11 [] mixed a aw ?_))))));exact eV 0 5 (pB b) (eO 1 6 [(2,0,1)] qF a (eV 2 7 (pB d) (eO 3 8 [(1,0,1)] qT a (eV 4 9 qT (eV 5 10 (qP b 1) (eO 6 11 [(2,1,2)] (nv (ab x)) a (eV 7 12 (qP d 1) (eO 8 13 [(1,1,2)] (nv (ab y)) a (aK 9 14 a (fun _ _ a=>n8 (ab x) (ab y) aM aM _ _ a.g) (fun _ _ a=>aK 10 15 a (fun _ _ a=>gF true ((ab x)*(ab y)) aM _ _ a.g) (fun _ _ a=>cG a (fun _ _ a=>tP 11 0 0 (ic (bD true ((ab x)*(ab y)))) a (fun _ a=>tN (kX (a.ret [(0,0,3)] (iv (bD true ((ab x)*(ab y)))) (by rw[<-mc x y,c,e];rfl))))))))))))))))
theorem D4 (x y:Int)(k:(wds (ab x)).length<=1000000000)(j:(wds (ab y)).length<=1000000000)(i:(wds (ab x*ab y)).length<=1000000000)(c:au x=true)(e:au y=false)(w:World)(h:Hp)(g:G w h):CV 186 #[wX (.bool true) (ab x),wX (.bool false) (ab y)] w h (iv (x*y)):=by
 have a:=sS g;have l:=bT c;have f:=bK e;refine go Tryz.func186 [(0,wX qT (ab x)),(1,wX qF (ab y))] rfl (aG (lA 2 28 (wC qT (ab x)) a (fun b w2 z a=>lA 3 28 (wC qF (ab y)) a (fun d u p a=>lA 4 28 ([qF,uV 0,eS]) a (fun B o C a=>ai (cR 11 [] mixed a aw ?_))))));exact eV 0 5 (pB b) (eO 1 6 [(2,0,1)] qT a (eV 2 7 (pB d) (eO 3 8 [(1,0,1)] qF a (eV 4 9 qT (eV 5 10 (qP b 1) (eO 6 11 [(2,1,2)] (nv (ab x)) a (eV 7 12 (qP d 1) (eO 8 13 [(1,1,2)] (nv (ab y)) a (aK 9 14 a (fun _ _ a=>n8 (ab x) (ab y) aM aM _ _ a.g) (fun _ _ a=>aK 10 15 a (fun _ _ a=>gF true ((ab x)*(ab y)) aM _ _ a.g) (fun _ _ a=>cG a (fun _ _ a=>tP 11 0 0 (ic (bD true ((ab x)*(ab y)))) a (fun _ a=>tN (kX (a.ret [(0,0,3)] (iv (bD true ((ab x)*(ab y)))) (by rw[<-mc x y,c,e];rfl))))))))))))))))
theorem DC (x y:Int)(k:(wds (ab x)).length<=1000000000)(j:(wds (ab y)).length<=1000000000)(i:(wds (ab x*ab y)).length<=1000000000)(c:au x=true)(e:au y=true)(w:World)(h:Hp)(g:G w h):CV 186 #[wX (.bool true) (ab x),wX (.bool true) (ab y)] w h (iv (x*y)):=by
 have a:=sS g;have l:=bT c;have f:=bT e;refine go Tryz.func186 [(0,wX qT (ab x)),(1,wX qT (ab y))] rfl (aG (lA 2 28 (wC qT (ab x)) a (fun b w2 z a=>lA 3 28 (wC qT (ab y)) a (fun d u p a=>lA 4 28 ([qF,uV 0,eS]) a (fun B o C a=>ai (cR 11 [] mixed a aw ?_))))));exact eV 0 5 (pB b) (eO 1 6 [(2,0,1)] qT a (eV 2 7 (pB d) (eO 3 8 [(1,0,1)] qT a (eV 4 9 qF (eV 5 10 (qP b 1) (eO 6 11 [(2,1,2)] (nv (ab x)) a (eV 7 12 (qP d 1) (eO 8 13 [(1,1,2)] (nv (ab y)) a (aK 9 14 a (fun _ _ a=>n8 (ab x) (ab y) aM aM _ _ a.g) (fun _ _ a=>aK 10 15 a (fun _ _ a=>gF false ((ab x)*(ab y)) aM _ _ a.g) (fun _ _ a=>cG a (fun _ _ a=>tP 11 0 0 (ic (bD false ((ab x)*(ab y)))) a (fun _ a=>tN (kX (a.ret [(0,0,3)] (iv (bD false ((ab x)*(ab y)))) (by rw[<-mc x y,c,e];rfl))))))))))))))))
theorem HQ (x y:Int)(b:(wds (ab x)).length+(wds (ab y)).length<=1000000000)(w:World)(h:Hp)(g:G w h):CV 186 #[iv x,iv y] w h (iv (x*y)):=by
 have a:(wds (ab x*ab y)).length<=1000000000:=ed kf oM
 rcases hx:au x with _|_<;>rcases hy:au y with _|_<;>rw[mU hx,mU hy]
 ·exact DB x y oM oM a hx hy w h g
 ·exact Fu x y oM oM a hx hy w h g
 ·exact D4 x y oM oM a hx hy w h g
 ·exact DC x y oM oM a hx hy w h g
theorem wA (n:Nat)(X:(wds n).length<=1000000000)(w:World)(h:Hp)(g:G w h):CR 100 #[nv n] w h (fun v h1=>∃ A,v=.slice A ((nb n+7)/8) ((nb n+7)/8)/\SlO 1 p8 0 h1 A (fx n ((nb n+7)/8))):=by
 have c:=sS g;have hnb:=kL n;have hwl:=lJ n;refine go Tryz.func100 [(0,nv n)] rfl (aG (lA 1 26 (nc n) c (fun F w2 h3 c=>lL c ac (aE (lL c [.o (nv n) 0 0 2] (aq 8 c (eE n X _ _ c.g) (fun w4 h5 c=>bg 9 ((nb n:Nat)+7) ((nb n)+7) (lV 10 (nV (((nb n)+7)/8)) ?_ (hr:=aN (cZ (t:=3) (u:=3) (x:=.tmp 9) (y:=.const (iV 8)) (k:=.i64) (a:=(((nb n)+7:Nat):Int)) (b:=(8:Int)) kR kR kR oM _) (dh ((nb n)+7) 8 oM))))))))));refine lL c ac (aE (lL c ac (lK 12 5 (((nb n)+7)/8:Nat) 1 1 (.int .u8 0) p8 0 c (fun z w7 h8 c=>?_))));have K:(ta (((nb n)+7)/8:Nat) 0).length=(((nb n)+7)/8:Nat):=by simp
 refine lL c ac (aE (lL c [.o (nv n) 1 0 2] (lC 14 c (fG n oM _ _ c.g) ?_)));rintro _ _ zd c ⟨p,C,rfl,U,J⟩;replace c:=c.aS J;refine lL c ac (ai (aa c aF (bE ?_)));refine bG _ (CG.loop (fun I Γ W=>∃ (i:Nat)(l:List Nat)(L:Hp),I=((nb n+7)/8)-i/\Γ=[(2,sZ),(3,nV (((nb n)+7)/8)),(4,qS (sB z) (((nb n)+7)/8:Nat) (((nb n)+7)/8:Nat)),(5,qS p ((wds n).length) C),(15,nV (((nb n)+7)/8)),(16,nV i)]/\SS w h W L [⟨z,5,(l).flatMap p8⟩,⟨F,26,nc n⟩] [] [fun L=>SlO 1 ar 0 L p (wds n)]/\i<=((nb n+7)/8)/\l.length=((nb n+7)/8)/\(∀ j,j<i->l.getD (((nb n+7)/8)-1-j) 0=n/256^j%256)) _ ⟨0,ta (((nb n)+7)/8:Nat) 0,zd,rfl,rfl,c.to _ _,JH _,K,(fun j M=>absurd M oM)⟩ ?_);rintro _ _ _ ⟨i,l,ze,S,rfl,c,hi,e,O⟩;have hwi:=n5 n (i/8);refine aG ?_;cases D:(decide ((i:Int)<((((nb n)+7)/8:Nat):Int)))
 .
  have Z:=oF D;refine lB 17 D (ai (da (CG.exit ?_)))
  show CG _ _ _ _ _ _ _ _
  refine aa c aF (lN (kX ?_));have him:i=((nb n+7)/8):=by omega
  have H:l=fx n ((nb n+7)/8):=vB e (fun j M=>O j oM);rw[H] at c
  obtain ⟨_,c,B,Q,V⟩:=c.pub 0;replace c:=(c.to [⟨F,26,nc n⟩] []).aS (SlO.of_flat (sz:=1) (f:=p8) (d:=0) (b:=z) (o:=0) (l:=fx n ((nb n+7)/8)) (fun _=>rfl) B);exact c.ret [] (qS (sB z) (((nb n)+7)/8:Nat) (((nb n)+7)/8:Nat)) (⟨sB z,rfl,c.f.1⟩)
 have Z:=oT D;refine lB 17 D (ai (ci (cK (cQ (kZ (aa c aF (lN (kQ (lL c aF (bg 21 ((((nb n)+7)/8:Nat)-1) ((((nb n)+7)/8:Nat)-1) ?_))))))))));refine lL c ac (bg 23 (((((nb n)+7)/8:Nat)-1:Nat)-(i:Nat)) (((((nb n)+7)/8:Nat)-1:Nat)-i) ?_);refine lL c aF (lV 26 (nV (i/8)) ?_ (hr:=aN (cZ (t:=3) (u:=3) (x:=.tmp 25) (y:=.const (iV 8)) (k:=.i64) (a:=(i:Int)) (b:=(8:Int)) kR kR kR oM _) (dh i 8 oM)));refine lX 27 p ((wds n).length) C 1 (i/8:Nat) (i/8) ((c.f.1).ok oM) (lH 28 (mV ((wds n).getD (i/8) 0)) c ((c.f.1).el (i/8) oM) (lL c ac (lV 30 (nV (i%8)) ?_ (hr:=aN (dV (t:=3) (u:=3) (x:=.tmp 29) (y:=.const (iV 8)) (k:=.i64) (a:=(i:Int)) (b:=(8:Int)) kR kR kR oM _) (cM i 8)))));refine bg 31 (8*(i%8:Nat)) (8*(i%8)) (lV 32 (mV (((wds n).getD (i/8) 0)/2^(8*(i%8)))) ?_ (hr:=fK (t:=24) (u:=3) (x:=.tmp 28) (y:=.tmp 31) (ky:=.i64) (a:=((wds n).getD (i/8) 0)) (n:=(8*(i%8))) kR kR kR oM _));refine lV 33 (.int .u8 ((wds n).getD (i/8) 0/2^(8*(i%8))%256:Nat)) ?_ (hr:=aN (n:=IntKind.wrap .u8 (((wds n).getD (i/8) 0/2^(8*(i%8)):Nat):Int)) kR (xX _));refine lX 34 (sB z) (((nb n)+7)/8:Nat) (((nb n)+7)/8:Nat) 1 (((((nb n)+7)/8:Nat)-1:Nat)-i:Nat) (((((nb n)+7)/8:Nat)-1:Nat)-i:Nat) rfl (lW 0 l p8 1 (((((nb n)+7)/8:Nat)-1:Nat)-i:Nat) ((wds n).getD (i/8) 0/2^(8*(i%8))%256:Nat) c oM (fun _ c=>?_));have zc:((l).set (((((nb n)+7)/8:Nat)-1:Nat)-i:Nat) ((wds n).getD (i/8) 0/2^(8*(i%8))%256:Nat)).length=(((nb n)+7)/8:Nat):=by rw[Jt];exact e
 replace c:=c.to [⟨z,5,((l).set (((((nb n)+7)/8:Nat)-1:Nat)-i:Nat) ((wds n).getD (i/8) 0/2^(8*(i%8))%256:Nat)).flatMap p8⟩,⟨F,26,nc n⟩] [];refine lN (kQ (bg 35 ((i:Nat)+1) (i+1) ?_));refine lL c ac (lD ?_);intro a_ Y;refine ⟨_,_,?_,⟨i+1,(l).set (((((nb n)+7)/8:Nat)-1:Nat)-i:Nat) ((wds n).getD (i/8) 0/2^(8*(i%8))%256:Nat),ze,rfl,rfl,c.to _ _,oM,zc,(iS e oM O (xI n i))⟩,Y.to _ kR⟩
 omega
theorem Ec (n m:Nat)(A:Z9)(c:Nat)(hc:m<=c)(hm:m<=10000000000)(hn:n<256^m)(w:World)(h:Hp)(g:G w h)(Y:SlO 1 p8 0 h A (fx n m)):CV 252 #[.slice A m c] w h (nv n):=by
 have e:=((sS g).aS Y);have hbl:=jb n m;refine go Tryz.func252 [(0,qS A m c)] rfl (aG (lA 2 26 ([uV 0,eS]) e (fun B w2 h3 e=>aE (lL e [.c,.v (nV m)] (bg 7 ((m:Nat)+7) (m+7) ?_)))));refine lV 8 (nV ((m+7)/8)) ?_ (hr:=aN (cZ (t:=3) (u:=3) (x:=.tmp 7) (y:=.const (iV 8)) (k:=.i64) (a:=((m+7:Nat):Int)) (b:=(8:Int)) kR kR kR oM _) (dh (m+7) 8 oM));refine lK 9 24 ((m+7)/8) 1 8 (uV 0) ar 0 e (fun j w5 h6 e=>?_);have I:(ta ((m+7)/8) 0).length=((m+7)/8):=by simp
 refine lL e ac (ai (aa e [.c,.v (nV m),.c] (bE ?_)));refine bG _ (CG.loop (fun J Γ V=>∃ (i:Nat)(l:List Nat)(M:Hp),J=m-i/\Γ=[(0,qS A m c),(2,pB B),(3,qS (sB j) ((m+7)/8) ((m+7)/8)),(11,nV m),(12,nV i)]/\SS w h V M [⟨j,24,(l).flatMap ar⟩,⟨B,26,[uV 0,eS]⟩] [] [fun M=>SlO 1 p8 0 M A (fx n m)]/\i<=m/\l.length=(m+7)/8/\Wd l/\aD l=n%256^i) _ ⟨0,ta ((m+7)/8) 0,h6,rfl,rfl,e.to _ _,JH _,I,Wd.rep _,(by show am _ _=_;rw[di,JI,Nat.mod_one])⟩ ?_);rintro _ _ w8 ⟨i,l,h9,S,rfl,e,hi,F,O,z⟩;have W:=j9 n m (m-1-i);refine aG ?_;cases C:(decide ((i:Int)<(m:Int)))
 .
  have Z:=oF C;refine lB 13 C (ai (da (CG.exit ?_)))
  show CG _ _ _ _ _ _ _ _
  refine aG ?_;have L:i=m:=by omega
  have hE:aD l=n:=by rw[z,L];exact tv hn
  obtain ⟨_,e,p,Q,U⟩:=e.pub 0;replace e:=(e.to [⟨B,26,[uV 0,eS]⟩] []).aS (SlO.of_flat (sz:=1) (f:=ar) (d:=0) (b:=j) (o:=0) (l:=l) (fun _=>rfl) p);exact lL e ac (aq 37 e (dm (sB j) ((m+7)/8) (l) ((m+7)/8) (n) (by first|rfl|assumption|(simp;done)|(simp;omega)|omega) (O) (hE) sM sM _ _ e.g e.f.1) (fun _ _ e=>lP 0 0 (nc n) e (fun _ e=>af e [(0,0,2)] (nv n) rfl)))
 have Z:=oT C;refine lB 13 C (ai (ci (cK (cQ (kZ (aa e aF (lN (cR 19 [] mixed e aw ?_))))))));refine eV 0 15 (qS (sB j) ((m+7)/8) ((m+7)/8)) (eV 1 16 (nV i) (eV 2 17 (nV (i/8)) ?_ (hv:=fun _=>aN (cZ (t:=3) (u:=3) (x:=.tmp 16) (y:=.const (iV 8)) (k:=.i64) (a:=(i:Int)) (b:=(8:Int)) kR kR kR oM _) (dh i 8 oM))));refine eX 3 18 (sB j) ((m+7)/8) ((m+7)/8) 1 (i/8:Nat) (i/8) rfl (eQ 4 19 0 l ar 1 0 (i/8) (mV ((l).getD (i/8) 0)) e oM (eV 5 20 (qS A m c) (eV 6 21 (qS A m c) (eV 7 22 (nV m) (iO 8 23 ((m:Nat)-1) (m-1) (eV 9 24 (nV i) (iO 10 25 ((m-1:Nat)-(i:Nat)) ((m-1)-i) (eX 11 26 A m c 1 ((m-1)-i:Nat) ((m-1)-i) ((e.f.1).ok oM) (eH 12 27 (.int .u8 ((fx n m).getD ((m-1)-i) 0:Nat)) e ((e.f.1).el ((m-1)-i) oM) (eV 13 28 (mV ((fx n m).getD ((m-1)-i) 0)) ?_ (hv:=fun _=>rU ((((fx n m).getD ((m-1)-i) 0:Nat):Int)) kR (az oM oM))))))))))));refine eV 14 29 (nV i) (eV 15 30 (nV (i%8)) ?_ (hv:=fun _=>aN (dV (t:=3) (u:=3) (x:=.tmp 29) (y:=.const (iV 8)) (k:=.i64) (a:=(i:Int)) (b:=(8:Int)) kR kR kR oM _) (cM i 8)));refine iO 16 31 (8*(i%8:Nat)) (8*(i%8)) (eV 17 32 (mV (((fx n m).getD ((m-1)-i) 0:Nat)*2^(8*(i%8))%18446744073709551616)) ?_ (hv:=fun _=>f8 (t:=24) (u:=3) (x:=.tmp 28) (y:=.tmp 31) (ky:=.i64) (a:=((fx n m).getD ((m-1)-i) 0:Nat)) (n:=(8*(i%8))) kR kR kR _));obtain ⟨H,K,D⟩:=tc oM z (show (fx n m).getD (m-1-i) 0=n/256^i%256 by rw[it n m _ oM,show m-1-(m-1-i)=i by omega]);have hlg:=O.get (i/8);refine eV 18 33 (mV (l.getD (i/8) 0+(fx n m).getD (m-1-i) 0*2^(8*(i%8)))) ?_ (hv:=fun _=>aN (gl (t:=24) (u:=24) (x:=.tmp 19) (y:=.tmp 32) (a:=((l).getD (i/8) 0)) (b:=(((fx n m).getD ((m-1)-i) 0:Nat)*2^(8*(i%8))%18446744073709551616:Nat)) kR kR kR oM oM _) (by rw[H]));refine cG e (fun _ zd e=>tX 19 34 (sB j) ((m+7)/8) ((m+7)/8) 1 (i/8:Nat) (i/8) rfl (tW 20 0 l ar 1 (i/8) (l.getD (i/8) 0+(fx n m).getD (m-1-i) 0*2^(8*(i%8)):Nat) e oM (fun _ e=>?_)));have zc:((l).set (i/8) (l.getD (i/8) 0+(fx n m).getD (m-1-i) 0*2^(8*(i%8)):Nat)).length=((m+7)/8):=by rw[Jt];exact F
 replace e:=e.to [⟨j,24,((l).set (i/8) (l.getD (i/8) 0+(fx n m).getD (m-1-i) 0*2^(8*(i%8)):Nat)).flatMap ar⟩,⟨B,26,[uV 0,eS]⟩] [];refine tN (kQ (bg 35 ((i:Nat)+1) (i+1) ?_));refine lL e ac (lD ?_);intro a_ X;refine ⟨_,_,?_,⟨i+1,(l).set (i/8) (l.getD (i/8) 0+(fx n m).getD (m-1-i) 0*2^(8*(i%8)):Nat),zd,rfl,rfl,e.to _ _,oM,zc,(O.set _ K),D⟩,X.to _ kR⟩
 omega
theorem Fr (n k:Nat)(y:(wds n).length<=1000000000)(H:k<=65536)(w:World)(h:Hp)(g:G w h):CV 245 #[nv n,nV k] w h (nv (n*2^k)):=by
 have a:=sS g;refine go Tryz.func245 [(0,nv n),(1,nV k)] rfl (aG (lA 2 26 (nc n) a (fun F w2 M a=>lA 4 26 ([uV 0,eS]) a (fun J L K a=>aE (lL a ac (lV 6 (nV k) ?_ (hr:=aN (n:=if (65536:Int)<(k:Int) then (65536:Int) else (k:Int)) kR (if_neg oM))))))));refine lV 7 (nV k) ?_ (hr:=aN (n:=if (k:Int)>(-65536:Int) then (k:Int) else (-65536:Int)) kR (if_pos oM));refine lL a ac (ai (aa a ac ?_));have ⟨b,l⟩:=dF (p:=(k:Int)<(0:Int)) oM;refine lB 9 b (ah (cK (aa a [.o (nv n) 1 0 2] (lC 17 a (fG n oM _ _ a.g) ?_))));rintro _ I O a ⟨e,j,rfl,u,i⟩;replace a:=a.aS i;refine lL a ac (lC 19 a (wU e j (wds n) (Wd.wds n) y k oM _ _ a.g a.f.1) ?_);rintro _ _ _ a ⟨B,C,z,rfl,x,D,d,c,hz⟩;replace a:=a.aS hz;exact aq 20 a (dm B C (z) z.length ((n*2^k)) (by first|rfl|assumption|(simp;done)|(simp;omega)|omega) (d) (by rw[c,aZ]) sM sM _ _ a.g a.f.1) (fun _ _ a=>lP 0 0 (nc (n*2^k)) a (fun _ a=>af a [(0,0,2)] (nv (n*2^k)) rfl))
section
variable {P:Program}{Γ:ck}{o:Oper}
theorem Gt {t e:TypeId}{x ix:Operand}{b off sz len:Nat}{i:Int}{kk:IntKind}(k:Nat)(l:o.op=.indexAddr t x ix)(h:ev Γ x=.pointer (some ⟨b,off,none⟩))(hi:ev Γ ix=.int kk i)
    (hu:P.underlying t=some (.array len e))(c:(P.info? e).map (·.size)=some sz)(j:i=k)(u:k<len)(w:World) :
    (execOp (ev Γ) o).run P w=.ok (.value (.pointer (some ⟨b,off+k*sz,none⟩))) w:=by
  subst j
  unfold execOp
  simp only[l]
  rw[h,hi];have d:P.elem t=e:=by unfold Program.elem;rw[hu]
  have f:P.arrayLen t=len:=by unfold Program.arrayLen;rw[hu]
  have h1:=run_indexAt_array (P:=P) w t ⟨b,off,none⟩ kk (k:Int) (by rw[d,f];exact hu);rw[f,if_pos ⟨by omega,by omega⟩,d] at h1
  have p:(sizeOf e).run P w=.ok sz w:=by
    cases a:P.info? e with
    | none=>rw[a] at c;cases c
    | some i =>
      rw[a] at c
      simp at c
      simp[sizeOf,typeInfo,a,c]
  rw[p] at h1
  simp[h1,Result.andThen,Addr.add]
end
def Tz (n k m:Nat):Prop:=n=2^k*m/\m%2=1
theorem E0 {x:Nat}(h0:x≠0)(h:x<18446744073709551616):∃ m,Tz x (Lib.ctz 64 x) m/\Lib.ctz 64 x<64:=by
 unfold Lib.ctz
 rw[if_neg h0];obtain ⟨m,e,a⟩:=Lib.ctzFrom_spec 64 x oM h;exact ⟨2*m+1,⟨e,by omega⟩,a⟩
theorem Tz.odd_pos {n k m:Nat}(h:Tz n k m):0<m:=by have:=h.2;omega
theorem Tz.word {n i x k m r:Nat}(e:n=18446744073709551616^i*(x+18446744073709551616*r))(t:Tz x k m)(f:k<64):Tz n (64*i+k) (m+2^(64-k)*r):=by
 obtain ⟨c,d⟩:=t;refine ⟨?_,?_⟩
 ·have a:(18446744073709551616:Nat)=2^k*2^(64-k):=by rw[<-Am,show k+(64-k)=64 by omega]
  have b:(18446744073709551616:Nat)^i=2^(64*i):=by rw[A4]
  rw[e,b,c]
  conv=>lhs;rw[a]
  rw[Am,zY (2^k),<-zT,<-zY]
 ·obtain ⟨j,hj⟩:∃ j,64-k=j+1:=⟨63-k,by omega⟩
  rw[hj,zy,zz (2^j) 2,zY]
  omega
theorem Tz.uniq {n k m c f:Nat}(a:Tz n k m)(b:Tz n c f):k=c/\m=f:=by
 obtain ⟨j,p⟩:=a;obtain ⟨i,x⟩:=b
 have key:∀ {k m c f:Nat},2^k*m=2^c*f->m%2=1->c<=k:=fun {k m c f} e l=>by
  rcases co k c with h|h
  ·exfalso
   obtain ⟨d,rfl⟩:∃ d,c=k+(d+1):=⟨c-k-1,by omega⟩;rw[Am,zY] at e
   have o:=JW (z8 k) e;rw[zy,zz (2^d) 2,zY] at o
   omega
  ·exact h
 have h1:=key (j.symm.trans i) p;have y:=key (i.symm.trans j) x;have u:k=c:=by omega
 subst u;exact ⟨rfl,JW (z8 k) (j.symm.trans i)⟩
theorem n7 {x y:Nat}(b:y%2=1):JK (2*x) y=JK x y:=by
 have a:Nat.Coprime 2 y:=by
  unfold Nat.Coprime
  rw[Nat.gcd_rec,b];rfl
 exact a.gcd_mul_left_cancel x
theorem eP {x y:Nat}(a:y%2=1):∀ k,JK (2^k*x) y=JK x y
  | 0=>by simp
  | k+1=>by
    rw[zy,zz (2^k) 2,zY,n7 a];exact eP a k
theorem vR {x y k l m n:Nat}(a:Tz x k m)(b:Tz y l n):JK x y=JK m n*2^min k l:=by
 obtain ⟨e,f⟩:=a;obtain ⟨c,i⟩:=b;subst e c
 rcases JX k l with h|h
 ·rw[z2 h]
  obtain ⟨d,rfl⟩:∃ d,l=k+d:=⟨l-k,by omega⟩;rw[Am,zY,JY,JL m,eP f,JL n,zz]
 ·rw[Ja h]
  obtain ⟨d,rfl⟩:∃ d,k=l+d:=⟨k-l,by omega⟩;rw[Am,zY,JY,eP i,zz]
theorem sR {x y k m:Nat}(a:y<x)(b:y%2=1)(t:Tz (x-y) k m):JK m y=JK x y:=by
 rw[<-eP b k,<-t.1];have e:=Nat.gcd_add_self_left (m:=y) (n:=x-y);rw[show x-y+y=x by omega] at e
 exact e.symm
theorem SlO.win {α:Type}{f:α->List Value}{d:α}{h:Hp}{b:Nat}{l:List α}(hf:∀ x,(f x).length=1)(i:Seg h b 0 (l.flatMap f))(o n:Nat):SlO 1 f d h (some ⟨b,o,none⟩) ((l.drop o).take n):=by
  have a:=i.part o ((l.drop o).take n).length;rw[s4] at a
  have e:∀ (l:List α) (o n:Nat),((l.flatMap f).drop o).take ((l.drop o).take n).length=((l.drop o).take n).flatMap f:=by
    have k:∀ (l:List α),(l.flatMap f).length=l.length:=fun l=>by
      induction l with
      | nil=>rfl
      | cons x l ih=>rw[rh,List.length_append,hf,ih,List.length_cons];omega
    have c:∀ (l:List α) (o:Nat),(l.flatMap f).drop o=(l.drop o).flatMap f:=fun l=>by
      induction l with
      | nil=>intro o;simp
      | cons x l ih =>
        intro o;cases o with
        | zero=>rfl
        | succ o =>
          rw[rh,List.drop_append,hf,JA (by rw[hf];omega),List.nil_append,List.drop_succ_cons,Jl];exact ih o
    have j:∀ (l:List α) (n:Nat),(l.flatMap f).take n=(l.take n).flatMap f:=fun l=>by
      induction l with
      | nil=>intro n;simp
      | cons x l ih =>
        intro n;cases n with
        | zero=>rfl
        | succ n =>
          rw[rh,List.take_append,hf,I7 (by rw[hf];omega),List.take_succ_cons,rh,Jl,ih n]
    intro l o n;rw[c,j,z1]
    congr 1
    rcases JX n (l.drop o).length with h|h
    . rw[z2 h]
    . rw[Ja h,r9,I7 h]
  rw[e] at a
  exact SlO.of_flat hf a
def Ic (h:Hp):Prop:=Seg h 5 0 (Lib.deBruijn64tab.map fun k=>Value.int .u8 ((k:Nat):Int))
def Hi (h:Hp):Prop:=∃ t g,h[3]?=some (.cells (Lib.pow10Tab.map fun z=>Value.int .u64 z).toArray t g)
def Tab (h:Hp):Prop:=Ic h/\Hi h
theorem Tab.gw {h a:Hp}(t:Tab h)(u:Gw h a):Tab a:=⟨Seg.gw t.1 u,by
 obtain ⟨d,c,e⟩:=t.2;refine ⟨d,c,?_⟩
 rcases u.blk _ (Array.getElem?_eq_some_iff.1 e).1 with e2|e2
 ·rw[e2,e]
 ·rw[e] at e2
  injection e2 with e2
  unfold junk at e2
  injection e2 with e2
  have b:=congrArg Array.size e2
  simp[Lib.pow10Tab] at b⟩
theorem SS.aWt {w0 w:World}{h0 h:Hp}{B:List Bx}{R:List Rw}{F:List (Hp->Prop)}(s:SS w0 h0 w h B R F)(p:Tab h):SS w0 h0 w h B R ((fun h=>Tab h)::F):=s.add (K:=fun h=>Tab h) p
theorem Tab.at {h:Hp}(t:Tab h){k i:Nat}(e:i<64/\Lib.deBruijn64tab.getD i 0=k):Seg h 5 i [.int .u8 ((k:Nat):Int)]:=by
 have a:=Seg.part t.1 i 1;obtain ⟨hi,rfl⟩:=e;rw[s4] at a
 have b:i<Lib.deBruijn64tab.length:=by show i<64;exact hi
 have c:((Lib.deBruijn64tab.map fun k=>Value.int .u8 ((k:Nat):Int)).drop i).take 1=[.int .u8 ((Lib.deBruijn64tab.getD i 0:Nat):Int)]:=by
  rw[List.drop_eq_getElem_cons (by simpa using b)]
  simp[b]
 rw[c] at a
 exact a
theorem Ie {s:Result Next}{b z:Nat}{w:World}(h:s=.ok (.value (.pointer (some ⟨b,0+z*1,none⟩))) w):s=.ok (.value (.pointer (some ⟨b,z,none⟩))) w:=by rw[h,HA,s4]
theorem xY {l:List Nat}(a:Wd l)(c:l.length<=(wds (aD l)).length):wds (aD l)=l:=by
 have e:=kY a;have h1:(wds (aD l)).length=min (tl l l.length) l.length:=by rw[e,z1]
 have b:=fY l l.length;rw[e,I7 oM]
theorem GG {l:List Nat}(a:Wd l):aD l<256^(8*l.length):=by
 have:=bV a;rw[A4];exact this
theorem Fc {a b:Nat}(h:wds a=wds b):a=b:=by rw[<-aZ a,<-aZ b,h]
theorem xK {l:List Nat}{i:Nat}(h:i<l.length)(h0:l.getD i 0=0){n:Nat}(a:n=18446744073709551616^i*am 18446744073709551616 (l.drop i)):n=18446744073709551616^(i+1)*am 18446744073709551616 (l.drop (i+1)):=by
 rw[a,e7 _ h,h0,s4,zy,zY]
theorem Ha (x:Nat)(o:x≠0)(C:x<18446744073709551616)(w:World)(h:Hp)(g:G w h)(D:Tab h):CV 203 #[mV x] w h (nV (Lib.ctz 64 x)):=by
 have d:=((sS g).add (K:=fun H=>Tab H) D);obtain ⟨l,F⟩:=Lib.lowest_bit 64 x o C;have c:=Lib.deBruijn64_at _ F
 generalize Lib.ctz 64 x=k at *
 generalize hp:2^k=p at *
 obtain ⟨y,hy⟩:∃ y,p*285870213051353865%18446744073709551616=y:=⟨_,rfl⟩;rw[hy] at c
 obtain ⟨z,hz⟩:∃ z,y/288230376151711744=z:=⟨_,rfl⟩;rw[hz] at c
 refine go Tryz.func203 [(0,mV x)] rfl (aa d ac (ai (aa d ac ?_)));have j:((x:Int) == (0:Int))=false:=gI oM;have B:=ao j;refine lB 4 j (ah (cK (aa d aF (lV 7 (mV (18446744073709551616-x)) ?_ (hr:=rU ((0-(x:Int))) kR (by rw[IntKind.wrap_u64];omega))))));refine lV 8 (mV p) ?_ (hr:=aN (n:=bits .and .u64 (x:Int) ((18446744073709551616-x:Nat):Int)) kR (by rw[bits_and_u64_nat _ _ C oM];exact congrArg _ l));refine lV 9 (mV y) ?_ (hr:=rU (((p:Int)*285870213051353865)) kR ((iQ p 285870213051353865).trans (congrArg _ hy)));refine lV 10 (mV z) ?_ (hr:=aN (fK (t:=24) (u:=162) (x:=.tmp 9) (y:=.const (uV 58)) (ky:=.u64) (a:=y) (n:=58) kR kR kR oM _) (congrArg _ (by rw[show (2:Nat)^58=288230376151711744 from rfl];exact hz)));refine lV 11 (qP 5 z) ?_ (hr:=Ie (Gt (t:=253) (e:=5) (x:=.global 5) (ix:=.tmp 10) (b:=5) (off:=0) (sz:=1) (len:=64) (kk:=.u64) (i:=(z:Int)) z kR kR kR kR kR rfl c.1 _));refine lH 12 (.int .u8 (k:Int)) d (Tab.at d.f.1 c) (lV 13 (nV k) ?_ (hr:=rS ((k:Int)) kR (jV oM oM)));exact lL d ac (af d [] (nV k) rfl)
theorem qO (A:Z9)(c:Nat)(l:List Nat)(n:Nat)(U:l.length=n)(z:Wd l)(L:0<aD l)(J:l.length<=1000000000)(w:World)(h:Hp)(g:G w h)(I:Tab h)(F:SlO 1 ar 0 h A l):CR 240 #[.slice A n c] w h (fun v _=>∃ k m:Nat,v=nV k/\Tz (aD l) k m/\k/64<l.length):=by
 have a:=(((sS g).add (K:=fun b=>Tab b) I).aS F);refine go Tryz.func240 [(0,qS A n c)] rfl (aa a ac (aE (lL a ac (ai (kZ ?_)))));refine bG _ (CG.loop (fun u Γ B=>∃ (i:Nat)(b:Hp),u=l.length-i/\Γ=[(0,qS A n c),(2,iV 0),(3,nV i)]/\SS w h B b [] [] [fun b=>SlO 1 ar 0 b A l,fun b=>Tab b]/\i<=l.length/\aD l=18446744073709551616^i*am 18446744073709551616 (l.drop i)) _ ⟨0,h,rfl,rfl,a.to _ _,JH _,(by show am _ _=_;rw[JI,I8,rk])⟩ ?_);rintro _ _ w1 ⟨i,H,C,rfl,a,hi,e⟩;have j:i<l.length:=by rcases co i l.length with b|b;exact b;rw[JA b] at e;simp[am] at e;omega
 refine cQ (aa a aF (lX 6 A n c 1 (i:Nat) i ((a.f.1).ok oM) ?_));refine lH 7 (mV (l.getD i 0)) a ((a.f.1).el i oM) ?_;cases d:(((l.getD i 0:Nat):Int) == (0:Int))
 .
  have p:=ao d;refine lB 8 d (ah (CG.exit ?_))
  show CG _ _ _ _ _ _ _ _
  refine aa a ac (lI 12 (64*(i:Nat)) ?_);refine lL a aF (lX 15 A n c 1 (i:Nat) i ((a.f.1).ok oM) ?_);refine lH 16 (mV (l.getD i 0)) a ((a.f.1).el i oM) (aq 17 a (Ha (l.getD i 0) oM (z.get i) _ _ a.g a.f.2.1) (fun Q M a=>?_));obtain ⟨O,y,o⟩:=E0 (x:=l.getD i 0) oM (z.get i);exact lI 18 ((64*(i:Nat))+(Lib.ctz 64 (l.getD i 0):Nat)) (lL a ac (af a [] (iV ((64*(i:Nat))+(Lib.ctz 64 (l.getD i 0):Nat))) (⟨_,_,rfl,Tz.word (by rw[e,e7 _ j]) y o,by omega⟩)))
 have p:=eq_of_beq d;refine lB 8 d (aj (cK (kZ (kQ (lL a ac (bg 10 ((i:Nat)+1) (i+1) ?_))))));refine lL a ac (lD ?_);intro S D;refine ⟨_,_,?_,⟨i+1,H,rfl,rfl,a.to _ _,oM,(xK j oM e)⟩,D.to _ kR⟩
 omega
theorem C4 (A:Z9)(c:Nat)(l:List Nat)(n:Nat)(H:l.length=n)(D:l.length<=1099511627776)(C:l.length<=c)(w:World)(h:Hp)(g:G w h)(x:SlO 1 ar 0 h A l):CV 251 #[.slice A n c] w h (.slice A (tl l n) c):=by
 have a:=((sS g).aS x);refine go Tryz.func251 [(0,qS A n c)] rfl (aa a ac (ai (kZ ?_)));refine bG _ (CG.loop (fun j Γ z=>∃ (m:Nat)(k:Hp),j=m/\Γ=[(2,sZ),(0,qS A m c)]/\SS w h z k [] [] [fun k=>SlO 1 ar 0 k A l]/\m<=n/\tl l n=tl l m) _ ⟨n,h,rfl,rfl,a.to _ _,nR _,rfl⟩ ?_);rintro _ _ w1 ⟨m,y,p,rfl,a,B,o⟩;refine cQ (aa a [.c,.v (nV m)] ?_);cases b:(decide ((0:Int)<(m:Int)))
 .
  have i:=oF b;refine lB 5 b (lL a ac (lG 7 ?_));refine lG 8 (lG 9 (lG 10 (lG 11 (lG 12 (lG 13 (lL a [.v qF] (ah (CG.exit ?_))))))))
  show CG _ _ _ _ _ _ _ _
  exact aa a aF (af a [] (qS A m c) (by rw[o,mI oM]))
 have i:=oT b;refine lB 5 b (lL a [.c,.c,.c,.v (nV m)] (bg 10 ((m:Nat)-1) (m-1) ?_));refine lX 11 A m c 1 (m-1:Nat) (m-1) ((a.f.1).ok oM) (lH 12 (mV (l.getD (m-1) 0)) a ((a.f.1).el (m-1) oM) ?_);cases d:(((l.getD (m-1) 0:Nat):Int) == (0:Int))
 .
  have e:=ao d;refine lB 13 d (lL a [.v qF] (ah (CG.exit ?_)))
  show CG _ _ _ _ _ _ _ _
  exact aa a aF (af a [] (qS A m c) (by rw[o,mI oM]))
 have e:=eq_of_beq d;refine lB 13 d (lL a [.v qT] (aj (cK (kZ (kQ (lL a [.c,.c,.v (nV m)] (bg 18 ((m:Nat)-1) (m-1) ?_)))))));refine lT 19 A m c 1 (m-1:Nat) (m-1) (lL a ac (lD ?_));intro F u;refine ⟨_,_,?_,⟨m-1,y,rfl,rfl,a.to _ _,oM,(by rw[o];exact wY oM oM)⟩,u.to _ kR⟩
 omega
theorem xv (A:Z9)(c:Nat)(D:Z9)(d:Nat)(x y n e:Nat)(hn:(wds x).length=n)(U:(wds y).length=e)(S:(wds x).length<=1000000000)(L:(wds y).length<=1000000000)(w:World)(h:Hp)(g:G w h)(K:SlO 1 ar 0 h A (wds x))(O:SlO 1 ar 0 h D (wds y)):CV 242 #[.slice A n c,.slice D e d] w h (iV (cY x y)):=by
 have a:=(((sS g).aS K).aS O);refine go Tryz.func242 [(0,qS A n c),(1,qS D e d)] rfl (aa a ac (ai (aa a [.c,.v (nV n),.c,.v (nV e)] ?_)));cases o:((n:Int) != (e:Int))
 .
  have u:=ay o;refine lB 10 o (ah (cK (cQ (aa a [.c,.v (nV n)] (lV 18 (iV ((n:Int)-1)) ?_ (hr:=rS (((n:Nat)-1)) kR ((dS oM oM).trans oM)))))));refine lL a ac (bE ?_);refine bG _ (CG.loop (fun H Γ W=>∃ (m:Nat)(z:Hp),H=m/\Γ=[(0,qS A n c),(1,qS D e d),(5,iV ((m:Int)-1))]/\SS w h W z [] [] [fun z=>SlO 1 ar 0 z D (wds y),fun z=>SlO 1 ar 0 z A (wds x)]/\m<=n/\(wds x).length=(wds y).length/\(wds x).drop m=(wds y).drop m) _ ⟨n,h,rfl,rfl,a.to _ _,nR _,oM,(by rw[JA oM,JA oM])⟩ ?_);rintro _ _ w2 ⟨m,Z,I,rfl,a,X,b,i⟩;refine cQ (aa a ac ?_);cases l:(decide ((0:Int)<=((m:Int)-1:Int)))
  .
   have p:=oF l;refine lB 20 l (ah (CG.exit ?_))
   show CG _ _ _ _ _ _ _ _
   exact aa a ac (af a [] (iV 0) (by rw[ip (Fc (by rw[show m=0 by omega] at i;simpa using i))]))
  have p:=oT l;refine lB 20 l (aj (cK (cQ (kZ (cQ (cR 9 [] mixed a aw ?_))))));refine eV 0 23 (qS A n c) (eV 1 24 (iV ((m:Int)-1)) (eX 2 25 A n c 1 ((m:Int)-1) (m-1) ((a.f.2.1).ok oM) (eH 3 26 (mV ((wds x).getD (m-1) 0)) a ((a.f.2.1).el (m-1) oM) (eV 4 27 (qS D e d) (eV 5 28 (iV ((m:Int)-1)) (eX 6 29 D e d 1 ((m:Int)-1) (m-1) ((a.f.1).ok oM) (eH 7 30 (mV ((wds y).getD (m-1) 0)) a ((a.f.1).el (m-1) oM) ?_)))))));cases j:((((wds x).getD (m-1) 0:Nat):Int) != (((wds y).getD (m-1) 0:Nat):Int))
  .
   have B:=ay j;refine eB 8 31 j (cG a (fun w7 Q a=>tN (da (cK (kQ (lL a ac (lV 22 (iV (((m-1:Nat):Int)-1)) ?_ (hr:=rS ((((m:Int)-1)-1)) kR ((dS oM oM).trans oM)))))))));refine lL a ac (lD ?_);intro Y J;refine ⟨_,_,?_,⟨m-1,Q,rfl,rfl,a.to _ _,oM,b,(eM (k:=m-1) b oM (by rw[show m-1+1=m by omega];exact i) oM)⟩,J.to _ kR⟩
   omega
  have B:=a6 j;refine eB 8 31 j (cG a (fun _ _ a=>tN (ci (cQ (cQ (cR 9 [] mixed a aw ?_))))));refine eV 0 32 (qS A n c) (eV 1 33 (iV ((m:Int)-1)) (eX 2 34 A n c 1 ((m:Int)-1) (m-1) ((a.f.2.1).ok oM) (eH 3 35 (mV ((wds x).getD (m-1) 0)) a ((a.f.2.1).el (m-1) oM) (eV 4 36 (qS D e d) (eV 5 37 (iV ((m:Int)-1)) (eX 6 38 D e d 1 ((m:Int)-1) (m-1) ((a.f.1).ok oM) (eH 7 39 (mV ((wds y).getD (m-1) 0)) a ((a.f.1).el (m-1) oM) ?_)))))));cases F:(decide ((((wds x).getD (m-1) 0:Nat):Int)<(((wds y).getD (m-1) 0:Nat):Int)))
  .
   have M:=oF F;exact eB 8 40 F (cG a (fun _ _ a=>tN (da (cK (aa a ac (af a [] (iV 1) (by rw[<-kH (k:=m-1) b oM (by rw[show m-1+1=m by omega];exact i) oM,eU oM])))))))
  have M:=oT F;exact eB 8 40 F (cG a (fun _ _ a=>tN (ci (aa a ac (af a [] (iV (-1)) (by rw[<-kH (k:=m-1) b oM (by rw[show m-1+1=m by omega];exact i) oM,dK oM]))))))
 have u:=a6 o;refine lB 10 o (aj (cQ (aa a [.c,.v (nV n),.c,.v (nV e)] ?_)));cases C:(decide ((n:Int)<(e:Int)))
 .
  have V:=oF C;exact lB 15 C (ah (cK (aa a ac (af a [] (iV 1) (by rw[eU (fs oM)])))))
 have V:=oT C;exact lB 15 C (aj (aa a ac (af a [] (iV (-1)) (by rw[dK (fs oM)]))))
theorem xd (n:Nat)(hn:0<n)(hl:(wds n).length<=1000000000)(w:World)(h:Hp)(g:G w h):CR 239 #[nv n] w h (fun v h1=>B5 h h1 v (wds n)):=by
 have e:=sS g;have hnb:=kL n;have hwl:=lJ n;have hbl:=jb n ((nb n+7)/8);have W:=(cl hn).2.2;refine go Tryz.func239 [(0,nv n)] rfl (aG (lA 1 26 (nc n) e (fun K w2 h3 e=>lL e ac (aE (lL e [.o (nv n) 0 0 2] (lC 7 e (wA n hl _ _ e.g) ?_))))));rintro _ w4 h5 e ⟨z,rfl,hb⟩;replace e:=e.aS hb;refine lL e ac (aE (lL e [.c,.v (nV ((nb n+7)/8))] (bg 10 ((((nb n+7)/8):Nat)+7) ((((nb n+7)/8):Nat)+7) ?_)));refine lV 11 (nV (((((nb n+7)/8):Nat)+7:Nat)/8)) ?_ (hr:=aN (cZ (t:=3) (u:=3) (x:=.tmp 10) (y:=.const (iV 8)) (k:=.i64) (a:=(((((nb n+7)/8):Nat)+7:Nat):Int)) (b:=(8:Int)) kR kR kR oM _) (dh ((((nb n+7)/8):Nat)+7:Nat) 8 oM));refine lK 12 24 (((((nb n+7)/8):Nat)+7:Nat)/8:Nat) 1 8 (uV 0) ar 0 e (fun j w7 h8 e=>?_);have S:(ta (((((nb n+7)/8):Nat)+7:Nat)/8:Nat) 0).length=(((((nb n+7)/8):Nat)+7:Nat)/8:Nat):=by simp
 refine lL e ac (ai (aa e [.c,.v (nV ((nb n+7)/8)),.c] (bE ?_)));refine bG _ (CG.loop (fun M Γ Z=>∃ (i:Nat)(l:List Nat)(U:Hp),M=((nb n+7)/8)-i/\Γ=[(2,sZ),(3,qS z ((nb n+7)/8) ((nb n+7)/8)),(4,qS (sB j) (((((nb n+7)/8):Nat)+7:Nat)/8:Nat) (((((nb n+7)/8):Nat)+7:Nat)/8:Nat)),(14,nV ((nb n+7)/8)),(15,nV i)]/\SS w h Z U [⟨j,24,(l).flatMap ar⟩,⟨K,26,nc n⟩] [] [fun U=>SlO 1 p8 0 U z (fx n ((nb n+7)/8))]/\i<=((nb n+7)/8)/\l.length=(((nb n+7)/8)+7)/8/\Wd l/\aD l=n%256^i) _ ⟨0,ta (((((nb n+7)/8):Nat)+7:Nat)/8:Nat) 0,h8,rfl,rfl,e.to _ _,JH _,S,Wd.rep _,(by show am _ _=_;rw[di,JI,Nat.mod_one])⟩ ?_);rintro _ _ _ ⟨i,l,_,Y,rfl,e,hi,p,V,B⟩;have hbi:=j9 n ((nb n+7)/8) (((nb n+7)/8)-1-i);refine aG ?_;cases H:(decide ((i:Int)<((((nb n+7)/8):Nat):Int)))
 .
  have zb:=oF H;refine lB 16 H (ai (da (CG.exit ?_)))
  show CG _ _ _ _ _ _ _ _
  refine aa e aF (lN (kX ?_));have Q:i=((nb n+7)/8):=by omega
  have X:aD l=n:=by rw[B,Q];exact tv (CX n)
  have J:l=wds n:=by rw[<-X];exact (xY V (by rw[p,X];omega)).symm
  rw[J] at e
  obtain ⟨_,e,F,C,D⟩:=e.pub 0;replace e:=(e.to [⟨K,26,nc n⟩] []).aS (SlO.of_flat (sz:=1) (f:=ar) (d:=0) (b:=j) (o:=0) (l:=wds n) (fun _=>rfl) F);exact e.ret [] (qS (sB j) (((((nb n+7)/8):Nat)+7:Nat)/8:Nat) (((((nb n+7)/8):Nat)+7:Nat)/8:Nat)) (⟨j,(by rw[show (((nb n+7)/8)+7)/8=(wds n).length by omega]),C,D,e.f.1⟩)
 have zb:=oT H;refine lB 16 H (ai (ci (cK (cQ (kZ (aa e aF (lN (cR 19 [] mixed e aw ?_))))))));refine eV 0 18 (qS (sB j) (((((nb n+7)/8):Nat)+7:Nat)/8:Nat) (((((nb n+7)/8):Nat)+7:Nat)/8:Nat)) (eV 1 19 (nV i) (eV 2 20 (nV (i/8)) ?_ (hv:=fun _=>aN (cZ (t:=3) (u:=3) (x:=.tmp 19) (y:=.const (iV 8)) (k:=.i64) (a:=(i:Int)) (b:=(8:Int)) kR kR kR oM _) (dh i 8 oM))));refine eX 3 21 (sB j) (((((nb n+7)/8):Nat)+7:Nat)/8:Nat) (((((nb n+7)/8):Nat)+7:Nat)/8:Nat) 1 (i/8:Nat) (i/8) rfl (eQ 4 22 0 l ar 1 0 (i/8) (mV ((l).getD (i/8) 0)) e oM (eV 5 23 (qS z ((nb n+7)/8) ((nb n+7)/8)) (eV 6 24 (qS z ((nb n+7)/8) ((nb n+7)/8)) (eV 7 25 (nV ((nb n+7)/8)) (iO 8 26 ((((nb n+7)/8):Nat)-1) ((((nb n+7)/8):Nat)-1) (eV 9 27 (nV i) (iO 10 28 (((((nb n+7)/8):Nat)-1:Nat)-(i:Nat)) (((((nb n+7)/8):Nat)-1:Nat)-i) (eX 11 29 z ((nb n+7)/8) ((nb n+7)/8) 1 (((((nb n+7)/8):Nat)-1:Nat)-i:Nat) (((((nb n+7)/8):Nat)-1:Nat)-i:Nat) ((e.f.1).ok oM) (eH 12 30 (.int .u8 ((fx n ((nb n+7)/8)).getD (((((nb n+7)/8):Nat)-1:Nat)-i:Nat) 0:Nat)) e ((e.f.1).el (((((nb n+7)/8):Nat)-1:Nat)-i:Nat) oM) (eV 13 31 (mV ((fx n ((nb n+7)/8)).getD (((((nb n+7)/8):Nat)-1:Nat)-i:Nat) 0)) ?_ (hv:=fun _=>rU ((((fx n ((nb n+7)/8)).getD (((((nb n+7)/8):Nat)-1:Nat)-i:Nat) 0:Nat):Int)) kR (az oM oM))))))))))));refine eV 14 32 (nV i) (eV 15 33 (nV (i%8)) ?_ (hv:=fun _=>aN (dV (t:=3) (u:=3) (x:=.tmp 32) (y:=.const (iV 8)) (k:=.i64) (a:=(i:Int)) (b:=(8:Int)) kR kR kR oM _) (cM i 8)));refine iO 16 34 (8*(i%8:Nat)) (8*(i%8)) (eV 17 35 (mV (((fx n ((nb n+7)/8)).getD (((((nb n+7)/8):Nat)-1:Nat)-i:Nat) 0:Nat)*2^(8*(i%8))%18446744073709551616)) ?_ (hv:=fun _=>f8 (t:=24) (u:=3) (x:=.tmp 31) (y:=.tmp 34) (ky:=.i64) (a:=((fx n ((nb n+7)/8)).getD (((((nb n+7)/8):Nat)-1:Nat)-i:Nat) 0:Nat)) (n:=(8*(i%8))) kR kR kR _));obtain ⟨L,O,I⟩:=tc oM B (show (fx n ((nb n+7)/8)).getD (((nb n+7)/8)-1-i) 0=n/256^i%256 by rw[it n ((nb n+7)/8) _ oM,show ((nb n+7)/8)-1-(((nb n+7)/8)-1-i)=i by omega]);have hlg:=V.get (i/8);refine eV 18 36 (mV (l.getD (i/8) 0+(fx n ((nb n+7)/8)).getD (((nb n+7)/8)-1-i) 0*2^(8*(i%8)))) ?_ (hv:=fun _=>aN (gl (t:=24) (u:=24) (x:=.tmp 22) (y:=.tmp 35) (a:=((l).getD (i/8) 0)) (b:=(((fx n ((nb n+7)/8)).getD (((((nb n+7)/8):Nat)-1:Nat)-i:Nat) 0:Nat)*2^(8*(i%8))%18446744073709551616:Nat)) kR kR kR oM oM _) (by rw[L]));refine cG e (fun _ zd e=>tX 19 37 (sB j) (((((nb n+7)/8):Nat)+7:Nat)/8:Nat) (((((nb n+7)/8):Nat)+7:Nat)/8:Nat) 1 (i/8:Nat) (i/8) rfl (tW 20 0 l ar 1 (i/8) (l.getD (i/8) 0+(fx n ((nb n+7)/8)).getD (((nb n+7)/8)-1-i) 0*2^(8*(i%8)):Nat) e oM (fun _ e=>?_)));have zc:((l).set (i/8) (l.getD (i/8) 0+(fx n ((nb n+7)/8)).getD (((nb n+7)/8)-1-i) 0*2^(8*(i%8)):Nat)).length=(((((nb n+7)/8):Nat)+7:Nat)/8:Nat):=by rw[Jt];exact p
 replace e:=e.to [⟨j,24,((l).set (i/8) (l.getD (i/8) 0+(fx n ((nb n+7)/8)).getD (((nb n+7)/8)-1-i) 0*2^(8*(i%8)):Nat)).flatMap ar⟩,⟨K,26,nc n⟩] [];refine tN (kQ (bg 38 ((i:Nat)+1) (i+1) ?_));refine lL e ac (lD ?_);intro a_ ka;refine ⟨_,_,?_,⟨i+1,(l).set (i/8) (l.getD (i/8) 0+(fx n ((nb n+7)/8)).getD (((nb n+7)/8)-1-i) 0*2^(8*(i%8)):Nat),zd,rfl,rfl,e.to _ _,oM,zc,(V.set _ O),I⟩,ka.to _ kR⟩
 omega
theorem CE (A:Z9)(c:Nat)(l:List Nat)(n:Nat)(hn:l.length=n)(L:Wd l)(hl:l.length<=1000000000)(w:World)(h:Hp)(g:G w h)(X:SlO 1 ar 0 h A l):CV 244 #[.slice A n c] w h (nv (aD l)):=by
 have e:=((sS g).aS X);refine go Tryz.func244 [(0,qS A n c)] rfl (aG (lA 2 26 ([uV 0,eS]) e (fun D w2 h3 e=>aE (lL e [.c,.v (nV n)] (bg 7 (8*(n:Nat)) (8*n) ?_)))));refine lK 8 5 (8*n) 1 1 (.int .u8 0) p8 0 e (fun B w5 h6 e=>?_);have I:(ta (8*n) 0).length=(8*n):=by simp
 refine lL e ac (ai (aa e [.c,.v (nV (8*n)),.c] (bE ?_)));refine bG _ (CG.loop (fun J Γ V=>∃ (i:Nat)(z:List Nat)(K:Hp),J=8*n-i/\Γ=[(0,qS A n c),(2,pB D),(3,qS (sB B) (8*n) (8*n)),(10,nV (8*n)),(11,nV i)]/\SS w h V K [⟨B,5,(z).flatMap p8⟩,⟨D,26,[uV 0,eS]⟩] [] [fun K=>SlO 1 ar 0 K A l]/\i<=8*n/\z.length=8*n/\(∀ j,j<i->z.getD (8*n-1-j) 0=aD l/256^j%256)) _ ⟨0,ta (8*n) 0,h6,rfl,rfl,e.to _ _,JH _,I,(fun j O=>absurd O oM)⟩ ?_);rintro _ _ w8 ⟨i,z,h9,Q,rfl,e,hi,p,S⟩;have hwi:=L.get (i/8);refine aG ?_;cases F:(decide ((i:Int)<(((8*n):Nat):Int)))
 .
  have Y:=oF F;refine lB 12 F (ai (da (CG.exit ?_)))
  show CG _ _ _ _ _ _ _ _
  refine aa e ac ?_;have him:i=8*n:=by omega
  have H:z=fx (aD l) (8*n):=vB p (fun j O=>S j oM);rw[H] at e
  obtain ⟨_,e,C,M,U⟩:=e.pub 0;replace e:=(e.to [⟨D,26,[uV 0,eS]⟩] []).aS (SlO.of_flat (sz:=1) (f:=p8) (d:=0) (b:=B) (o:=0) (l:=fx (aD l) (8*n)) (fun _=>rfl) C);exact aq 33 e (Ec (aD l) (8*n) (sB B) (8*n) oM oM (by have:=GG L;rwa [hn] at this) _ _ e.g e.f.1) (fun _ _ e=>lP 0 0 (nc (aD l)) e (fun _ e=>af e [(0,0,2)] (nv (aD l)) rfl))
 have Y:=oT F;refine lB 12 F (ai (ci (cK (cQ (kZ (aa e aF (lN (kQ (lL e [.c,.c,.v (nV (8*n))] (bg 17 (((8*n):Nat)-1) ((8*n)-1) ?_))))))))));refine lL e ac (bg 19 (((8*n)-1:Nat)-(i:Nat)) (((8*n)-1)-i) ?_);refine lL e aF (lV 22 (nV (i/8)) ?_ (hr:=aN (cZ (t:=3) (u:=3) (x:=.tmp 21) (y:=.const (iV 8)) (k:=.i64) (a:=(i:Int)) (b:=(8:Int)) kR kR kR oM _) (dh i 8 oM)));refine lX 23 A n c 1 (i/8:Nat) (i/8) ((e.f.1).ok oM) (lH 24 (mV (l.getD (i/8) 0)) e ((e.f.1).el (i/8) oM) (lL e ac (lV 26 (nV (i%8)) ?_ (hr:=aN (dV (t:=3) (u:=3) (x:=.tmp 25) (y:=.const (iV 8)) (k:=.i64) (a:=(i:Int)) (b:=(8:Int)) kR kR kR oM _) (cM i 8)))));refine bg 27 (8*(i%8:Nat)) (8*(i%8)) (lV 28 (mV ((l.getD (i/8) 0)/2^(8*(i%8)))) ?_ (hr:=fK (t:=24) (u:=3) (x:=.tmp 24) (y:=.tmp 27) (ky:=.i64) (a:=(l.getD (i/8) 0)) (n:=(8*(i%8))) kR kR kR oM _));refine lV 29 (.int .u8 (l.getD (i/8) 0/2^(8*(i%8))%256:Nat)) ?_ (hr:=aN (n:=IntKind.wrap .u8 ((l.getD (i/8) 0/2^(8*(i%8)):Nat):Int)) kR (xX _));refine lX 30 (sB B) (8*n) (8*n) 1 (((8*n)-1)-i:Nat) (((8*n)-1)-i:Nat) rfl (lW 0 z p8 1 (((8*n)-1)-i:Nat) (l.getD (i/8) 0/2^(8*(i%8))%256:Nat) e oM (fun _ e=>?_));have Z:((z).set (((8*n)-1)-i:Nat) (l.getD (i/8) 0/2^(8*(i%8))%256:Nat)).length=(8*n):=by rw[Jt];exact p
 replace e:=e.to [⟨B,5,((z).set (((8*n)-1)-i:Nat) (l.getD (i/8) 0/2^(8*(i%8))%256:Nat)).flatMap p8⟩,⟨D,26,[uV 0,eS]⟩] [];refine lN (kQ (bg 31 ((i:Nat)+1) (i+1) ?_));refine lL e ac (lD ?_);intro a_ W;refine ⟨_,_,?_,⟨i+1,(z).set (((8*n)-1)-i:Nat) (l.getD (i/8) 0/2^(8*(i%8))%256:Nat),h9,rfl,rfl,e.to _ _,oM,Z,(iS p oM S (o9 L i))⟩,W.to _ kR⟩
 omega
def win (l:List Nat)(o n:Nat):List Nat:=(l.drop o).take n
theorem bx {l:List Nat}{o n:Nat}(h:o+n<=l.length):(win l o n).length=n:=by unfold win;rw[z1,Jb];omega
theorem nI {l:List Nat}{o n j:Nat}(h:j<n):(win l o n).getD j 0=l.getD (o+j) 0:=by unfold win;rw[iI h,bJ]
theorem jr {l:List Nat}{o n i x:Nat}(hi:i<n):win (l.set (o+i) x) o n=(win l o n).set i x:=by
 unfold win
 rw[List.drop_set,if_neg oM,JZ,show o+i-o=i by omega]
theorem wT {l:List Nat}{o n q:Nat}:(win l o n).drop q=win l (o+q) (n-q):=by
 unfold win;rw[List.drop_take,List.drop_drop]
theorem l6 {l:List Nat}{o n m:Nat}(h:m<=n):(win l o n).take m=win l o m:=by
 unfold win;rw[List.take_take,z2 h]
theorem n6 (l:List Nat)(n:Nat)(h:l.length<=n):win l 0 n=l:=by unfold win;rw[rk,I7 h]
theorem Wd.win {l:List Nat}(h:Wd l)(o n:Nat):Wd (win l o n):=Dg.take (Dg.drop h o) n
theorem sV {Z W:List Nat}{i p d b:Nat}(hi:i<Z.length)(c:2^p*am 18446744073709551616 (Z.take i)+b=am 18446744073709551616 (W.take i)+18446744073709551616^i*(W.getD i 0%2^p))
  (f:2^p*d+W.getD i 0%2^p=W.getD i 0+18446744073709551616*(W.getD (i+1) 0%2^p)) :
  2^p*am 18446744073709551616 ((Z.set i d).take (i+1))+b=am 18446744073709551616 (W.take (i+1))+18446744073709551616^(i+1)*(W.getD (i+1) 0%2^p):=by
 have a:=aR 18446744073709551616 (Z.set i d) i;have h:(Z.set i d).take i=Z.take i:=by rw[JZ,List.set_eq_of_length_le];rw[z1];omega
 rw[h,bC hi,if_pos rfl] at a
 have e:=aR 18446744073709551616 W i;have k:=congrArg (18446744073709551616^i * ·) f
 simp only[zT] at k
 rw[a,e,zy,zT];have j:2^p*(18446744073709551616^i*d)=18446744073709551616^i*(2^p*d):=by ac_rfl
 have l:18446744073709551616^i*18446744073709551616*(W.getD (i+1) 0%2^p)=18446744073709551616^i*(18446744073709551616*(W.getD (i+1) 0%2^p)):=by ac_rfl
 rw[j,l]
 omega
theorem xu {X:List Nat}(d:Wd X){k m:Nat}(t:Tz (aD X) k m)(e:k/64<X.length):aD (X.drop (k/64))=2^(k%64)*m/\(X.drop (k/64)).getD 0 0%2^(k%64)=0:=by
 have h1:aD (X.drop (k/64))=2^(k%64)*m:=by
  rw[mw d oM,t.1,vF k,zY,Nat.mul_div_cancel_left _ (A8 kD)]
 refine ⟨h1,?_⟩
 have c:aD (X.drop (k/64))=(X.drop (k/64)).getD 0 0+18446744073709551616*am 18446744073709551616 ((X.drop (k/64)).drop 1):=by
  have:=e7 18446744073709551616 (l:=X.drop (k/64)) (k:=0) (by rw[Jb];omega)
  rwa [rk] at this
 have b:(18446744073709551616:Nat)=2^(k%64)*2^(64-k%64):=by rw[<-Am,show k%64+(64-k%64)=64 by omega]
 rw[h1] at c
 have a:(2^(k%64)*m)%2^(k%64)=0:=Nat.mul_mod_right _ _;rw[c] at a
 conv at a=>lhs;rw[b]
 rw[zY,Jw] at a
 exact a
theorem Ff {Z W:List Nat}{p m:Nat}(b:W.length<=Z.length)(a:2^p*am 18446744073709551616 (Z.take Z.length)+0=am 18446744073709551616 (W.take Z.length)+18446744073709551616^Z.length*(W.getD Z.length 0%2^p))(e:aD W=2^p*m):aD Z=m:=by
 rw[r9,I7 b,cP b,Ju,z6,ri,ri] at a
 have c:am 18446744073709551616 W=2^p*m:=e;rw[c] at a
 exact JW (z8 p) a
theorem o4 {l X:List Nat}{q i x N:Nat}(b:q+i<l.length)(h:∀ j,i<=j->j<N->l.getD (q+j) 0=X.getD j 0):∀ j,i+1<=j->j<N->(l.set (q+i) x).getD (q+j) 0=X.getD j 0:=fun j h1 a=>by
 rw[bC b,if_neg oM];exact h j oM a
theorem sf (rb:Nat)(l0:List Nat)(o n c x:Nat)(hx:0<x)(hl0:l0.length<=1000000000)(H:o+n<=l0.length)(hnc:n<=c)(C:Wd l0)(J:win l0 o n=wds x)(w:World)(h:Hp)(g:G w h)(ho:Own w rb 24 (l0.flatMap ar))(hj:h[rb]?=some junk)(tb:Tab h):Calls Tryz.prog 241 #[.slice (some ⟨rb,o,none⟩) n c] w (bW rb w h fun v w' _=>∃ z:List Nat,∃ o' n' c':Nat,v=.slice (some ⟨rb,o',none⟩) n' c'/\z.length=l0.length/\Wd z/\o'+n'<=z.length/\n'<=c'/\(∃ k m:Nat,Tz x k m/\win z o' n'=wds m)/\Own w' rb 24 (z.flatMap ar)):=by
 have B:UpM [rb] w h w h:=UpM.refl g;obtain ⟨wz,hz,e⟩:=SS.at_ g ho hj;have bd:l0.length=l0.length:=rfl;replace e:=(e.add (K:=fun S=>Tab S) tb);refine go Tryz.func241 [(0,qS (some ⟨rb,o,none⟩) n c)] rfl (aa e ac (aE (lL e ac (vO 7 0 e (fun _ g_ f_ Q=>qO (some ⟨rb,o,none⟩) c (win l0 o n) n (bx H) (C.win _ _) (by rw[J,aZ];exact hx) (by rw[bx H];omega) _ _ g_ (f_.1) (SlO.win (f:=ar) (d:=0) (b:=rb) (l:=l0) (fun _=>rfl) Q o n)) ?_))));rintro _ w1 h2 u3 e ⟨k,m,rfl,L,hkn⟩;replace B:=B.trans (u3.m _);rw[bx H] at hkn
 have hX:=C.win o n;obtain ⟨O,M⟩:=xu hX L (by rw[bx H];omega);rw[wT] at O M
 obtain ⟨X,hXd⟩:∃ X,X=win l0 (o+k/64) (n-k/64):=⟨_,rfl⟩;rw[<-hXd] at O M
 have hXl:X.length=n-k/64:=by rw[hXd];exact bx oM
 have hXW:Wd X:=by rw[hXd];exact C.win _ _
 have hXg:∀ j,j<n-k/64->X.getD j 0=l0.getD (o+k/64+j) 0:=fun j hj=>by rw[hXd];exact nI hj
 refine lL e ac (aE (lL e aF (lV 10 (nV (k/64)) ?_ (hr:=aN (cZ (t:=3) (u:=3) (x:=.tmp 9) (y:=.const (iV 64)) (k:=.i64) (a:=(k:Int)) (b:=(64:Int)) kR kR kR oM _) (dh k 64 oM)))));refine I0 11 rb o n c 1 (k/64:Nat) (k/64) (o+(k/64)) (lL e ac (aE (lL e ac (lV 13 (nV (k%64)) ?_ (hr:=aN (dV (t:=3) (u:=3) (x:=.tmp 12) (y:=.const (iV 64)) (k:=.i64) (a:=(k:Int)) (b:=(64:Int)) kR kR kR oM _) (cM k 64))))));refine lL e ac (ai (aa e [.c,.v (nV (n-(k/64))),.c] (bE ?_)));refine bG _ (CG.loop (fun μ_ Γ w_=>∃ (i:Nat)(l:List Nat)(S:Hp),μ_=(n-k/64)-i/\Γ=[(0,qS (some ⟨rb,(o+(k/64)),none⟩) (n-(k/64)) (c-(k/64))),(2,sZ),(4,nV (k%64)),(15,nV (n-(k/64))),(16,nV i)]/\SS wz hz w_ S [⟨rb,24,(l).flatMap ar⟩] [] [fun S=>Tab S]/\i<=n-k/64/\l.length=l0.length/\Wd l/\2^(k%64)*am 18446744073709551616 ((win l (o+k/64) (n-k/64)).take i)+0=am 18446744073709551616 (X.take i)+18446744073709551616^i*(X.getD i 0%2^(k%64))/\(∀ j,i<=j->j<n-k/64->l.getD (o+k/64+j) 0=X.getD j 0)/\UpM [rb] w h w_ S) _ ⟨0,l0,h2,rfl,rfl,e.to _ _,JH _,rfl,C,(by rw[M];simp[am]),(fun j _ hj=>(hXg j hj).symm),B⟩ ?_);rintro _ _ w4 ⟨i,l,h5,hm6,rfl,e,hi,hll,hW,I,D,B⟩;refine aG ?_;cases F:(decide ((i:Int)<((n-(k/64):Nat):Int)))
 .
  have bb:=oF F;refine lB 17 F (ai (da (CG.exit ?_)))
  show CG _ _ _ _ _ _ _ _
  refine aa e ac (vO 47 0 e (fun _ g_ f_ Q=>C4 (some ⟨rb,(o+k/64),none⟩) (c-(k/64)) (win l (o+k/64) (n-k/64)) (n-k/64) (bx oM) (by rw[bx oM];omega) (by rw[bx oM];omega) _ _ g_ (SlO.win (f:=ar) (d:=0) (b:=rb) (l:=l) (fun _=>rfl) Q (o+k/64) (n-k/64))) ?_);rintro _ w8 h9 u10 e rfl;replace B:=B.trans (u10.m _);refine lL e ac (lN (kX ?_));have hiN:i=n-k/64:=by omega
  have V:(win l (o+k/64) (n-k/64)).length=n-k/64:=bx oM;have hE:=Ff (Z:=win l (o+k/64) (n-k/64)) oM (by rw[V,<-hiN];rw[<-hiN] at I;exact I) O;have hZW:Wd (win l (o+k/64) (n-k/64)):=hW.win _ _;have W:=kY hZW;rw[hE,V] at W
  have htl:=fY (win l (o+k/64) (n-k/64)) (n-k/64);exact e.retM B [] (qS (some ⟨rb,(o+k/64),none⟩) (tl (win l (o+k/64) (n-k/64)) (n-k/64)) (c-(k/64))) ⟨l,(o+k/64),_,_,rfl,hll,hW,by omega,by omega,⟨k,m,by rw[J,aZ] at L;exact L,by rw[W];exact (l6 htl).symm⟩,e.own 0⟩
 have bb:=oT F;refine lB 17 F (ai (ci (cK (cQ (kZ (aa e aF (aE (lL e aF (FI 21 rb (o+(k/64)) (n-(k/64)) (c-(k/64)) 1 (i:Nat) i ((o+(k/64))+i) ?_)))))))));refine lQ 22 0 l ar 1 0 ((o+(k/64))+i) (mV ((l).getD ((o+(k/64))+i) 0)) e oM (lL e ac ?_);have Y:X.getD i 0=l.getD (o+k/64+i) 0:=(D i (nR _) oM).symm;have hxi:=hW.get (o+k/64+i);have hdv:=y7 (l.getD (o+k/64+i) 0) (2^(k%64));refine lV 24 (mV (((l).getD ((o+(k/64))+i) 0:Nat)/2^(k%64))) ?_ (hr:=fK (t:=24) (u:=3) (x:=.tmp 22) (y:=.tmp 23) (ky:=.i64) (a:=((l).getD ((o+(k/64))+i) 0:Nat)) (n:=(k%64)) kR kR kR oM _);refine FI 25 rb (o+(k/64)) (n-(k/64)) (c-(k/64)) 1 (i:Nat) i ((o+(k/64))+i) (GF 0 l ar 1 ((o+(k/64))+i) (((l).getD ((o+(k/64))+i) 0:Nat)/2^(k%64):Nat) e oM (fun _ pu e=>?_));replace B:=B.put pu (n1.2 rfl) e.g;have zb:((l).set ((o+(k/64))+i) (((l).getD ((o+(k/64))+i) 0:Nat)/2^(k%64):Nat)).length=l0.length:=by rw[Jt];exact hll
 replace e:=e.to [⟨rb,24,((l).set ((o+(k/64))+i) (((l).getD ((o+(k/64))+i) 0:Nat)/2^(k%64):Nat)).flatMap ar⟩] [];refine aE (lL e ac (bg 27 ((i:Nat)+1) (i+1) ?_));refine lL e [.c,.v (nV (n-(k/64)))] ?_;cases za:(decide (((i+1:Nat):Int)<((n-(k/64):Nat):Int)))
 .
  have zc:=oF za;refine lB 30 za (ah (cK (kQ (bg 45 ((i:Nat)+1) (i+1) ?_))));refine lL e ac (lD ?_);intro a_ ka;refine ⟨_,_,?_,⟨i+1,(l).set ((o+(k/64))+i) (((l).getD ((o+(k/64))+i) 0:Nat)/2^(k%64):Nat),h5,rfl,rfl,e.to _ _,oM,zb,(hW.set _ oM),(by rw[jr oM];exact sV (by rw[bx oM];omega) I (by rw[Y,cP (l:=X) (show X.length<=i+1 by omega),Ju,z6,ri];exact I9 _ _)),(o4 oM D),B⟩,ka.to _ kR⟩
  omega
 have zc:=oT za;refine lB 30 za (aj (Ay ⟨[],none⟩ 13 mixed ?_));replace B:=B.trans ((Up.drew (Up.refl e.g)).m _);replace e:=e.drew;refine aV 0 31 (qS (some ⟨rb,(o+(k/64)),none⟩) (n-(k/64)) (c-(k/64))) (aV 1 32 (nV i) (IF 2 33 rb (o+(k/64)) (n-(k/64)) (c-(k/64)) 1 (i:Nat) i ((o+(k/64))+i) (aQ 3 34 0 ((l).set ((o+(k/64))+i) (((l).getD ((o+(k/64))+i) 0:Nat)/2^(k%64):Nat)) ar 1 0 ((o+(k/64))+i) (mV (((l).set ((o+(k/64))+i) (((l).getD ((o+(k/64))+i) 0:Nat)/2^(k%64):Nat)).getD ((o+(k/64))+i) 0)) e oM (aV 4 35 (qS (some ⟨rb,(o+(k/64)),none⟩) (n-(k/64)) (c-(k/64))) (aV 5 36 (nV i) (aV 6 37 (nV (i+1)) ?_ (hv:=fun _=>rS (((i:Nat)+1)) kR ((dS oM oM).trans oM))))))));refine IF 7 38 rb (o+(k/64)) (n-(k/64)) (c-(k/64)) 1 (i+1:Nat) (i+1) ((o+(k/64))+(i+1)) (aQ 8 39 0 ((l).set ((o+(k/64))+i) (((l).getD ((o+(k/64))+i) 0:Nat)/2^(k%64):Nat)) ar 1 0 ((o+(k/64))+(i+1)) (mV (((l).set ((o+(k/64))+i) (((l).getD ((o+(k/64))+i) 0:Nat)/2^(k%64):Nat)).getD ((o+(k/64))+(i+1)) 0)) e oM (aV 9 40 (nV (k%64)) (aV 10 41 (nV (64-(k%64))) ?_ (hv:=fun _=>rS ((64-(k%64:Nat))) kR ((dS oM oM).trans oM)))));refine aV 11 42 (mV ((((l).set ((o+(k/64))+i) (((l).getD ((o+(k/64))+i) 0:Nat)/2^(k%64):Nat)).getD ((o+(k/64))+(i+1)) 0:Nat)*2^(64-(k%64))%18446744073709551616)) ?_ (hv:=fun _=>f8 (t:=24) (u:=3) (x:=.tmp 39) (y:=.tmp 41) (ky:=.i64) (a:=(((l).set ((o+(k/64))+i) (((l).getD ((o+(k/64))+i) 0:Nat)/2^(k%64):Nat)).getD ((o+(k/64))+(i+1)) 0:Nat)) (n:=(64-(k%64))) kR kR kR _);have hXn:X.getD (i+1) 0=l.getD (o+k/64+(i+1)) 0:=(D (i+1) oM oM).symm;obtain ⟨hS1,hS2,hS3⟩:=ph (x:=l.getD (o+k/64+i) 0) (y:=l.getD (o+k/64+(i+1)) 0) (p:=k%64) oM hxi;have U:=bC (l:=l) (k:=o+k/64+i) (j:=o+k/64+i) (x:=l.getD (o+k/64+i) 0/2^(k%64)) oM;rw[if_pos rfl] at U
 have hgn:=bC (l:=l) (k:=o+k/64+i) (j:=o+k/64+(i+1)) (x:=l.getD (o+k/64+i) 0/2^(k%64)) oM;rw[if_neg oM] at hgn
 refine aV 12 43 (mV (l.getD (o+k/64+i) 0/2^(k%64)+l.getD (o+k/64+(i+1)) 0*2^(64-k%64)%18446744073709551616)) ?_ (hv:=fun _=>aN (gl (t:=24) (u:=24) (x:=.tmp 34) (y:=.tmp 42) (a:=(((l).set ((o+(k/64))+i) (((l).getD ((o+(k/64))+i) 0:Nat)/2^(k%64):Nat)).getD ((o+(k/64))+i) 0:Nat)) (b:=((((l).set ((o+(k/64))+i) (((l).getD ((o+(k/64))+i) 0:Nat)/2^(k%64):Nat)).getD ((o+(k/64))+(i+1)) 0:Nat)*2^(64-(k%64))%18446744073709551616:Nat)) kR kR kR oM oM _) (by rw[U,hgn,hS1]));refine IZ 13 44 rb (o+(k/64)) (n-(k/64)) (c-(k/64)) 1 (i:Nat) i ((o+(k/64))+i) (IX 14 0 ((l).set ((o+(k/64))+i) (((l).getD ((o+(k/64))+i) 0:Nat)/2^(k%64):Nat)) ar 1 ((o+(k/64))+i) (l.getD (o+k/64+i) 0/2^(k%64)+l.getD (o+k/64+(i+1)) 0*2^(64-k%64)%18446744073709551616:Nat) e oM (fun _ pu e=>?_));replace B:=B.put pu (n1.2 rfl) e.g;have zd:(((l).set ((o+(k/64))+i) (((l).getD ((o+(k/64))+i) 0:Nat)/2^(k%64):Nat)).set ((o+(k/64))+i) (l.getD (o+k/64+i) 0/2^(k%64)+l.getD (o+k/64+(i+1)) 0*2^(64-k%64)%18446744073709551616:Nat)).length=l0.length:=by rw[Jt];exact zb
 replace e:=e.to [⟨rb,24,(((l).set ((o+(k/64))+i) (((l).getD ((o+(k/64))+i) 0:Nat)/2^(k%64):Nat)).set ((o+(k/64))+i) (l.getD (o+k/64+i) 0/2^(k%64)+l.getD (o+k/64+(i+1)) 0*2^(64-k%64)%18446744073709551616:Nat)).flatMap ar⟩] [];refine tN (kQ (bg 45 ((i:Nat)+1) (i+1) ?_));refine lL e ac (lD ?_);intro a_ ka;refine ⟨_,_,?_,⟨i+1,((l).set ((o+(k/64))+i) (((l).getD ((o+(k/64))+i) 0:Nat)/2^(k%64):Nat)).set ((o+(k/64))+i) (l.getD (o+k/64+i) 0/2^(k%64)+l.getD (o+k/64+(i+1)) 0*2^(64-k%64)%18446744073709551616:Nat),h5,rfl,rfl,e.to _ _,oM,zd,((hW.set _ oM).set _ hS2),(by rw[JM,jr oM];exact sV (by rw[bx oM];omega) I (by rw[Y,hXn];exact hS3)),(by rw[JM];exact o4 oM D),B⟩,ka.to _ kR⟩
 omega
theorem F8 (rb:Nat)(l0:List Nat)(o n c x:Nat)(hl0:l0.length<=1000000000)(hon:o+n<=l0.length)(hnc:n<=c)(Z:Wd l0)(F:win l0 o n=wds x)(D:Z9)(d y m:Nat)(hm:(wds y).length=m)(hmd:m<=d)(hyx:y<=x)(w:World)(h:Hp)(g:G w h)(ho:Own w rb 24 (l0.flatMap ar))(hj:h[rb]?=some junk)(hD:SlO 1 ar 0 h D (wds y)):Calls Tryz.prog 243 #[.slice (some ⟨rb,o,none⟩) n c,.slice D m d] w (bW rb w h fun v w' _=>∃ z:List Nat,∃ o' Y c':Nat,v=.slice (some ⟨rb,o',none⟩) Y c'/\z.length=l0.length/\Wd z/\o'+Y<=z.length/\Y<=c'/\win z o' Y=wds (x-y)/\Own w' rb 24 (z.flatMap ar)):=by
 have e:UpM [rb] w h w h:=UpM.refl g;obtain ⟨wz,hz,a⟩:=SS.at_ g ho hj;have bm:l0.length=l0.length:=rfl;replace a:=a.aS hD;have hwn:n=(wds x).length:=by rw[<-F,bx hon]
 have hlm:=dY hyx;refine go Tryz.func243 [(0,qS (some ⟨rb,o,none⟩) n c),(1,qS D m d)] rfl (aa a ac (aE (lL a ac (ai (aa a [.c,.v (nV n),.c] (bE ?_))))));refine bG _ (CG.loop (fun μ_ Γ w_=>∃ (i:Nat)(l:List Nat)(I:Nat)(X:Hp),μ_=n-i/\Γ=[(0,qS (some ⟨rb,o,none⟩) n c),(1,qS D m d),(4,sZ),(9,nV n),(10,nV i),(5,mV I)]/\SS wz hz w_ X [⟨rb,24,(l).flatMap ar⟩] [] [fun X=>SlO 1 ar 0 X D (wds y)]/\i<=n/\l.length=l0.length/\Wd l/\I<=1/\am 18446744073709551616 (win l o n)+am 18446744073709551616 ((wds y).take i)=x+18446744073709551616^i*I/\UpM [rb] w h w_ X) _ ⟨0,l0,0,h,rfl,rfl,a.to _ _,JH _,rfl,Z,oM,(by have hx_:am 18446744073709551616 (wds x)=x:=aZ x;rw[F,hx_];simp[am]),e⟩ ?_);rintro _ _ w1 ⟨i,l,I,h2,hm3,rfl,a,hi,H,W,hbo,u,e⟩;have hlk:=W.get (o+i);have hyk:=(Wd.wds y).get i;have Q:=nI (l:=l) (o:=o) (n:=n) (j:=i);refine aG ?_;cases C:(decide ((i:Int)<(n:Int)))
 .
  have O:=oF C;refine lB 11 C (ai (da (CG.exit ?_)))
  show CG _ _ _ _ _ _ _ _
  refine aa a ac (vO 36 0 a (fun _ g_ f_ sg_=>C4 (some ⟨rb,o,none⟩) c (win l o n) n (bx oM) (by rw[bx oM];omega) (by rw[bx oM];omega) _ _ g_ (SlO.win (f:=ar) (d:=0) (b:=rb) (l:=l) (fun _=>rfl) sg_ o n)) ?_);rintro _ w5 h6 u7 a rfl;replace e:=e.trans (u7.m _);refine lL a ac (lN (kX ?_));have hiN:i=n:=by omega
  have L:(win l o n).length=n:=bx oM;rw[I7 (show (wds y).length<=i by omega),hiN] at u
  have K:Wd (win l o n):=W.win _ _;have hE:aD (win l o n)=x-y:=AW K (by rw[L];have hb_:am 18446744073709551616 (wds y)=y:=aZ y;rw[hb_] at u;exact u) oM hbo;have S:=kY K;rw[hE,L] at S
  have htl:=fY (win l o n) n;exact a.retM e [] (qS (some ⟨rb,o,none⟩) (tl (win l o n) n) c) ⟨l,o,_,_,rfl,H,W,by omega,by omega,(by rw[S];exact (l6 htl).symm),a.own 0⟩
 have O:=oT C;refine lB 11 C (ai (ci (cK (cQ (kZ (aa a aF (aE (lL a ac (ai (aa a [.c,.c,.v (nV m)] ?_))))))))));cases B:(decide ((i:Int)<(m:Int)))
 .
  have U:=oF B;refine lB 16 B (ah (cK (kQ (lL a m4 (FI 26 rb o n c 1 (i:Nat) i (o+i) ?_)))));refine lQ 27 0 l ar 1 0 (o+i) (mV ((l).getD (o+i) 0)) a oM (lL a aF ?_);obtain ⟨J,za,bb,bl,bd,M⟩:=nQ ((l).getD (o+i) 0) 0 I wM wM oM;refine lV 30 (.tuple #[mV J,mV za]) ?_ (hr:=dZ kR (M _));refine lL a [.c,.v (mV J),.v (mV za)] (FI 33 rb o n c 1 (i:Nat) i (o+i) ?_);refine GF 0 l ar 1 (o+i) J a oM (fun _ pu a=>?_);replace e:=e.put pu (n1.2 rfl) a.g;have zc:((l).set (o+i) J).length=l0.length:=by rw[Jt];exact H
  replace a:=a.to [⟨rb,24,((l).set (o+i) J).flatMap ar⟩] [];refine lL a ac (lN (kQ (bg 34 ((i:Nat)+1) (i+1) ?_)));refine lL a ac (lD ?_);intro a_ ka;refine ⟨_,_,?_,⟨i+1,(l).set (o+i) J,za,h2,rfl,rfl,a.to _ _,oM,zc,(W.set _ oM),oM,(by rw[jr oM];exact pE (by rw[bx oM];omega) u (by rw[Q oM];first|omega|(have hy0:=cP (l:=wds y) (k:=i) oM;omega))),e⟩,ka.to _ kR⟩
  omega
 have U:=oT B;refine lB 16 B (aj (kQ (lL a aF (lX 19 D m d 1 (i:Nat) i ((a.f.1).ok oM) ?_))));refine lH 20 (mV ((wds y).getD i 0)) a ((a.f.1).el i oM) (lL a ac (lN (kQ (lL a m4 (FI 26 rb o n c 1 (i:Nat) i (o+i) ?_)))));refine lQ 27 0 l ar 1 0 (o+i) (mV ((l).getD (o+i) 0)) a oM (lL a aF ?_);obtain ⟨p,zb,bk,bq,bp,V⟩:=nQ ((l).getD (o+i) 0) ((wds y).getD i 0) I wM wM oM;refine lV 30 (.tuple #[mV p,mV zb]) ?_ (hr:=dZ kR (V _));refine lL a [.c,.v (mV p),.v (mV zb)] (FI 33 rb o n c 1 (i:Nat) i (o+i) ?_);refine GF 0 l ar 1 (o+i) p a oM (fun _ pu a=>?_);replace e:=e.put pu (n1.2 rfl) a.g;have zd:((l).set (o+i) p).length=l0.length:=by rw[Jt];exact H
 replace a:=a.to [⟨rb,24,((l).set (o+i) p).flatMap ar⟩] [];refine lL a ac (lN (kQ (bg 34 ((i:Nat)+1) (i+1) ?_)));refine lL a ac (lD ?_);intro a_ ka;refine ⟨_,_,?_,⟨i+1,(l).set (o+i) p,zb,h2,rfl,rfl,a.to _ _,oM,zd,(W.set _ oM),oM,(by rw[jr oM];exact pE (by rw[bx oM];omega) u (by rw[Q oM];first|omega|(have hy0:=cP (l:=wds y) (k:=i) oM;omega))),e⟩,ka.to _ kR⟩
 omega
theorem Tz.le {n k m:Nat}(t:Tz n k m):m<=n:=by rw[t.1];exact Nat.le_mul_of_pos_left m (z8 k)
theorem gm (a b:Nat):(cY a b=0/\a=b)\/(cY a b = -1/\a<b)\/(cY a b=1/\b<a):=by
 rcases JN a b with h|h|h
 ·exact .inr (.inl ⟨dK h,h⟩)
 ·exact .inl ⟨ip h,h⟩
 ·exact .inr (.inr ⟨eU h,h⟩)
theorem uk (A:Z9)(c:Nat)(D:Z9)(d:Nat)(x y n a:Nat)(b e:List Nat)(o:b=wds x)(j:e=wds y)(u:b.length=n)(f:e.length=a)(p:n<=1000000000)(k:a<=1000000000)(w:World)(h:Hp)(g:G w h)(i:SlO 1 ar 0 h A b)(l:SlO 1 ar 0 h D e):CV 242 #[.slice A n c,.slice D a d] w h (iV (cY x y)):=by
 subst o j;exact xv A c D d x y n a u f oM oM w h g i l
theorem G1 (A:Z9)(c:Nat)(l:List Nat)(n x:Nat)(d:l=wds x)(b:l.length=n)(e:n<=1000000000)(w:World)(h:Hp)(g:G w h)(a:SlO 1 ar 0 h A l):CV 244 #[.slice A n c] w h (nv x):=by
 subst d;have:=CE A c (wds x) n b (Wd.wds x) oM w h g a
 rwa [aZ] at this
theorem xm (rb:Nat)(l0:List Nat)(o n c x:Nat)(e:l0.length<=1000000000)(f:o+n<=l0.length)(k:n<=c)(i:Wd l0)(a:win l0 o n=wds x)(D:Z9)(d y m:Nat)(l:List Nat)(F:l=wds y)(u:l.length=m)(j:m<=d)(p:y<=x)(w:World)(h:Hp)(g:G w h)(C:Own w rb 24 (l0.flatMap ar))(B:h[rb]?=some junk)(H:SlO 1 ar 0 h D l):Calls Tryz.prog 243 #[.slice (some ⟨rb,o,none⟩) n c,.slice D m d] w (bW rb w h fun v w' _=>∃ z:List Nat,∃ o' b c':Nat,v=.slice (some ⟨rb,o',none⟩) b c'/\z.length=l0.length/\Wd z/\o'+b<=z.length/\b<=c'/\win z o' b=wds (x-y)/\Own w' rb 24 (z.flatMap ar)):=by
 subst F;exact F8 rb l0 o n c x e f k i a D d y m u j p w h g C B H
theorem Bt (x y:Nat)(hx:0<x)(hy:0<y)(hlx:(wds x).length<=1000000000)(hly:(wds y).length<=1000000000)(w:World)(h:Hp)(g:G w h)(tb:Tab h):CV 234 #[nv x,nv y] w h (nv (JK x y)):=by
 have e:=((sS g).add (K:=fun h_=>Tab h_) tb);have hpx:=hx;have hpy:=hy;refine go Tryz.func234 [(0,nv x),(1,nv y)] rfl (aG (lA 2 26 (nc x) e (fun Z w2 h3 e=>lA 3 26 (nc y) e (fun b4 w5 h6 e=>lA 4 26 ([uV 0,eS]) e (fun W w8 h9 e=>ai ?_)))));obtain ⟨K_,hK_⟩:∃ K_,K_=w8.heap.size:=⟨_,rfl⟩;have hq:W<K_:=by rw[hK_];exact gi e 0
 have c8:b4<K_:=by rw[hK_];exact gi e 1
 have bl:Z<K_:=by rw[hK_];exact gi e 2
 refine Ay ⟨[],some (K_,[])⟩ 0 mixed ?_;have k1:=e.g.size;replace e:=e.drew;have V:=JP hK_;refine zO 0 10 [(2,0,2)] (nv x) rfl V e (fun p hp=>by obtain rfl:=n1.1 hp;exact bl) (zO 2 12 [(1,0,2)] (nv y) rfl V e (fun p hp=>by obtain rfl:=n1.1 hp;exact c8) (xZ 1 11 (xd x oM oM _ _ e.g) rfl V ?_));rintro _ _ _ u12 V ⟨H,rfl,d0,hl,k3⟩;obtain ⟨_,e,-,-⟩:=e.take u12 d0 hl;replace e:=e.to [⟨H,24,(wds x).flatMap ar⟩,⟨W,26,[uV 0,eS]⟩,⟨b4,26,nc y⟩,⟨Z,26,nc x⟩] [];refine xZ 3 13 (xd y oM oM _ _ e.g) rfl V ?_;rintro _ _ _ u16 V ⟨M,rfl,hc,fp,lx⟩;obtain ⟨_,e,-,-⟩:=e.take u16 hc fp;replace e:=e.to [⟨M,24,(wds y).flatMap ar⟩,⟨H,24,(wds x).flatMap ar⟩,⟨W,26,[uV 0,eS]⟩,⟨b4,26,nc y⟩,⟨Z,26,nc x⟩] [];refine zV 4 5 (qS (sB H) ((wds x).length) ((wds x).length)) (zV 5 6 (qS (sB M) ((wds y).length) ((wds y).length)) (Av (lL e ac (Ia 15 1 e (fun _ g_ f_ U=>qO (sB H) (wds x).length (wds x) (wds x).length rfl (Wd.wds x) (by rw[aZ];omega) oM _ _ g_ (f_.1) (SlO.of_flat (sz:=1) (f:=ar) (d:=0) (b:=H) (o:=0) (l:=wds x) (fun _=>rfl) U)) ?_))));rintro _ _ _ e ⟨kx,mx,rfl,htx,hkx⟩;rw[aZ] at htx
 refine lL e ac (Ia 17 0 e (fun _ g_ f_ U=>qO (sB M) (wds y).length (wds y) (wds y).length rfl (Wd.wds y) (by rw[aZ];omega) oM _ _ g_ (f_.1) (SlO.of_flat (sz:=1) (f:=ar) (d:=0) (b:=M) (o:=0) (l:=wds y) (fun _=>rfl) U)) ?_);rintro _ _ _ e ⟨ky,my,rfl,hty,hky⟩;rw[aZ] at hty
 refine lV 18 (nV (min kx ky)) ?_ (hr:=aN (n:=if (ky:Int)<(kx:Int) then (ky:Int) else (kx:Int)) kR (by split<;>omega));refine lL e ac (aE (lL e ac (bj 20 (sf H (wds x) 0 ((wds x).length) ((wds x).length) x hpx oM oM (nR _) (Wd.wds x) (n6 _ _ (nR _)) _ _ e.g (e.own 1) (e.jk 1) e.f.1) ?_)));rintro _ _ _ u27 ⟨z24,o24,n24,zl,rfl,h5,b0,b9,b5,⟨ls,hb,u,df⟩,hh⟩;replace e:=(e.stepM 1 u27 hh).to [⟨M,24,(wds y).flatMap ar⟩,⟨H,24,(z24).flatMap ar⟩,⟨W,26,[uV 0,eS]⟩,⟨b4,26,nc y⟩,⟨Z,26,nc x⟩] [];have dk:=u.odd_pos;have h4:=u.le;refine lL e ac (bj 22 (sf M (wds y) 0 ((wds y).length) ((wds y).length) y hpy oM oM (nR _) (Wd.wds y) (n6 _ _ (nR _)) _ _ e.g (e.own 0) (e.jk 0) e.f.1) ?_);rintro _ _ zm u31 ⟨z28,o28,n28,zn,rfl,j8,bp,bt,b3,⟨k4,d2,j,cq⟩,f1⟩;replace e:=(e.stepM 0 u31 f1).to [⟨M,24,(z28).flatMap ar⟩,⟨H,24,(z24).flatMap ar⟩,⟨W,26,[uV 0,eS]⟩,⟨b4,26,nc y⟩,⟨Z,26,nc x⟩] [];have b2:=j.odd_pos;have h2:=j.le;refine lL e aF (ai (kZ ?_));refine bG _ (CG.loop (fun μ_ Γ w_=>∃ (I:Nat)(L:List Nat)(S:Nat)(O:Nat)(c1:Nat)(Q:Nat)(l2:List Nat)(Y:Nat)(X:Nat)(c2:Nat)(B:Nat)(y1:Nat)(h_:Hp),μ_=B+y1/\Γ=[(4,pB W),(7,nV (min kx ky)),(5,qS (some ⟨I,S,none⟩) O c1),(6,qS (some ⟨Q,Y,none⟩) X c2)]/\SS w h w_ h_ [⟨Q,24,(l2).flatMap ar⟩,⟨I,24,(L).flatMap ar⟩,⟨W,26,[uV 0,eS]⟩,⟨b4,26,nc y⟩,⟨Z,26,nc x⟩] [] [fun h_=>Tab h_]/\L.length<=1000000000/\Wd L/\S+O<=L.length/\O<=c1/\win L S O=wds B/\0<B/\l2.length<=1000000000/\Wd l2/\Y+X<=l2.length/\X<=c2/\win l2 Y X=wds y1/\0<y1/\B%2=1/\y1%2=1/\JK B y1*2^min kx ky=JK x y) _ ⟨H,z24,o24,n24,zl,M,z28,o28,n28,zn,hb,d2,zm,rfl,rfl,e.to _ _,oM,b0,b9,b5,df,dk,oM,bp,bt,b3,cq,b2,u.2,j.2,(by rw[(htx.uniq u).1,(hty.uniq j).1];exact (vR u j).symm)⟩ ?_);rintro _ _ _ ⟨I,L,S,O,c1,Q,l2,Y,X,c2,B,y1,_,kq,rfl,e,hl1,hW1,C,bd,i,hx1,hl2,hW2,J,bb,k,hy1,hxo,hyo,hG⟩;have k5:=gm B y1;have dn:=congrArg JC i;rw[bx C] at dn
 have d1:=congrArg JC k;rw[bx J] at d1
 refine kZ (aa e aF (H0 25 1 0 e (fun _ g_ f_ U sh_=>uk (some ⟨I,S,none⟩) c1 (some ⟨Q,Y,none⟩) c2 B y1 O X (win L S O) (win l2 Y X) i k (bx C) (bx J) oM oM _ _ g_ (SlO.win (f:=ar) (d:=0) (b:=I) (l:=L) (fun _=>rfl) U S O) (SlO.win (f:=ar) (d:=0) (b:=Q) (l:=l2) (fun _=>rfl) sh_ Y X)) ?_));rintro _ _ _ e rfl;refine lL e ac (ai (aa e ac ?_));cases za:((cY B y1:Int) == (0:Int))
 .
  have zd:=ao za;refine lB 27 za (ah (cK (cQ (aa e ac ?_))));cases zb:(decide ((cY B y1:Int)<(0:Int)))
  .
   have ze:=oF zb;refine lB 29 zb (ah (cK (kQ (lL e aF (Gd 34 1 0 e (fun _ g_ f_ hj_ sh_=>xm I L S O c1 B oM C bd hW1 i (some ⟨Q,Y,none⟩) c2 y1 X (win l2 Y X) k (bx J) bb oM _ _ g_ (e.own 1) hj_ (SlO.win (f:=ar) (d:=0) (b:=Q) (l:=l2) (fun _=>rfl) sh_ Y X)) ?_)))));rintro _ _ _ u44 ⟨s41,fn,fz,hd,rfl,hn,bq,c7,cm,b6,zi⟩;replace e:=(e.stepM 1 u44 zi).to [⟨Q,24,(l2).flatMap ar⟩,⟨I,24,(s41).flatMap ar⟩,⟨W,26,[uV 0,eS]⟩,⟨b4,26,nc y⟩,⟨Z,26,nc x⟩] [];refine bj 35 (sf I s41 fn fz hd (B-y1) oM oM c7 cm bq b6 _ _ e.g (e.own 1) (e.jk 1) e.f.1) ?_;rintro _ _ zo u48 ⟨z45,o45,n45,zp,rfl,hw,bw,c5,bm,⟨ly,hk,D,cx⟩,hm⟩;replace e:=(e.stepM 1 u48 hm).to [⟨Q,24,(l2).flatMap ar⟩,⟨I,24,(z45).flatMap ar⟩,⟨W,26,[uV 0,eS]⟩,⟨b4,26,nc y⟩,⟨Z,26,nc x⟩] [];have bk:=D.odd_pos;have j1:=D.le;refine lL e ac (lD ?_);intro a_ ka;refine ⟨_,_,?_,⟨I,z45,o45,n45,zp,Q,l2,Y,X,c2,hk,y1,zo,rfl,rfl,e.to _ _,oM,bw,c5,bm,cx,bk,oM,hW2,J,bb,k,hy1,D.2,hyo,(by rw[sR oM hyo D];exact hG)⟩,ka.to _ kR⟩
   omega
  have ze:=oT zb;refine lB 29 zb (aj (kQ (lL e m4 (lN (kQ (lL e aF (Gd 34 0 1 e (fun _ g_ f_ hj_ sh_=>xm Q l2 Y X c2 y1 oM J bb hW2 k (some ⟨I,S,none⟩) c1 B O (win L S O) i (bx C) bd oM _ _ g_ (e.own 0) hj_ (SlO.win (f:=ar) (d:=0) (b:=I) (l:=L) (fun _=>rfl) sh_ S O)) ?_)))))));rintro _ _ _ u67 ⟨s64,hj,ds,fm,rfl,ht,cz,ch,br,cr,zj⟩;replace e:=(e.stepM 0 u67 zj).to [⟨Q,24,(s64).flatMap ar⟩,⟨I,24,(L).flatMap ar⟩,⟨W,26,[uV 0,eS]⟩,⟨b4,26,nc y⟩,⟨Z,26,nc x⟩] [];refine bj 35 (sf Q s64 hj ds fm (y1-B) oM oM ch br cz cr _ _ e.g (e.own 0) (e.jk 0) e.f.1) ?_;rintro _ _ zq u71 ⟨z68,o68,n68,zr,rfl,h8,cy,c6,dc,⟨kt,dp,F,c3⟩,f3⟩;replace e:=(e.stepM 0 u71 f3).to [⟨Q,24,(z68).flatMap ar⟩,⟨I,24,(L).flatMap ar⟩,⟨W,26,[uV 0,eS]⟩,⟨b4,26,nc y⟩,⟨Z,26,nc x⟩] [];have c4:=F.odd_pos;have h7:=F.le;refine lL e ac (lD ?_);replace e:=e.perm (List.Perm.swap _ _ _);intro a_ ka;refine ⟨_,_,?_,⟨Q,z68,o68,n68,zr,I,L,S,O,c1,dp,B,zq,rfl,rfl,e.to _ _,oM,cy,c6,dc,c3,c4,oM,hW1,C,bd,i,hx1,F.2,hxo,(by rw[sR oM hxo F,JL];exact hG)⟩,ka.to _ kR⟩
  omega
 have zd:=eq_of_beq za;refine lB 27 za (aj (CG.exit ?_))
 show CG _ _ _ _ _ _ _ _
 refine aa e ac (Ia 37 1 e (fun _ g_ f_ U=>G1 (some ⟨I,S,none⟩) c1 (win L S O) O B i (bx C) oM _ _ g_ (SlO.win (f:=ar) (d:=0) (b:=I) (l:=L) (fun _=>rfl) U S O)) ?_);rintro _ _ _ e rfl;refine lA 9 26 ([uV 0,eS]) e (fun zg _ zs e=>lP 0 0 (nc B) e (fun _ e=>ai (kZ ?_)));refine bG _ (CG.loop (fun μ_ Γ w_=>∃ (z:Int)(a:Nat)(h_:Hp),μ_=z.toNat/\Γ=[(4,pB W),(9,pB zg),(7,iV z)]/\SS w h w_ h_ [⟨zg,26,nc a⟩,⟨Q,24,(l2).flatMap ar⟩,⟨I,24,(L).flatMap ar⟩,⟨W,26,[uV 0,eS]⟩,⟨b4,26,nc y⟩,⟨Z,26,nc x⟩] [] [fun h_=>Tab h_]/\z<=64000000000/\a*2^z.toNat=JK x y) _ ⟨((min kx ky:Nat):Int),B,zs,rfl,rfl,e.to _ _,oM,(by rw[show B=y1 by omega,Nat.gcd_self] at hG;rw[show B=y1 by omega];rw[show (((min kx ky:Nat):Int)).toNat=min kx ky by omega];exact hG)⟩ ?_);rintro _ _ _ ⟨z,a,_,lq,rfl,e,hz,ha⟩;refine cQ (aa e ac ?_);cases zc:(decide ((0:Int)<(z:Int)))
 .
  have zf:=oF zc;refine lB 39 zc (ah (CG.exit ?_))
  show CG _ _ _ _ _ _ _ _
  exact aa e [.o (nv a) 0 0 2] (lP 3 0 (nc a) e (fun _ e=>af e [(3,0,2)] (nv a) (by rw[show z.toNat=0 by omega,JI,HA] at ha;rw[ha])))
 have zf:=oT zc;refine lB 39 zc (aj (cK (cQ (kZ (kQ (lL e [.o (nv a) 0 0 2,.c] (lV 44 (nV (min z.toNat 65536)) ?_ (hr:=aN (n:=if (65536:Int)<z then (65536:Int) else z) kR (by split<;>omega)))))))));refine aq 45 e (Fr a (min z.toNat 65536) (by have:=dY (show a<=x by exact ed (Nat.le_mul_of_pos_right a (z8 z.toNat)) (by rw[ha];exact Nat.gcd_le_left y hx));omega) oM _ _ e.g) (fun _ zk e=>lP 0 0 (nc (a*2^min z.toNat 65536)) e (fun _ e=>lN (kQ (lL e ac (lI 41 (z-65536) ?_)))));refine lL e ac (lD ?_);intro a_ ka;refine ⟨_,_,?_,⟨z-65536,a*2^min z.toNat 65536,zk,rfl,rfl,e.to _ _,oM,(by rw[zY,<-Am,show min z.toNat 65536+(z-65536).toNat=z.toNat by omega];exact ha)⟩,ka.to _ kR⟩
 omega
theorem l7 (n:Nat):(n=0/\nb n=0)\/(0<n/\0<nb n):=by
 rcases va n with h|h
 ·subst h;exact .inl ⟨rfl,rfl⟩
 ·exact .inr ⟨h,(cl h).2.2⟩
theorem jm (x y:Nat):JK y (x%y)=JK x y:=by rw[JL y,<-Nat.gcd_rec,JL]
theorem EA (n:Nat)(w:World)(h:Hp)(g:G w h):CR 105 #[nv n] w h (fun v _=>∃ s:Nat,∃ ok:Bool,v=.tuple #[mV s,.bool ok]/\(ok=true->s=n/\n<18446744073709551616)):=by
 rcases co n 18446744073709551616 with hn|hn
 ·refine (kr n hn w h g).mono ?_
  rintro _ w' ⟨_,a,rfl,u,rfl⟩;exact ⟨_,a,rfl,u,n,true,rfl,fun _=>⟨rfl,hn⟩⟩
 ·refine (Cl n hn w h g).mono ?_
  rintro _ w' ⟨_,a,rfl,u,rfl⟩;exact ⟨_,a,rfl,u,0,false,rfl,fun e=>by cases e⟩
theorem HN (a b:Int)(hla:(wds (ab a)).length<=1000000000)(hlb:(wds (ab b)).length<=1000000000)(w:World)(h:Hp)(g:G w h)(tb:Tab h):CV 221 #[iv a,iv b] w h (nv (JK (ab a) (ab b))):=by
 have d:=((sS g).add (K:=fun z=>Tab z) tb);refine go Tryz.func221 [(0,iv a),(1,iv b)] rfl (aG (lA 2 28 (ic a) d (fun Y w2 h3 d=>lA 3 28 (ic b) d (fun Z w5 h6 d=>lA 4 26 ([uV 0,eS]) d (fun W w8 h9 d=>ai ?_)))));have B:=d;refine uH 6 [⟨4,5,.cells (J0 [uV 0,eS]) 26 (0,0)⟩,⟨5,6,.cells (J0 [uV 0,eS]) 26 (0,0)⟩] [] mixed d (dz (lu kR (fun _ _=>by kernel_rfl)) (dz (lu kR (fun _ _=>by kernel_rfl)) aw)) (eV 0 14 (qP Y 1) (eO 1 15 [(2,1,2)] (nv (ab a)) d (eV 2 16 (qP Z 1) (uE 3 17 [(1,1,2)] (nv (ab b)) B d (HT B d 26 [uV 0,eS] 26 [uV 0,eS] (fun _ _ M I J O d=>tP 6 0 0 (nc (ab a)) d (fun _ d=>?_) (hz:=sb J)))))));refine tP 7 1 0 (nc (ab b)) d (fun _ d=>?_) (hz:=sb O);refine tN (CG.join (fun Γ w_=>∃ (x:Nat)(y:Nat)(z:Hp),Γ=[(4,pB W),(6,pB I),(5,pB M)]/\SS w h w_ z [⟨M,26,nc x⟩,⟨I,26,nc y⟩,⟨W,26,[uV 0,eS]⟩,⟨Z,28,ic b⟩,⟨Y,28,ic a⟩] [] [fun z=>Tab z]/\(wds x).length<=1000000000/\(wds y).length<=1000000000/\JK x y=JK (ab a) (ab b)) ?_ ?_)
 .
  refine aa d [.o (nv (ab a)) 0 0 2,.o (nv (ab b)) 1 0 2] (aq 20 d (qp (ab a) (ab b) aM aM _ _ d.g) (fun _ zm d=>?_));have hcm:=gm (ab a) (ab b);cases U:(decide ((cY (ab a) (ab b):Int)<(0:Int)))
  .
   have zi:=oF U;refine lB 21 U (ah (CG.skip ?_));intro a_ H;exact ⟨_,⟨(ab a),(ab b),zm,rfl,d.to _ _,aM,aM,(by first|rfl|exact JL _ _)⟩,H.to _ kR⟩
  have zi:=oT U;refine lB 21 U (aj (kQ (lL d [.o (nv (ab b)) 1 0 2,.o (nv (ab a)) 0 0 2] (lP 0 0 (nc (ab b)) d (fun _ d=>lP 1 0 (nc (ab a)) d (fun _ d=>lD ?_))))));intro a_ H;exact ⟨_,⟨(ab b),(ab a),zm,rfl,d.to _ _,aM,aM,(by first|rfl|exact JL _ _)⟩,H.to _ kR⟩
 rintro _ _ ⟨x,y,_,rfl,d,hlx,hly,L⟩;refine cQ (aa d [.o (nv y) 1 0 2] (aq 25 d (eE y (by first|assumption|exact cp (JO (ua _ oM)) aM) _ _ d.g) (fun _ _ d=>?_)));have bl:=l7 y;cases Q:(((nb y:Nat):Int) == (0:Int))
 .
  have zj:=ao Q;refine lB 26 Q (ah (cK (aa d [.o (nv x) 0 0 2,.o (nv y) 1 0 2] (aq 31 d (F6 x y oM aM aM _ _ d.g) (fun _ _ d=>?_)))));have hmd:=ua x (show 0<y by omega);refine lL d [.c,.v (nv (x/y)),.v (nv (x%y)),.v qT] (lA 7 26 ([uV 0,eS]) d (fun zn _ _ d=>lA 8 26 ([uV 0,eS]) d (fun zo _ _ d=>lP 1 0 (nc (x/y)) d (fun _ d=>lP 0 0 (nc (x%y)) d (fun _ d=>lL d ac (ai ?_))))));have B:=d;refine uH 2 [] [M,I] mixed d aw (eO 0 35 [(3,0,2)] (nv y) d (uE 1 36 [(0,0,2)] (nv (x%y)) B d ?_ (hM:=fun p hp=>by obtain rfl:=n1.1 hp;exact fun F=>by rcases gq.1 F with e|F;exact cB d.st (i:=0) (j:=2) kR kR kR e;rcases gq.1 F with e|F;exact cB d.st (i:=0) (j:=3) kR kR kR e;cases F)));refine cG d (fun _ _ d=>tP 2 2 0 (nc y) d (fun _ d=>?_) (hz:=cO (JQ)));refine tP 3 3 0 (nc (x%y)) d (fun _ d=>?_) (hz:=cO (JR _<|JQ));refine tN (cQ (aG ?_));have D:JK y (x%y)=JK (ab a) (ab b):=by rw[<-L];exact jm _ _
  refine lL d [.o (nv (x%y)) 3 0 2] (aq 38 d (eE (x%y) (by first|assumption|exact cp (JO (ua _ oM)) aM) _ _ d.g) (fun _ _ d=>?_));have bd:=l7 (x%y);cases S:(((nb (x%y):Nat):Int) == (0:Int))
  .
   have zk:=ao S;refine lB 39 S (ah (cK (cQ (aa d [.o (nv y) 2 0 2] (lC 43 d (EA y _ _ d.g) ?_)))));rintro _ _ _ d ⟨sp,ok,rfl,l⟩;refine lL d [.c,.v (mV sp),.v (.bool ok),.c,.c] (aE (lL d ac (lN ?_)));cases X:(ok)
   .
    try rw[X] at d
    try rw[X]
    exact da (cK (aa d [.o (nv y) 2 0 2,.o (nv (x%y)) 3 0 2] (aq 62 d (Bt y (x%y) oM oM (by first|assumption|exact cp (JO (ua _ oM)) aM) (by first|assumption|exact cp (JO (ua _ oM)) aM) _ _ d.g d.f.1) (fun _ _ d=>lP 4 0 (nc (JK y (x%y))) d (fun _ d=>af d [(4,0,2)] (nv (JK y (x%y))) (congrArg nv D))))))
   try rw[X] at d
   try rw[X]
   refine ci (aa d [.o (nv (x%y)) 3 0 2] (aq 49 d (kr (x%y) (by have C:=l aM;omega) _ _ d.g) (fun _ zp d=>lL d [.c,.v (mV (x%y)),.v qT,.c,.c] (ai (kZ ?_)))));refine bG _ (CG.loop (fun μ_ Γ w_=>∃ (p:Nat)(q:Nat)(z:Hp),μ_=q/\Γ=[(4,pB W),(6,pB I),(5,pB M),(10,mV p),(12,mV q)]/\SS w h w_ z [⟨zo,26,nc (x%y)⟩,⟨zn,26,nc (x/y)⟩,⟨M,26,nc y⟩,⟨I,26,nc (x%y)⟩,⟨W,26,[uV 0,eS]⟩,⟨Z,28,ic b⟩,⟨Y,28,ic a⟩] [] [fun z=>Tab z]/\p<18446744073709551616/\q<18446744073709551616/\JK p q=JK (ab a) (ab b)) _ ⟨sp,(x%y),zp,rfl,rfl,d.to _ _,(by have C:=l aM;omega),(by have C:=l aM;omega),(by rw[(l aM).1];exact D)⟩ ?_);rintro _ _ _ ⟨p,q,_,bk,rfl,d,hp,hq,hG⟩;refine cQ (aa d ac ?_);cases V:(decide ((0:Int)<(q:Int)))
   .
    have zl:=oF V;refine lB 53 V (ah (CG.exit ?_))
    show CG _ _ _ _ _ _ _ _
    exact aa d ac (aq 59 d (Er p hp _ _ d.g) (fun _ _ d=>lP 4 0 (nc p) d (fun _ d=>af d [(4,0,2)] (nv p) (congrArg nv (by rw[<-hG,show q=0 by omega,J1])))))
   have zl:=oT V;refine lB 53 V (aj (cK (kZ (cR 4 [] mixed d aw ?_))));refine eV 0 54 (mV q) (eV 1 55 (mV p) (eV 2 56 (mV q) (eV 3 57 (mV (p%q)) ?_ (hv:=fun _=>aN (dV (t:=24) (u:=24) (x:=.tmp 55) (y:=.tmp 56) (k:=.u64) (a:=(p:Int)) (b:=(q:Int)) kR kR kR oM _) (cM p q)))));refine cG d (fun _ zq d=>tV 4 10 (mV q) (tV 5 12 (mV (p%q)) (tD ?_)));intro a_ H;refine ⟨_,_,?_,⟨q,p%q,zq,rfl,rfl,d.to _ _,hq,(by have:=ua p (show 0<q by omega);omega),(by rw[jm];exact hG)⟩,H.to _ kR⟩;have bb:=ua p (show 0<q by omega)
   omega
  have zk:=eq_of_beq S;exact lB 39 S (aj (aa d [.o (nv y) 2 0 2] (lP 4 0 (nc y) d (fun _ d=>af d [(4,0,2)] (nv y) (congrArg nv (by rw[<-D,show (x%y)=0 by omega,J1]))))))
 have zj:=eq_of_beq Q;exact lB 26 Q (aj (aa d [.o (nv x) 0 0 2] (lP 2 0 (nc x) d (fun _ d=>af d [(2,0,2)] (nv x) (congrArg nv (by rw[<-L,show y=0 by omega,J1]))))))
end Go.Proofs.YtffiihfdjnmhpaaGreatDoor
