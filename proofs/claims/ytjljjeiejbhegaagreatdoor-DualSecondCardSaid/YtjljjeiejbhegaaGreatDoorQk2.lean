/- Laws of this claim, part 3. -/
import Derived.Test.YtjljjeiejbhegaaGreatDoorQk0
import Derived.Test.YtjljjeiejbhegaaGreatDoorQk1
set_option maxRecDepth 100000
set_option maxHeartbeats 4000000
namespace Go.Proofs.YtjljjeiejbhegaaGreatDoor
open Int renaming eq_ofNat_of_zero_le -> N7, mul_neg -> N8, neg_mul -> N9, neg_neg -> Oa
open List renaming drop_eq_nil_of_le -> NR, drop_zero -> y6, flatMap_cons -> y4, length_drop -> Np, length_set -> NI, length_take -> MV, mem_cons -> hC, mem_cons_of_mem -> N6, mem_cons_self -> N5, mem_singleton -> ti, replicate -> Af, set_set -> N3, take_length -> y8, take_of_length_le -> Nj
open Nat renaming add_mul -> Ni, add_sub_cancel -> Nz, add_zero -> y5, div_add_mod -> Nl, div_eq_of_lt -> MN, div_le_self -> L2, div_mul_le_self -> Nv, eq_of_mul_eq_mul_left -> Oc, eq_zero_or_pos -> B2, gcd -> N1, gcd_comm -> N2, gcd_mul_left -> Oe, le_of_eq -> N4, le_total -> Od, le_trans -> ep, lt_of_lt_of_le -> er, lt_or_ge -> ea, min_eq_left -> MW, min_eq_right -> Nm, mod_eq_of_lt -> Am, mod_lt -> As, mul_add -> MS, mul_assoc -> MT, mul_comm -> MQ, mul_le_mul_left -> M5, mul_le_mul_right -> z7, mul_lt_mul_of_pos_left -> Nf, mul_lt_mul_of_pos_right -> ND, mul_one -> Ng, mul_zero -> MX, one_mul -> Nk, pow_add -> M4, pow_le_pow_right -> M1, pow_mul -> M7, pow_succ -> MP, pow_zero -> NZ, sub_le -> Ob, succ_pos -> N0, two_pow_pos -> M0, zero_add -> z6, zero_le -> NY, zero_mul -> zZ
open Go.RowKit
theorem DE (n)(hn:0<n)(hl:(wds n).length<=(10^9))(L:(2^64)<=n)(w h)(g:G w h):CR 109 #[nv n] w h (fun v h1=>Ei h h1 v (wds n)):=by
 have e:=sS g;have hz:=jx n;have hp:=mi.2 hn;refine go Tryz.func109 [(0,nv n)] rfl (aA (lA 1 44 (nc n) e (fun z w2 h3 e=>lL e ac (ag (aa e [.v (qP z 1),.o (.string (hi n)) 0 1 1] (lV 7 qF ?_ (hr:=rb kR (jH (fV L)))))))));refine lL e ac (lG 9 ?_);refine lG 10 (lG 11 (lL e [.v qF] (ah (cK (aa e [.v (qP z 1),.o (.string (hi n)) 0 1 1,.v (nV ((hi n).size))] (lV 16 (nV (((hi n).size)/8)) ?_ (hr:=aK (dU (t:=3) (u:=3) (x:=.tmp 15) (y:=.const (iV 8)) (k:=.i64) (a:=(((hi n).size:Nat):Int)) (b:=(8:Int)) kR kR kR oM _) (dN ((hi n).size) 8 oM))))))));refine bw 17 (1+(((hi n).size)/8:Nat)) ((wds n).length) (lK 18 42 ((wds n).length) 1 8 (uV 0) aq 0 e (fun p w5 Y e=>?_));have H:(Af ((wds n).length) 0).length=((wds n).length):=by simp
 refine lL e ac (aG (lL e [.c,.v (pB z),.o (mV (n%(2^64))) 1 0 1] (lX 22 (sB p) ((wds n).length) ((wds n).length) 1 0 0 rfl ?_)));refine lW 0 (Af ((wds n).length) 0) aq 1 0 (n%(2^64)) e oM (fun w8 e=>?_);have I:((Af ((wds n).length) 0).set 0 (n%(2^64))).length=((wds n).length):=by rw[NI];exact H
 replace e:=e.to [⟨p,42,((Af ((wds n).length) 0).set 0 (n%(2^64))).flatMap aq⟩,⟨z,44,nc n⟩] [];refine ag (aa e ac (aZ ?_));refine bH _ (CG.loop (fun J Γ X=>∃ (i:Nat)(l:List Nat)(h_:Hp),J=(wds n).length-i/\Γ=[(1,pB z),(2,sZ),(3,qS (sB p) ((wds n).length) ((wds n).length)),(4,nV i)]/\SS w h X h_ [⟨p,42,(l).flatMap aq⟩,⟨z,44,nc n⟩] [] []/\1<=i/\i<=(wds n).length/\l.length=(wds n).length/\(∀ j,j<i->l.getD j 0=(wds n).getD j 0)) _ ⟨1,(Af ((wds n).length) 0).set 0 (n%(2^64)),Y,rfl,rfl,e.to _ _,nR _,by omega,I,su oM⟩ ?_);rintro _ _ _ ⟨i,l,_,O,rfl,e,Z,hi2,K,Q⟩;refine cQ (aa e [.c,.c,.v (nV ((wds n).length))] ?_);cases F:(decide ((i:Int)<((((wds n).length):Nat):Int)))
 .
  have zb:=oF F;refine lB 26 F (ah (CG.exit ?_))
  show CG _ _ _ _ _ _ _ _
  refine aa e ax (lN (kX ?_));have V:i=(wds n).length:=by omega
  have M:l=wds n:=rJ oM (fun j hj=>Q j oM);rw[M] at e
  obtain ⟨_,e,D,B,C⟩:=e.pub 0;replace e:=(e.to [⟨z,44,nc n⟩] []).aS (SlO.of_flat (sz:=1) (f:=aq) (d:=0) (b:=p) (o:=0) (l:=wds n) (fun _=>rfl) D);exact e.ret [] (qS (sB p) ((wds n).length) ((wds n).length)) (⟨p,rfl,B,C,e.f.1⟩)
 have zb:=oT F;refine lB 26 F (ak (cK (cQ (kZ (kQ (lL e [.c,.c,.v (qP z 1),.o (.string (hi n)) 1 1 1,.c] (lI 34 ((i:Nat)-1) ?_)))))));refine bw 35 (8*((i:Nat)-1)) (8*(i-1)) (lV 36 (.string ((hi n).extract (8*(i-1)) (hi n).size)) ?_ (hr:=sD (tx:=9) (x:=.tmp 32) (i:=.tmp 35) (k:=.i64) (s:=hi n) (n:=(8*(i-1))) (j:=((8*(i-1):Nat):Int)) kR kR kR kR oM oM _));refine ar 37 e (sw ((hi n).extract (8*(i-1)) (hi n).size) (by rw[iX];omega) _ _ e.g) (fun _ U e=>lX 38 (sB p) ((wds n).length) ((wds n).length) 1 (i:Nat) i rfl (lW 0 l aq 1 i (wv ((hi n).extract (8*(i-1)) (hi n).size):Nat) e oM (fun _ e=>?_)));have S:((l).set i (wv ((hi n).extract (8*(i-1)) (hi n).size):Nat)).length=((wds n).length):=by rw[NI];exact K
 replace e:=e.to [⟨p,42,((l).set i (wv ((hi n).extract (8*(i-1)) (hi n).size):Nat)).flatMap aq⟩,⟨z,44,nc n⟩] [];refine lN (kQ (lL e ac (bw 28 ((i:Nat)+1) (i+1) ?_)));refine lL e ac (lD ?_);intro a_ W;refine ⟨_,_,?_,⟨i+1,(l).set i (wv ((hi n).extract (8*(i-1)) (hi n).size):Nat),U,rfl,rfl,e.to _ _,oM,oM,S,(rt oM Q (by rw[j6 n (i-1) oM,show i-1+1=i by omega]))⟩,W.to _ kR⟩
 omega
theorem gF (n)(hn:0<n)(a:(wds n).length<=(10^9))(w h)(g:G w h):CR 109 #[nv n] w h (fun v h1=>Ei h h1 v (wds n)):=by
 rcases ea n (2^64) with hs|hs
 ·exact Fi n hn a hs w h g
 ·exact DE n hn a hs w h g
open Go.RowKit Go.Shelf
def x4:Go.Shelf.Ren:=⟨fun|167=>163|240=>195|276=>214|n=>n,fun|0=>0|4=>4|5=>5|9=>9|20=>20|37=>185|70=>228|72=>230|75=>233|164=>274|80=>235|n=>n,fun n=>n⟩
theorem Ek:Go.Proofs.Lays.n167 Tryz.prog x4:={
 mixed:=by kernel_rfl
 f167:=Tryz.func163.trans (congrArg some kR)
 f240:=Tryz.func195.trans (congrArg some kR)
 f276:=Tryz.func214.trans (congrArg some kR)
 t0:=Tryz.underlying0
 a0:=Tryz.isAgg0
 z0:=Tryz.sizeOf0
 v0:=Tryz.zeroValue0
 t4:=Tryz.underlying4
 a4:=Tryz.isAgg4
 z4:=Tryz.sizeOf4
 v4:=Tryz.zeroValue4
 t5:=Tryz.underlying5
 a5:=Tryz.isAgg5
 z5:=Tryz.sizeOf5
 v5:=Tryz.zeroValue5
 t9:=Tryz.underlying9
 a9:=Tryz.isAgg9
 z9:=Tryz.sizeOf9
 v9:=Tryz.zeroValue9
 t20:=Tryz.underlying20
 a20:=Tryz.isAgg20
 z20:=Tryz.sizeOf20
 v20:=Tryz.zeroValue20
 t37:=Tryz.underlying185
 a37:=Tryz.isAgg185
 z37:=Tryz.sizeOf185
 v37:=Tryz.zeroValue185
 t70:=Tryz.underlying228
 a70:=Tryz.isAgg228
 z70:=Tryz.sizeOf228
 v70:=Tryz.zeroValue228
 t72:=Tryz.underlying230
 a72:=Tryz.isAgg230
 z72:=Tryz.sizeOf230
 v72:=Tryz.zeroValue230
 t75:=Tryz.underlying233
 a75:=Tryz.isAgg233
 z75:=Tryz.sizeOf233
 v75:=Tryz.zeroValue233
 t164:=Tryz.underlying274
 a164:=Tryz.isAgg274
 z164:=Tryz.sizeOf274
 v164:=Tryz.zeroValue274 }
theorem Co:Builder.Extra Tryz.prog x4:={
 sizeBuilder:=by kernel_rfl
 liesBuilder:=by kernel_rfl
 t5:=Tryz.underlying5
 a5:=Tryz.isAgg5
 z5:=Tryz.sizeOf5
 v5:=Tryz.zeroValue5
 infoByte:=by kernel_rfl
 cellsByte:=by kernel_rfl
 sizeByte:=by kernel_rfl
 neB5:=by decide }
theorem Gg (A c l)(hd:Wd l)(hl:l.length<=(2^40))(W:l.length<=c)(w h)(g:G w h)(hA:SlO 1 aq 0 h A l):CV 107 #[.slice A l.length c] w h (nv (aD l)):=by
 have d:=((sS g).aS hA);have htl:=iN l l.length;have hdl:(l.drop 1).length=l.length-1:=Np;refine go Tryz.func107 [(0,qS A l.length c)] rfl (aA (lA 2 44 ([uV 0,eS]) d (fun S w2 h3 d=>aG (lL d ac (ar 8 d (Gn A c l hl W _ _ d.g d.f.1) (fun e h5 d=>lL d ac (ag (aa d [.c,.v (nV (tl l l.length))] (aZ (aA ?_))))))))));cases B:((((tl l l.length):Nat):Int) == (0:Int))
 .
  have J:=aj B;refine lB 12 B (lL d ac (ah (aA ?_)));cases D:((((tl l l.length):Nat):Int) == (1:Int))
  .
   have K:=aj D;refine lB 15 D (lL d ac (ah (cK (aA ?_))));have j:=d;refine Mt 3 230 [.pointer none,sZ] d (fun w8 i X Z=>?_);obtain ⟨h9,d,-⟩:=j.liftJ i;refine aG (lL d [.c,.v (nV (tl l l.length))] (bw 22 (((tl l l.length):Nat)-1) ((tl l l.length)-1) ?_));refine bw 23 (8*((tl l l.length)-1:Nat)) (8*((tl l l.length)-1)) (L9 24 j i (Tryz.Builder_Grow_fresh e.heap.size e.heap.size (8*((tl l l.length)-1):Nat) _ (nR _) Z X oM) (fun _ ze d p C=>?_))
   clear i;have i:=p;clear p;have F:Lib.IsBuilder 230 5 e.heap.size e.heap.size (Lib.byteCells (((l.drop 1).take 0).flatMap b8)) _:=.inr C;refine ag (aa d ac (lF 26 A (tl l l.length) c 1 1 1 ?_));replace d:=d.aS (d.f.1.drop 1 c W);replace j:=j.aS (j.f.1.drop 1 c W);refine lL d [.v (nV ((tl l l.length)-1)),.c] (aZ ?_);refine bH _ (CG.loop (fun I Γ H=>∃ (k:Nat)(z:Hp),I=(tl l l.length)-k/\Γ=[(0,qS A (tl l l.length) c),(2,pB S),(3,.pointer (some ⟨e.heap.size,0,none⟩)),(26,qS (if c=1 then A else A.map (·.add (1*1))) ((tl l l.length)-1) (c-1)),(27,nV ((tl l l.length)-1)),(28,nV k)]/\SS w h H z [⟨S,44,[uV 0,eS]⟩] [] [fun z=>SlO 1 aq 0 z (if c=1 then A else A.map (·.add (1*1))) (l.drop 1),fun z=>SlO 1 aq 0 z A l]/\k<=(tl l l.length)-1/\Ext e H/\Lib.IsBuilder 230 5 e.heap.size e.heap.size (Lib.byteCells (((l.drop 1).take k).flatMap b8)) H) _ ⟨0,ze,rfl,rfl,d.to _ _,NY _,i,F⟩ ?_);rintro _ _ zf ⟨k,zg,bb,rfl,d,hk,i,F⟩;have hxk:(l.drop 1).getD k 0<(2^64):=Dg.getD (Dg.drop hd 1) kD k;refine aA ?_;cases O:(decide ((k:Int)<(((tl l l.length)-1:Nat):Int)))
   .
    have zc:=oF O;refine lB 29 O (ag (dE (CG.exit ?_)))
    show CG _ _ _ _ _ _ _ _
    refine cQ (xE ⟨Fw e.heap.size zf.heap.size,none⟩ 5 mixed ?_);obtain ⟨_,d,hj⟩:=j.liftJ i.drew;refine aV 0 43 (qS A (tl l l.length) c) (aX 1 44 A (tl l l.length) c 1 0 0 ((d.f.2.1).ok oM) (aH 2 45 (mV (l.getD 0 0)) d ((d.f.2.1).el 0 oM) ?_ (fun b hb=>hj b (mJ.1 hb).1 (mJ.1 hb).2)));refine aC 3 46 ((Tryz.Builder_String_any e.heap.size e.heap.size (((l.drop 1).take k).flatMap b8) _ (tZ F ((Ext.refl _).drew)) i.size).mono fun e_ _ ⟨U,L⟩=>⟨_,U,BO L,?_⟩);obtain ⟨_,d,-⟩:=j.liftJ (Below.trans i.drew L);refine aV 4 47 (.agg #[mV (l.getD 0 0),.string (⟨(((l.drop 1).take k).flatMap b8).toArray⟩)]) (tP 5 0 0 ([mV (l.getD 0 0),.string (⟨(((l.drop 1).take k).flatMap b8).toArray⟩)]) d (fun _ d=>tN (kX ?_)));have V:k=(tl l l.length)-1:=by omega
    exact d.ret [(0,0,2)] (.agg #[mV (l.getD 0 0),.string (⟨(((l.drop 1).take k).flatMap b8).toArray⟩)]) (by rw[V];exact Fo hd oM)
   have zc:=oT O;refine lB 29 O (ag (ck (cK (cQ (kZ (aA (lX 30 (if c=1 then A else A.map (·.add (1*1))) ((tl l l.length)-1) (c-1) 1 (k:Nat) k ((d.f.1).ok oM) ?_)))))));refine lH 31 (mV ((l.drop 1).getD k 0)) d ((d.f.1).el k oM) (lL d ac (aG (lL d ac (aZ ?_))));refine bH _ (CG.loop (fun I Γ H=>∃ (m:Nat)(z:Hp),I=8-m/\Γ=[(0,qS A (tl l l.length) c),(2,pB S),(3,.pointer (some ⟨e.heap.size,0,none⟩)),(26,qS (if c=1 then A else A.map (·.add (1*1))) ((tl l l.length)-1) (c-1)),(27,nV ((tl l l.length)-1)),(28,nV k),(5,mV ((l.drop 1).getD k 0)),(32,nV m)]/\SS w h H z [⟨S,44,[uV 0,eS]⟩] [] [fun z=>SlO 1 aq 0 z (if c=1 then A else A.map (·.add (1*1))) (l.drop 1),fun z=>SlO 1 aq 0 z A l]/\m<=8/\Ext e H/\Lib.IsBuilder 230 5 e.heap.size e.heap.size (Lib.byteCells (((l.drop 1).take k).flatMap b8++(b8 ((l.drop 1).getD k 0)).take m)) H) _ ⟨0,zg,rfl,rfl,d.to _ _,NY _,i,(by simpa using F)⟩ ?_);rintro _ _ _ ⟨m,zi,bd,rfl,d,hm,i,o⟩;refine aA ?_;cases Q:(decide ((m:Int)<(8:Int)))
   .
    have zd:=oF Q;refine lB 33 Q (ag (dE (CG.exit ?_)))
    show CG _ _ _ _ _ _ _ _
    refine kQ (bw 42 ((k:Nat)+1) (k+1) ?_);refine lL d ac (lD ?_);intro a_ Y;refine ⟨_,_,?_,⟨k+1,zi,rfl,rfl,d.to _ _,oM,i,(by rw[show m=8 by omega,wD oM] at o;exact o)⟩,Y.to _ kR⟩
    omega
   have zd:=oT Q;refine lB 33 Q (ag (ck (cK (cQ (kZ (aa d ax (lN (kQ (lL d ax (bw 37 (8*(m:Nat)) (8*m) ?_))))))))));refine lV 38 (mV (((l.drop 1).getD k 0)/2^(8*m))) ?_ (hr:=gY (t:=42) (u:=3) (x:=.tmp 35) (y:=.tmp 37) (ky:=.i64) (a:=((l.drop 1).getD k 0)) (n:=(8*m)) kR kR kR oM _);refine lV 39 (.int .u8 ((((l.drop 1).getD k 0)/2^(8*m):Nat)%256:Nat)) ?_ (hr:=aK (n:=IntKind.wrap .u8 ((((l.drop 1).getD k 0)/2^(8*m):Nat):Int)) kR (DW _));refine L9 40 j i (Any.Builder_WriteByte Ek Co e.heap.size e.heap.size _ ((((l.drop 1).getD k 0)/2^(8*m)%256:Nat):Int) _ o (wN oM oM oM) i.size) (fun _ zj d p C=>?_)
   clear i;have i:=p;clear p;rw[tm oM] at C;have M:Lib.IsBuilder 230 5 e.heap.size e.heap.size _ _:=.inr C;refine lN (kQ (bw 41 ((m:Nat)+1) (m+1) ?_));refine lL d ac (lD ?_);intro a_ Y;refine ⟨_,_,?_,⟨m+1,zj,rfl,rfl,d.to _ _,oM,i,M⟩,Y.to _ kR⟩
   omega
  have K:=eq_of_beq D;refine lB 15 D (lL d ac (ak (aa d ac (lX 17 A (tl l l.length) c 1 0 0 ((d.f.1).ok oM) ?_))));exact lH 18 (mV (l.getD 0 0)) d ((d.f.1).el 0 oM) (lL d [.v (.agg #[mV (l.getD 0 0),eS])] (lP 0 0 ([mV (l.getD 0 0),eS]) d (fun _ d=>ae d [(0,0,2)] (.agg #[mV (l.getD 0 0),eS]) (IJ hd oM))))
 have J:=eq_of_beq B;exact lB 12 B (lL d ac (ak (aa d [.v (.agg #[uV 0,eS])] (lP 0 0 ([uV 0,eS]) d (fun _ d=>ae d [(0,0,2)] (.agg #[uV 0,eS]) (EX oM))))))
theorem La (n)(hn:n<(2^64))(w h)(g:G w h):CV 95 #[mV n] w h (nv n):=by
 have a:=sS g;exact go Tryz.func95 [(0,mV n)] rfl (aA (lA 2 44 ([uV 0,eS]) a (fun e w2 f a=>aG (lL a [.c,.v (.agg #[mV n,eS])] (lP 0 0 ([mV n,eS]) a (fun d a=>ae a [(0,0,2)] (.agg #[mV n,eS]) (jU hn)))))))
theorem vV (n)(hn:n<(2^64))(w h)(g:G w h):CV 102 #[nv n] w h (.tuple #[mV n,.bool true]):=by
 have a:=sS g;refine go Tryz.func102 [(0,nv n)] rfl (aA (lA 1 44 (nc n) a (fun d w2 e a=>lL a ax (ag (aa a [.v (qP d 1),.o (.string (hi n)) 0 1 1] (lV 6 qF ?_ (hr:=rb kR (KK (fx hn)))))))));exact ah (cK (aa a [.v (pB d),.o (mV (n%(2^64))) 0 0 1,.c,.c] (ae a [] (.tuple #[mV (n%(2^64)),qT]) (by rw[Am hn]))))
theorem E9 (n)(hn:(2^64)<=n)(w h)(g:G w h):CV 102 #[nv n] w h (.tuple #[uV 0,.bool false]):=by
 have a:=sS g;refine go Tryz.func102 [(0,nv n)] rfl (aA (lA 1 44 (nc n) a (fun c w2 d a=>lL a ax (ag (aa a [.v (qP c 1),.o (.string (hi n)) 0 1 1] (lV 6 qT ?_ (hr:=rb kR (JV (fV hn)))))))));exact ak (aa a ax (ae a [] (.tuple #[uV 0,qF]) rfl))
theorem GP (a b w h)(g:G w h):CV 151 #[mV a,mV b] w h (iV (bY a b)):=by
 have c:=sS g;refine go Tryz.func151 [(0,mV a),(1,mV b)] rfl (aa c ac (ag (kZ (aa c ax ?_))));cases d:(decide ((a:Int)<(b:Int)))
 .
  have f:=oF d;refine lB 8 d (lL c ac (ah (aa c ax ?_)));cases e:(decide ((b:Int)<(a:Int)))
  .
   have i:=oF e;exact lB 12 e (lL c ac (ah (cK (aa c ac (ae c [] (iV 0) (by rw[jv oM]))))))
  have i:=oT e;exact lB 12 e (lL c ac (ak (aa c ac (ae c [] (iV 1) (by rw[f5 oM])))))
 have f:=oT d;exact lB 8 d (lL c ac (ak (aa c ac (ae c [] (iV (-1)) (by rw[ei oM])))))
theorem IV (n)(hn:n<(2^64))(w h)(g:G w h):CV 99 #[nv n] w h (nV (nb n)):=by
 have a:=sS g;refine go Tryz.func99 [(0,nv n)] rfl (aA (lA 1 44 (nc n) a (fun c w2 f a=>lL a ac (ag (aa a [.v (qP c 1),.o (.string (hi n)) 0 1 1] (lV 5 qT ?_ (hr:=rb kR (kp (fx hn)))))))));exact ak (aa a [.v (pB c),.o (mV (n%(2^64))) 0 0 1] (ar 8 a (C4 (n%(2^64)) wM _ _ a.g) (fun d e a=>lL a ac (ae a [] (nV (nb (n%(2^64)))) (by rw[Am hn])))))
theorem HC (n)(hn:(2^64)<=n)(D:(wds n).length<=(10^9))(w h)(g:G w h):CV 99 #[nv n] w h (nV (nb n)):=by
 have a:=sS g;have hz:=jx n;have l:=dl hn;refine go Tryz.func99 [(0,nv n)] rfl (aA (lA 1 44 (nc n) a (fun c w2 B a=>lL a ac (ag (aa a [.v (qP c 1),.o (.string (hi n)) 0 1 1] (lV 5 qF ?_ (hr:=rb kR (jH (fV hn)))))))));refine ah (cK (cQ (cR 14 [] mixed a ao ?_)));refine eV 0 9 (qP c 1) (eO 1 10 [(0,1,1)] (.string (hi n)) a (eV 2 11 (nV ((hi n).size)) (kL 3 12 (8*((hi n).size:Nat)) (8*(hi n).size) (eV 4 13 (qP c 1) (eO 5 14 [(0,1,1)] (.string (hi n)) a (eV 6 15 (qP c 1) (eO 7 16 [(0,1,1)] (.string (hi n)) a (eV 8 17 (nV ((hi n).size)) (kL 9 18 (((hi n).size:Nat)-8) (8*((wds n).length-2)) (eV 10 19 (.string ((hi n).extract (8*((wds n).length-2):Nat) (hi n).size)) ?_ (hv:=fun _=>sD (tx:=9) (x:=.tmp 14) (i:=.tmp 18) (k:=.i64) (s:=hi n) (n:=(8*((wds n).length-2):Nat)) (j:=((8*((wds n).length-2):Nat):Int)) kR kR kR kR oM oM _)))))))))));refine au 11 20 a (fun _ _ a=>sw ((hi n).extract (8*((wds n).length-2):Nat) (hi n).size) (by rw[iX];omega) _ _ a.g) (fun p C a=>au 12 21 a (fun _ _ a=>C4 (wv ((hi n).extract (8*((wds n).length-2):Nat) (hi n).size):Nat) wM _ _ a.g) (fun y z a=>?_));have e:=j6 n ((wds n).length-2) oM;rw[show (wds n).length-2+1=(wds n).length-1 by omega] at e
 have d:=xy (n:=n) oM;have f:nb (wv ((hi n).extract (8*((wds n).length-2)) (hi n).size))<=64:=lU (k:=64) (Gv _);rw[<-e] at d
 exact kL 13 22 ((8*(hi n).size:Nat)+(nb (wv ((hi n).extract (8*((wds n).length-2):Nat) (hi n).size):Nat):Nat)) (nb n) (bM a (fun F u a=>tV 14 2 (nV (nb n)) (tN (kX (a.ret [] (nV (nb n)) rfl)))))
theorem gl (n)(a:(wds n).length<=(10^9))(w h)(g:G w h):CV 99 #[nv n] w h (nV (nb n)):=by
 rcases ea n (2^64) with hs|hs
 ·exact IV n hs w h g
 ·exact HC n hs a w h g
theorem mM (a b)(W:(wds a).length<=(10^9))(Y:(wds b).length<=(10^9))(w h)(g:G w h):CV 100 #[nv a,nv b] w h (iV (bY a b)):=by
 have c:=sS g;have U:=jx a;have O:=jx b;refine go Tryz.func100 [(0,nv a),(1,nv b)] rfl (aA (lA 2 44 (nc a) c (fun f w2 h3 c=>lA 3 44 (nc b) c (fun l w5 V c=>lL c ac (ag (aa c [.v (qP f 1),.o (.string (hi a)) 1 1 1,.v (nV ((hi a).size)),.v (qP l 1),.o (.string (hi b)) 0 1 1,.v (nV ((hi b).size))] ?_))))));cases e:((((hi a).size:Nat):Int) != (((hi b).size:Nat):Int))
 .
  have p:=aU e;refine lB 14 e (ah (cK (cQ (aa c [.v (qP f 1),.o (.string (hi a)) 1 1 1,.v (nV ((hi a).size))] (lV 25 (iV (8*(((wds a).length-1:Nat):Int)-8)) ?_ (hr:=rS ((((hi a).size:Nat)-8)) kR ((g5 oM oM).trans oM)))))));refine lL c ac (aZ ?_);refine bH _ (CG.loop (fun H Γ S=>∃ (m:Nat)(h_:Hp),H=m/\Γ=[(2,pB f),(3,pB l),(5,iV (8*(m:Int)-8))]/\SS w h S h_ [⟨l,44,nc b⟩,⟨f,44,nc a⟩] [] []/\m<=(wds a).length-1/\(wds a).length-1=(wds b).length-1/\(wds a).drop (m+1)=(wds b).drop (m+1)) _ ⟨(wds a).length-1,V,rfl,rfl,c.to _ _,nR _,oM,(by rw[NR oM,NR oM])⟩ ?_);rintro _ _ w8 ⟨m,h9,J,rfl,c,hm,u,d⟩;refine cQ (aa c ac ?_);cases z:(decide ((0:Int)<=(8*(m:Int)-8:Int)))
  .
   have L:=oF z;refine lB 27 z (ah (CG.exit ?_))
   show CG _ _ _ _ _ _ _ _
   exact aa c [.v (pB f),.o (mV (a%(2^64))) 1 0 1,.v (pB l),.o (mV (b%(2^64))) 0 0 1] (ar 50 c (GP (a%(2^64)) (b%(2^64)) _ _ c.g) (fun _ _ c=>lL c ac (ae c [] (iV (bY (a%(2^64)) (b%(2^64)))) (by rw[sL (a:=a) (b:=b) oM (by have D:m=0:=oM;rw[D] at d;exact d)]))))
  have L:=oT z;refine lB 27 z (ak (cK (cQ (kZ (cQ ?_)))));have I:=c;refine Gh 10 [] [] mixed c ao (eV 0 30 (qP f 1) (eO 1 31 [(1,1,1)] (.string (hi a)) c (eV 2 32 (iV (8*(m:Int)-8)) (eV 3 33 (.string ((hi a).extract (8*(m-1)) (hi a).size)) ?_ (hv:=fun _=>sD (tx:=9) (x:=.tmp 31) (i:=.tmp 32) (k:=.i64) (s:=hi a) (n:=8*(m-1)) (j:=(8*(m:Int)-8:Int)) kR kR kR kR oM oM _)))));refine eV 5 35 (qP l 1) (Dj 6 36 [(0,1,1)] (.string (hi b)) I c (eV 7 37 (iV (8*(m:Int)-8)) (eV 8 38 (.string ((hi b).extract (8*(m-1)) (hi b).size)) ?_ (hv:=fun _=>sD (tx:=9) (x:=.tmp 36) (i:=.tmp 37) (k:=.i64) (s:=hi b) (n:=8*(m-1)) (j:=(8*(m:Int)-8:Int)) kR kR kR kR oM oM _))));refine au 4 34 c (fun _ _ c=>sw ((hi a).extract (8*(m-1)) (hi a).size) (by rw[iX];omega) _ _ c.g) (fun _ _ c=>au 9 39 c (fun _ _ c=>sw ((hi b).extract (8*(m-1)) (hi b).size) (by rw[iX];omega) _ _ c.g) (fun _ _ c=>bM c (fun _ M c=>tV 10 6 (mV (wv ((hi a).extract (8*(m-1)) (hi a).size))) (tV 11 7 (mV (wv ((hi b).extract (8*(m-1)) (hi b).size))) (rm ?_)))));have F:=j6 a (m-1) oM;have C:=j6 b (m-1) oM;rw[show m-1+1=m by omega] at F C
  refine lL c ax ?_;cases B:(((wv ((hi a).extract (8*(m-1)) (hi a).size):Nat):Int) != ((wv ((hi b).extract (8*(m-1)) (hi b).size):Nat):Int))
  .
   have K:=aU B;refine lB 42 B (ah (cK (kQ (lL c ac (lV 29 (iV (8*((m-1:Nat):Int)-8)) ?_ (hr:=rS (((8*(m:Int)-8)-8)) kR ((g5 oM oM).trans oM)))))));refine lL c ac (lD ?_);intro Z Q;refine ⟨_,_,?_,⟨m-1,M,rfl,rfl,c.to _ _,oM,u,(by rw[show m-1+1=m by omega];exact f4 oM oM d oM)⟩,Q.to _ kR⟩
   omega
  have K:=aJ B;exact lB 42 B (ak (aa c ax (ar 45 c (GP (wv ((hi a).extract (8*(m-1)) (hi a).size):Nat) (wv ((hi b).extract (8*(m-1)) (hi b).size):Nat) _ _ c.g) (fun _ _ c=>lL c ac (ae c [] (iV (bY (wv ((hi a).extract (8*(m-1)) (hi a).size):Nat) (wv ((hi b).extract (8*(m-1)) (hi b).size):Nat))) (by rw[j6 a (m-1) oM,j6 b (m-1) oM,show m-1+1=m by omega];exact congrArg (Value.int .i64) (l7 oM oM d oM)))))))
 have p:=aJ e;refine lB 14 e (ak (cQ (aa c [.v (qP f 1),.o (.string (hi a)) 1 1 1,.v (nV ((hi a).size)),.v (qP l 1),.o (.string (hi b)) 0 1 1,.v (nV ((hi b).size))] ?_)));cases y:(decide ((((hi a).size:Nat):Int)<(((hi b).size:Nat):Int)))
 .
  have X:=oF y;exact lB 21 y (ah (cK (aa c ac (ae c [] (iV 1) (by rw[f5 (gR oM)])))))
 have X:=oT y;exact lB 21 y (ak (aa c ac (ae c [] (iV (-1)) (by rw[ei (gR oM)]))))
theorem Bd (hi lo y)(hlt:hi<y)(hy:y<(2^64))(hlo:lo<(2^64))(w h)(g:G w h):CR 187 #[mV hi,mV lo,mV y] w h (fun v _=>∃ q r:Nat,v=.tuple #[uV q,uV r]/\hi*(2^64)+lo=y*q+r/\r<y/\q<(2^64)):=by
 have c:=sS g;refine go Tryz.func187 [(0,mV hi),(1,mV lo),(2,mV y)] rfl (aa c ax (ag (aa c ac ?_)));have Z:((y:Int) == (0:Int))=false:=fB oM;have bn:=aj Z;refine lB 20 Z (ah (cK (cQ (aa c ax ?_))));have ⟨hb2,bq⟩:=dF (p:=(y:Int)<=(hi:Int)) oM;refine lB 24 hb2 (ah (cK (cQ (aa c ac ?_))));cases D:((hi:Int) == (0:Int))
 .
  have Q:=aj D;refine lB 27 D (ah (cK (aa c ac (ar 35 c (Gt y wM _ _ c.g) (fun w4 h5 c=>?_)))));obtain ⟨s,hsd⟩:∃ e,e=64-nb y:=⟨_,rfl⟩;refine lV 36 (mV s) ?_ (hr:=aK (aK (n:=IntKind.wrap .u64 ((64-nb y:Nat):Int)) kR (bh oM oM)) (by rw[hsd]));refine lL c ac (aG (lL c ax ?_));obtain ⟨Y,hY⟩:∃ e,e=y*2^s:=⟨_,rfl⟩;have hn:=uP (y:=y) oM oM;rw[<-hsd,<-hY] at hn
  refine lV 39 (mV Y) ?_ (hr:=aK (iq (t:=42) (u:=154) (x:=.tmp 37) (y:=.tmp 38) (ky:=.u64) (a:=y) (n:=s) kR kR kR _) (by rw[<-hY,Am hn.2]));refine lL c ac (aG (lL c ac ?_));obtain ⟨y1,hy1⟩:∃ e,e=Y/(2^32):=⟨_,rfl⟩;refine lV 41 (mV y1) ?_ (hr:=aK (aK (n:=Int.fdiv (Y:Int) (2^32)) kR (eN _ (2^32))) (by rw[hy1]));refine lL c ac (aG (lL c ac ?_));obtain ⟨y0,hy0⟩:∃ e,e=Y%(2^32):=⟨_,rfl⟩;refine lV 43 (mV y0) ?_ (hr:=aK (sR (t:=42) (u:=42) (x:=.tmp 42) (y:=.const (uV 4294967295)) (a:=Y) (m:=4294967295) 32 kR kR kR oM kD _) (by rw[hy0]));refine lL c ac (aG (lL c ax ?_));have hhi:hi*2^s<Y:=by rw[hY];exact ND hlt (M0 s)
  obtain ⟨L,hsl⟩:=DR (hi:=hi) (lo:=lo) (s:=s) oM hlo;have hdl:=L2 lo (2^(64-s));have d:Y=y1*(2^32)+y0:=by omega
  refine lV 46 (mV (hi*2^s)) ?_ (hr:=aK (iq (t:=42) (u:=154) (x:=.tmp 44) (y:=.tmp 45) (ky:=.u64) (a:=hi) (n:=s) kR kR kR _) (by rw[Am oM]));refine lL c ax (lV 49 (mV (64-s)) ?_ (hr:=rU (((64:Int)-(s:Int))) kR (fX 64 s oM oM)));refine lV 50 (mV (lo/2^(64-s))) ?_ (hr:=gY (t:=42) (u:=154) (x:=.tmp 47) (y:=.tmp 49) (ky:=.u64) (a:=lo) (n:=(64-s)) kR kR kR oM _);obtain ⟨u32,hu32⟩:∃ e,e=hi*2^s+lo/2^(64-s):=⟨_,rfl⟩;rw[<-hu32] at L
  have C:u32<Y:=by
    have e2:(hi+1)*2^s<=y*2^s:=z7 _ hlt;rw[Ni,Nk,<-hY] at e2
    omega
  refine lV 51 (mV u32) ?_ (hr:=aK (iO (t:=42) (u:=42) (x:=.tmp 46) (y:=.tmp 50) (a:=(hi*2^s)) (b:=(lo/2^(64-s))) kR kR kR oM oM _) (by rw[hu32,Nat.or_comm,g6 s hsl,Nat.add_comm]));refine lL c ac (aG (lL c ax ?_));obtain ⟨u10,hu10⟩:∃ e,e=lo*2^s%(2^64):=⟨_,rfl⟩;rw[<-hu10] at L
  have bd:u10<(2^64):=by omega
  refine lV 54 (mV u10) ?_ (hr:=aK (iq (t:=42) (u:=154) (x:=.tmp 52) (y:=.tmp 53) (ky:=.u64) (a:=lo) (n:=s) kR kR kR _) (by rw[hu10]));refine lL c ac (aG (lL c ac ?_));obtain ⟨u1,hu1⟩:∃ e,e=u10/(2^32):=⟨_,rfl⟩;refine lV 56 (mV u1) ?_ (hr:=aK (aK (n:=Int.fdiv (u10:Int) (2^32)) kR (eN _ (2^32))) (by rw[hu1]));refine lL c ac (lN (bH [(2,mV Y),(6,uV 0),(7,uV 0),(8,mV s),(9,mV y1),(10,mV y0),(11,mV u32),(12,mV u10),(13,mV u1)] ?_));refine aa c ac ?_;obtain ⟨u0,hu0⟩:∃ e,e=u10%(2^32):=⟨_,rfl⟩;refine lV 58 (mV u0) ?_ (hr:=aK (sR (t:=42) (u:=42) (x:=.tmp 57) (y:=.const (uV 4294967295)) (a:=u10) (m:=4294967295) 32 kR kR kR oM kD _) (by rw[hu0]));refine lL c ac (aG (lL c ax ?_));have H:=mY (Y:=Y) (y1:=y1) (y0:=y0) (u:=u32) (u1:=u1) d oM oM oM C;have hR0:=oU (u:=u32) (y1:=y1) oM;have hM0:=Nv u32 y1;obtain ⟨qa,hqa⟩:∃ e,e=u32/y1:=⟨_,rfl⟩;rw[<-hqa] at H hR0 hM0
  refine lV 61 (mV qa) ?_ (hr:=aK (aK (dU (t:=42) (u:=42) (x:=.tmp 59) (y:=.tmp 60) (k:=.u64) (a:=(u32:Int)) (b:=(y1:Int)) kR kR kR oM _) (lk u32 y1 oM)) (by rw[hqa]));refine lL c ac (aG (lL c cG (lV 65 (mV (qa*y1)) ?_ (hr:=rU (((qa:Int)*(y1:Int))) kR (jN qa y1 oM)))));obtain ⟨ra,hra⟩:∃ e,e=u32-qa*y1:=⟨_,rfl⟩;rw[<-hra] at H hR0
  refine lV 66 (mV ra) ?_ (hr:=aK (aK (n:=IntKind.wrap .u64 ((u32:Int)-((qa*y1:Nat):Int))) kR (fX u32 (qa*y1) oM oM)) (by rw[hra]));refine lL c ac (lN (CG.join (fun Γ J=>∃ (i:Nat)(h_:Hp),Γ=[(2,mV Y),(6,uV 0),(7,uV 0),(8,mV s),(9,mV y1),(10,mV y0),(11,mV u32),(13,mV u1),(14,mV u0),(15,mV i)]/\SS w h J h_ [] [] []/\i=(u32*(2^32)+u1)/Y/\(u32*(2^32)+u1)-i*Y=(u32*(2^32)+u1)%Y/\i*Y<=u32*(2^32)+u1) ?_ ?_))
  .
   refine kZ ?_;refine bH _ (CG.loop (fun K Γ J=>∃ (q:Nat)(r:Nat)(h_:Hp),K=q/\Γ=[(2,mV Y),(6,uV 0),(7,uV 0),(8,mV s),(9,mV y1),(10,mV y0),(11,mV u32),(13,mV u1),(14,mV u0),(15,mV q),(16,mV r)]/\SS w h J h_ [] [] []/\HalfQ Y y1 y0 u32 u1 q r/\r<(2^32)) _ ⟨qa,ra,h5,rfl,rfl,c.to _ _,H,oM⟩ ?_);rintro _ _ w6 ⟨q,r,S,hm8,rfl,c,O,hr⟩;have bl:=O.qb;refine cQ (aa c ac ?_);cases F:(decide (((2^32):Int)<=(q:Int)))
   .
    have bb:=oF F;refine lB 68 F (lL c cG (lV 72 (mV (q*y0)) ?_ (hr:=rU (((q:Int)*(y0:Int))) kR (jN q y0 (Gl oM oM)))));refine lL c ac (lV 74 (mV ((2^32)*r)) ?_ (hr:=rU ((((2^32):Int)*(r:Int))) kR (jN (2^32) r oM)));refine lL c ac (lV 76 (mV (((2^32)*r)+u1)) ?_ (hr:=rU (((((2^32)*r:Nat):Int)+(u1:Int))) kR (fb ((2^32)*r) u1 oM)));cases za:(decide (((((2^32)*r)+u1:Nat):Int)<((q*y0:Nat):Int)))
    .
     have zj:=oF za;refine lB 77 za (lL c [.v qF] (ah (CG.exit ?_)));intro B f;exact ⟨_,⟨q,S,rfl,c.to _ _,(by first|exact O.fin d oM|exact l.brk d oM oM (by have:=l.qb;omega))⟩,f.to _ kR⟩
    have zj:=oT za;refine lB 77 za (lL c [.v qT] (ak (cK (kZ (aa c ac ?_)))));have hq1:0<q:=by first|omega|exact ef (show (2^32)*r+u1<q*y0 by omega)
    have l:=O.dec d oM C (by first|exact .inl oM|exact .inr oM);refine lV 80 (mV (q-1)) ?_ (hr:=rU (((q:Int)-(1:Int))) kR (fX q 1 oM oM));refine lL c ac (aG (lL c ax (lV 83 (mV (r+y1)) ?_ (hr:=rU (((r:Int)+(y1:Int))) kR (fb r y1 oM)))));refine lL c ac (aG (lL c ac ?_));cases zb:(decide (((2^32):Int)<=((r+y1:Nat):Int)))
    .
     have zk:=oF zb;refine lB 85 zb (ah (CG.skip ?_));intro B f;refine ⟨_,_,?_,⟨q-1,r+y1,S,rfl,rfl,c.to _ _,l,oM⟩,f.to _ kR⟩
     omega
    have zk:=oT zb;refine lB 85 zb (ak (CG.exit ?_));intro B f;exact ⟨_,⟨(q-1),S,rfl,c.to _ _,(by first|exact O.fin d oM|exact l.brk d oM oM (by have:=l.qb;omega))⟩,f.to _ kR⟩
   have bb:=oT F;refine lB 68 F (lL c ac (lG 70 ?_));refine lG 71 (lG 72 (lG 73 (lG 74 (lG 75 (lG 76 (lG 77 (lL c [.v qT] (ak (cK (kZ (aa c ac ?_)))))))))));have hq1:0<q:=by first|omega|exact ef (show (2^32)*r+u1<q*y0 by omega)
   have l:=O.dec d oM C (by first|exact .inl oM|exact .inr oM);refine lV 80 (mV (q-1)) ?_ (hr:=rU (((q:Int)-(1:Int))) kR (fX q 1 oM oM));refine lL c ac (aG (lL c ax (lV 83 (mV (r+y1)) ?_ (hr:=rU (((r:Int)+(y1:Int))) kR (fb r y1 oM)))));refine lL c ac (aG (lL c ac ?_));cases zc:(decide (((2^32):Int)<=((r+y1:Nat):Int)))
   .
    have zl:=oF zc;refine lB 85 zc (ah (CG.skip ?_));intro B f;refine ⟨_,_,?_,⟨q-1,r+y1,S,rfl,rfl,c.to _ _,l,oM⟩,f.to _ kR⟩
    omega
   have zl:=oT zc;refine lB 85 zc (ak (CG.exit ?_));intro B f;exact ⟨_,⟨(q-1),S,rfl,c.to _ _,(by first|exact O.fin d oM|exact l.brk d oM oM (by have:=l.qb;omega))⟩,f.to _ kR⟩
  rintro _ _ ⟨i,zq,rfl,c,hF⟩;refine aA ?_;obtain ⟨W,hF2,hF3⟩:=hF;have hF4:=sF (u1:=u1) C oM;rw[<-W] at hF4
  refine lL c ac (lV 87 (mV ((u32*(2^32))%(2^64))) ?_ (hr:=rU (((u32:Int)*((2^32):Int))) kR (kf u32 (2^32))));refine lL c ac (lV 89 (mV ((((u32*(2^32))%(2^64))+u1)%(2^64))) ?_ (hr:=rU (((((u32*(2^32))%(2^64):Nat):Int)+(u1:Int))) kR (Bm ((u32*(2^32))%(2^64)) u1)));refine lL c ax (lV 92 (mV ((i*Y)%(2^64))) ?_ (hr:=rU (((i:Int)*(Y:Int))) kR (kf i Y)));obtain ⟨r1,hr1⟩:∃ e,e=(u32*(2^32)+u1)%Y:=⟨_,rfl⟩;have z:r1<Y:=by rw[hr1];exact As _ oM
  refine lV 93 (mV r1) ?_ (hr:=aK (aK (n:=IntKind.wrap .u64 ((((((u32*(2^32))%(2^64))+u1)%(2^64):Nat):Int)-(((i*Y)%(2^64):Nat):Int))) kR (lM ((((u32*(2^32))%(2^64))+u1)%(2^64):Nat) ((i*Y)%(2^64)) oM)) (by rw[o9 hF3 (hF2.trans hr1.symm) oM]));refine lL c ac (aG (lL c ax ?_));have I:=mY (Y:=Y) (y1:=y1) (y0:=y0) (u:=r1) (u1:=u0) d oM oM oM z;have X:=oU (u:=r1) (y1:=y1) oM;have hL0:=Nv r1 y1;obtain ⟨qb,hqb⟩:∃ e,e=r1/y1:=⟨_,rfl⟩;rw[<-hqb] at I X hL0
  refine lV 96 (mV qb) ?_ (hr:=aK (aK (dU (t:=42) (u:=42) (x:=.tmp 94) (y:=.tmp 95) (k:=.u64) (a:=(r1:Int)) (b:=(y1:Int)) kR kR kR oM _) (lk r1 y1 oM)) (by rw[hqb]));refine lL c ac (aG (lL c cG (lV 100 (mV (qb*y1)) ?_ (hr:=rU (((qb:Int)*(y1:Int))) kR (jN qb y1 oM)))));obtain ⟨rb,hrb⟩:∃ e,e=r1-qb*y1:=⟨_,rfl⟩;rw[<-hrb] at I X
  refine lV 101 (mV rb) ?_ (hr:=aK (aK (n:=IntKind.wrap .u64 ((r1:Int)-((qb*y1:Nat):Int))) kR (fX r1 (qb*y1) oM oM)) (by rw[hrb]));refine lL c ac (lN (CG.join (fun Γ J=>∃ (o:Nat)(h_:Hp),Γ=[(2,mV Y),(6,uV 0),(7,uV 0),(8,mV s),(14,mV u0),(15,mV i),(17,mV r1),(18,mV o)]/\SS w h J h_ [] [] []/\o=(r1*(2^32)+u0)/Y/\(r1*(2^32)+u0)-o*Y=(r1*(2^32)+u0)%Y/\o*Y<=r1*(2^32)+u0) ?_ ?_))
  .
   refine kZ ?_;refine bH _ (CG.loop (fun K Γ J=>∃ (p:Nat)(t:Nat)(h_:Hp),K=p/\Γ=[(2,mV Y),(6,uV 0),(7,uV 0),(8,mV s),(9,mV y1),(10,mV y0),(14,mV u0),(15,mV i),(17,mV r1),(18,mV p),(16,mV t)]/\SS w h J h_ [] [] []/\HalfQ Y y1 y0 r1 u0 p t/\t<(2^32)) _ ⟨qb,rb,zq,rfl,rfl,c.to _ _,I,oM⟩ ?_);rintro _ _ _ ⟨p,t,U,bk,rfl,c,M,ht⟩;have bj:=M.qb;refine cQ (aa c ac ?_);cases zd:(decide (((2^32):Int)<=(p:Int)))
   .
    have zm:=oF zd;refine lB 103 zd (lL c cG (lV 107 (mV (p*y0)) ?_ (hr:=rU (((p:Int)*(y0:Int))) kR (jN p y0 (Gl oM oM)))));refine lL c ac (lV 109 (mV ((2^32)*t)) ?_ (hr:=rU ((((2^32):Int)*(t:Int))) kR (jN (2^32) t oM)));refine lL c ac (lV 111 (mV (((2^32)*t)+u0)) ?_ (hr:=rU (((((2^32)*t:Nat):Int)+(u0:Int))) kR (fb ((2^32)*t) u0 oM)));cases ze:(decide (((((2^32)*t)+u0:Nat):Int)<((p*y0:Nat):Int)))
    .
     have zn:=oF ze;refine lB 112 ze (lL c [.v qF] (ah (CG.exit ?_)));intro B f;exact ⟨_,⟨p,U,rfl,c.to _ _,(by first|exact M.fin d oM|exact j.brk d oM oM (by have:=j.qb;omega))⟩,f.to _ kR⟩
    have zn:=oT ze;refine lB 112 ze (lL c [.v qT] (ak (cK (kZ (aa c ac ?_)))));have hq2:0<p:=by first|omega|exact ef (show (2^32)*t+u0<p*y0 by omega)
    have j:=M.dec d oM z (by first|exact .inl oM|exact .inr oM);refine lV 115 (mV (p-1)) ?_ (hr:=rU (((p:Int)-(1:Int))) kR (fX p 1 oM oM));refine lL c ac (aG (lL c ax (lV 118 (mV (t+y1)) ?_ (hr:=rU (((t:Int)+(y1:Int))) kR (fb t y1 oM)))));refine lL c ac (aG (lL c ac ?_));cases zf:(decide (((2^32):Int)<=((t+y1:Nat):Int)))
    .
     have zo:=oF zf;refine lB 120 zf (ah (CG.skip ?_));intro B f;refine ⟨_,_,?_,⟨p-1,t+y1,U,rfl,rfl,c.to _ _,j,oM⟩,f.to _ kR⟩
     omega
    have zo:=oT zf;refine lB 120 zf (ak (CG.exit ?_));intro B f;exact ⟨_,⟨(p-1),U,rfl,c.to _ _,(by first|exact M.fin d oM|exact j.brk d oM oM (by have:=j.qb;omega))⟩,f.to _ kR⟩
   have zm:=oT zd;refine lB 103 zd (lL c ac (lG 105 ?_));refine lG 106 (lG 107 (lG 108 (lG 109 (lG 110 (lG 111 (lG 112 (lL c [.v qT] (ak (cK (kZ (aa c ac ?_)))))))))));have hq2:0<p:=by first|omega|exact ef (show (2^32)*t+u0<p*y0 by omega)
   have j:=M.dec d oM z (by first|exact .inl oM|exact .inr oM);refine lV 115 (mV (p-1)) ?_ (hr:=rU (((p:Int)-(1:Int))) kR (fX p 1 oM oM));refine lL c ac (aG (lL c ax (lV 118 (mV (t+y1)) ?_ (hr:=rU (((t:Int)+(y1:Int))) kR (fb t y1 oM)))));refine lL c ac (aG (lL c ac ?_));cases zg:(decide (((2^32):Int)<=((t+y1:Nat):Int)))
   .
    have zp:=oF zg;refine lB 120 zg (ah (CG.skip ?_));intro B f;refine ⟨_,_,?_,⟨p-1,t+y1,U,rfl,rfl,c.to _ _,j,oM⟩,f.to _ kR⟩
    omega
   have zp:=oT zg;refine lB 120 zg (ak (CG.exit ?_));intro B f;exact ⟨_,⟨(p-1),U,rfl,c.to _ _,(by first|exact M.fin d oM|exact j.brk d oM oM (by have:=j.qb;omega))⟩,f.to _ kR⟩
  rintro _ _ ⟨o,_,rfl,c,hE⟩;refine aA ?_;obtain ⟨V,hE2,hE3⟩:=hE;have hE4:=sF (u1:=u0) z oM;rw[<-V] at hE4
  refine lL c ac (lV 122 (mV (i*(2^32))) ?_ (hr:=rU (((i:Int)*((2^32):Int))) kR (jN i (2^32) oM)));refine lL c ac (lV 124 (mV ((i*(2^32))+o)) ?_ (hr:=rU ((((i*(2^32):Nat):Int)+(o:Int))) kR (fb (i*(2^32)) o oM)));refine lL c ac (lV 126 (mV ((r1*(2^32))%(2^64))) ?_ (hr:=rU (((r1:Int)*((2^32):Int))) kR (kf r1 (2^32))));refine lL c ac (lV 128 (mV ((((r1*(2^32))%(2^64))+u0)%(2^64))) ?_ (hr:=rU (((((r1*(2^32))%(2^64):Nat):Int)+(u0:Int))) kR (Bm ((r1*(2^32))%(2^64)) u0)));refine lL c ax (lV 131 (mV ((o*Y)%(2^64))) ?_ (hr:=rU (((o:Int)*(Y:Int))) kR (kf o Y)));obtain ⟨R,hR⟩:∃ e,e=(r1*(2^32)+u0)%Y:=⟨_,rfl⟩;have hRY:R<Y:=by rw[hR];exact As _ oM
  refine lV 132 (mV R) ?_ (hr:=aK (aK (n:=IntKind.wrap .u64 ((((((r1*(2^32))%(2^64))+u0)%(2^64):Nat):Int)-(((o*Y)%(2^64):Nat):Int))) kR (lM ((((r1*(2^32))%(2^64))+u0)%(2^64):Nat) ((o*Y)%(2^64)) oM)) (by rw[o9 hE3 (hE2.trans hR.symm) oM]));refine lL c ac (lV 134 (mV (R/2^s)) ?_ (hr:=gY (t:=42) (u:=154) (x:=.tmp 132) (y:=.tmp 133) (ky:=.u64) (a:=R) (n:=s) kR kR kR oM _));refine lL c ax (lN (kX ?_));obtain ⟨hB1,hB2⟩:=wT (A:=hi*(2^64)+lo) (y:=y) hY L (show u10=u1*(2^32)+u0 by omega) oM W hr1 V hR;exact c.ret [] (.tuple #[mV ((i*(2^32))+o),mV (R/2^s)]) (⟨_,_,rfl,hB1,hB2,by omega⟩)
 have Q:=eq_of_beq D;refine lB 27 D (ak (cQ (cR 6 [] mixed c ao ?_)));refine eV 0 28 (mV lo) (eV 1 29 (mV y) (eV 2 30 (mV (lo/y)) ?_ (hv:=fun _=>aK (dU (t:=42) (u:=42) (x:=.tmp 28) (y:=.tmp 29) (k:=.u64) (a:=(lo:Int)) (b:=(y:Int)) kR kR kR oM _) (lk lo y oM))));refine eV 3 31 (mV lo) (eV 4 32 (mV y) (eV 5 33 (mV (lo%y)) ?_ (hv:=fun _=>aK (fP (t:=42) (u:=42) (x:=.tmp 31) (y:=.tmp 32) (k:=.u64) (a:=(lo:Int)) (b:=(y:Int)) kR kR kR oM _) (dH lo y))));refine bM c (fun _ _ c=>tV 6 6 (mV (lo/y)) (tV 7 7 (mV (lo%y)) (tN (kX ?_))));have hdm:=Nl lo y;have hml:=As lo (show 0<y by omega);have bm:=L2 lo y;have hh0:hi=0:=by omega
 subst hh0;exact c.ret [] (.tuple #[mV (lo/y),mV (lo%y)]) (⟨lo/y,lo%y,rfl,by rw[zZ,z6];exact hdm.symm,hml,by omega⟩)
def DL (h1:Hp)(v:Value)(m:Nat)(Q:List Nat->Prop):Prop:=∃ A c,∃ z:List Nat,v=.slice A z.length c/\z.length<=c/\z.length=m/\Wd z/\Q z/\SlO 1 aq 0 h1 A z
theorem Wd.set {l:List Nat}(h:Wd l)(k){x:Nat}(a:x<(2^64)):Wd (l.set k x):=Dg.set h k a
theorem Wd.rep (n):Wd (Af n 0):=Dg.rep kD
theorem ru {l:List Nat}{k j x:Nat}(hk:k<l.length)(h:∀ i,j<=i->l.getD i 0=0)(a:k<j):∀ i,j<=i->(l.set k x).getD i 0=0:=fun i hi=>by rw[bF hk,if_neg oM];exact h i hi
theorem Fy (A c x D d y)(hx:Wd x)(hy:Wd y)(hlx:x.length<=(10^9))(hly:y.length<=(10^9))(w h)(g:G w h)(hA:SlO 1 aq 0 h A x)(hD:SlO 1 aq 0 h D y):CR 108 #[.slice A x.length c,.slice D y.length d] w h (fun v h1=>DL h1 v (x.length+y.length) (fun z=>aD z=aD x*aD y)):=by
 have e:=(((sS g).aS hA).aS hD);refine go Tryz.func108 [(0,qS A x.length c),(1,qS D y.length d)] rfl (aa e ac (aG (lL e [.c,.v (nV x.length),.c,.v (nV y.length)] (bw 19 ((x.length:Nat)+(y.length:Nat)) (x.length+y.length) ?_))));refine lK 20 42 (x.length+y.length) 1 8 (uV 0) aq 0 e (fun B w2 h3 e=>?_);have hl4:(Af (x.length+y.length) 0).length=(x.length+y.length):=by simp
 refine lL e ac (ag (aa e [.c,.v (nV x.length),.c] (aZ ?_)));refine bH _ (CG.loop (fun Q Γ w_=>∃ (i:Nat)(l:List Nat)(C:Hp),Q=x.length-i/\Γ=[(1,qS D y.length d),(4,sZ),(5,qS (sB B) (x.length+y.length) (x.length+y.length)),(21,qS A x.length c),(22,nV x.length),(23,nV i)]/\SS w h w_ C [⟨B,42,(l).flatMap aq⟩] [] [fun C=>SlO 1 aq 0 C D y,fun C=>SlO 1 aq 0 C A x]/\i<=x.length/\l.length=x.length+y.length/\Wd l/\aD l=ai (2^64) (x.take i)*aD y/\(∀ k,i+y.length<=k->l.getD k 0=0)) _ ⟨0,Af (x.length+y.length) 0,h3,rfl,rfl,e.to _ _,NY _,hl4,Wd.rep _,(by show ai _ _=_;rw[dQ];simp[ai]),fun k _=>eJ⟩ ?_);rintro _ _ w5 ⟨i,l,h6,hm7,rfl,e,hi,M,hW,hv,hz⟩;refine aA ?_;cases J:(decide ((i:Int)<(x.length:Int)))
 .
  have W:=oF J;refine lB 24 J (ag (dE (CG.exit ?_)))
  show CG _ _ _ _ _ _ _ _
  refine aa e ax (lN (kX ?_));have hix:i=x.length:=by omega
  rw[hix,y8] at hv;obtain ⟨h9,e,U,b3,br⟩:=e.pub 0;replace e:=(e.to [] []).aS (SlO.of_flat (sz:=1) (f:=aq) (d:=0) (b:=B) (o:=0) (l:=l) (fun _=>rfl) U);exact e.ret [] (qS (sB B) (x.length+y.length) (x.length+y.length)) (⟨sB B,_,l,by rw[M],by omega,M,hW,hv,e.f.1⟩)
 have W:=oT J;refine lB 24 J (ag (ck (cK (cQ (kZ (aa e ac (lX 26 A x.length c 1 (i:Nat) i ((e.f.2.1).ok oM) ?_)))))));refine lH 27 (mV (x.getD i 0)) e ((e.f.2.1).el i oM) (lL e ax (aG (lL e ac (ag (aa e [.c,.v (nV y.length),.c] (aZ ?_))))));refine bH _ (CG.loop (fun Q Γ w_=>∃ (j:Nat)(l2:List Nat)(H:Nat)(C:Hp),Q=y.length-j/\Γ=[(1,qS D y.length d),(4,sZ),(5,qS (sB B) (x.length+y.length) (x.length+y.length)),(21,qS A x.length c),(22,nV x.length),(23,nV i),(6,nV i),(7,mV (x.getD i 0)),(28,qS D y.length d),(29,nV y.length),(30,nV j),(8,mV H)]/\SS w h w_ C [⟨B,42,(l2).flatMap aq⟩] [] [fun C=>SlO 1 aq 0 C D y,fun C=>SlO 1 aq 0 C A x]/\j<=y.length/\l2.length=x.length+y.length/\Wd l2/\H<(2^64)/\ai (2^64) l2+(2^64)^(i+j)*H=aD l+(2^64)^i*(x.getD i 0*ai (2^64) (y.take j))/\(∀ k,i+y.length<=k->l2.getD k 0=0)) _ ⟨0,l,0,h6,rfl,rfl,e.to _ _,NY _,M,hW,by omega,(by show ai _ l+_=ai _ l+_;simp[ai]),hz⟩ ?_);rintro _ _ _ ⟨j,l2,H,zi,bl,rfl,e,hj,K,O,hc,inv,L⟩;have hlk:=O.get (i+j);refine aA ?_;cases Y:(decide ((j:Int)<(y.length:Int)))
 .
  have zd:=oF Y;refine lB 31 Y (ag (dE (CG.exit ?_)))
  show CG _ _ _ _ _ _ _ _
  refine kQ (lL e [.c,.c,.c,.v (nV y.length)] (bw 75 ((i:Nat)+(y.length:Nat)) (i+y.length) ?_));refine lL e ac (lX 77 (sB B) (x.length+y.length) (x.length+y.length) 1 (i+y.length:Nat) (i+y.length) rfl ?_);refine lW 0 l2 aq 1 (i+y.length) H e oM (fun _ e=>?_);have zf:((l2).set (i+y.length) H).length=(x.length+y.length):=by rw[NI];exact K
  replace e:=e.to [⟨B,42,((l2).set (i+y.length) H).flatMap aq⟩] [];refine lN (kQ (bw 78 ((i:Nat)+1) (i+1) ?_));refine lL e ac (lD ?_);intro a_ ka;refine ⟨_,_,?_,⟨i+1,(l2).set (i+y.length) H,zi,rfl,rfl,e.to _ _,oM,zf,(O.set _ hc),(by have hjy:j=y.length:=oM;rw[hjy] at inv;exact (vz oM inv (L _ oM)).trans (vg hv)),(ru oM (fun k hk=>L k oM) oM)⟩,ka.to _ kR⟩
  omega
 have zd:=oT Y;refine lB 31 Y (ag (ck (cK (cQ (kZ (aa e ac (lX 33 D y.length d 1 (j:Nat) j ((e.f.1).ok oM) ?_)))))));refine lH 34 (mV (y.getD j 0)) e ((e.f.1).el j oM) (lL e ax (aG (lL e ax (lC 38 e (qg (x.getD i 0) (y.getD j 0) wM wM _ _ e.g) ?_))));rintro _ _ zj e ⟨p,ze,rfl,bn,bm,b2,bz⟩;have Z:=ko (a:=(x.getD i 0)) (b:=(y.getD j 0)) wM wM;refine lL e [.c,.v (mV p),.v (mV ze),.c,.c] (aG (lL e m4 (bw 46 ((i:Nat)+(j:Nat)) (i+j) ?_)));refine lX 47 (sB B) (x.length+y.length) (x.length+y.length) 1 (i+j:Nat) (i+j) rfl (lQ 48 0 l2 aq 1 0 (i+j) (mV ((l2).getD (i+j) 0)) e oM ?_);obtain ⟨I,F,bd,bq,b0,V⟩:=fk ze ((l2).getD (i+j) 0) 0 wM wM oM;refine lV 49 (.tuple #[mV I,mV F]) ?_ (hr:=eL kR (V _));refine lL e [.c,.v (mV I),.v (mV F),.c,.c] (aG (lL e ax (lV 54 (mV (p+F)) ?_ (hr:=rU (((p:Int)+(F:Int))) kR (fb p F oM)))));refine lL e ac (lN (bH [(1,qS D y.length d),(4,sZ),(5,qS (sB B) (x.length+y.length) (x.length+y.length)),(21,qS A x.length c),(22,nV x.length),(23,nV i),(6,nV i),(7,mV (x.getD i 0)),(28,qS D y.length d),(29,nV y.length),(30,nV j),(8,mV H),(9,nV j),(11,mV (p+F)),(13,mV I),(14,mV F)] ?_));refine aa e ax ?_;obtain ⟨u,S,bb,bj,bk,X⟩:=fk I H 0 wM wM oM;refine lV 58 (.tuple #[mV u,mV S]) ?_ (hr:=eL kR (X _));refine lL e [.c,.v (mV u),.v (mV S),.c,.c] (lN (kQ (lL e cG (bw 64 ((i:Nat)+(j:Nat)) (i+j) ?_))));refine lL e cG (lV 68 (mV ((p+F)+S)) ?_ (hr:=rU ((((p+F:Nat):Int)+(S:Int))) kR (fb (p+F) S oM)));refine lX 69 (sB B) (x.length+y.length) (x.length+y.length) 1 (i+j:Nat) (i+j) rfl (lW 0 l2 aq 1 (i+j) u e oM (fun _ e=>?_));have zg:((l2).set (i+j) u).length=(x.length+y.length):=by rw[NI];exact K
 replace e:=e.to [⟨B,42,((l2).set (i+j) u).flatMap aq⟩] [];refine lL e ac (lN (kQ (bw 70 ((j:Nat)+1) (j+1) ?_)));refine lL e ac (lD ?_);intro a_ ka;refine ⟨_,_,?_,⟨j+1,(l2).set (i+j) u,((p+F)+S),zj,rfl,rfl,e.to _ _,oM,zg,(O.set _ oM),oM,(nk oM inv oM),(ru oM L oM)⟩,ka.to _ kR⟩
 omega
theorem EF {x:List Nat}(a:Wd x){n:Nat}(h:x.length<=n/64):aD x<2^n:=by
 have h1:=bQ a;have c:(18446744073709551616:Nat)^x.length=2^(64*x.length):=by rw[M7]
 have d:(2:Nat)^(64*x.length)<=2^n:=M1 oM oM
 show ai _ x<_
 omega
theorem oD {l:List Nat}{k x:Nat}(hk:k<l.length)(h:∀ i,k<=i->l.getD i 0=0):∀ i,k+1<=i->(l.set k x).getD i 0=0:=fun i hi=>by rw[bF hk,if_neg oM];exact h i oM
theorem Bt (A c x)(hx:Wd x)(hlx:x.length<=(10^9))(n)(hn:n<=(10^9))(w h)(g:G w h)(hA:SlO 1 aq 0 h A x):CR 189 #[.slice A x.length c,nV n] w h (fun v h1=>DL h1 v (x.length+n/64+1) (fun z=>aD z=aD x*2^n)):=by
 have e:=((sS g).aS hA);refine go Tryz.func189 [(0,qS A x.length c),(1,nV n)] rfl (aa e ac (aG (lL e ac (lV 11 (nV (n/64)) ?_ (hr:=aK (dU (t:=3) (u:=3) (x:=.tmp 10) (y:=.const (iV 64)) (k:=.i64) (a:=(n:Int)) (b:=(64:Int)) kR kR kR oM _) (dN n 64 oM))))));refine lL e ac (lV 13 (nV (n%64)) ?_ (hr:=aK (fP (t:=3) (u:=3) (x:=.tmp 12) (y:=.const (iV 64)) (k:=.i64) (a:=(n:Int)) (b:=(64:Int)) kR kR kR oM _) (dH n 64)));refine lV 14 (mV (n%64)) ?_ (hr:=rU (((n%64:Nat):Int)) kR (bh oM oM));refine lL e ax (aG (lL e [.c,.v (nV x.length),.c] (bw 18 ((x.length:Nat)+(n/64:Nat)) (x.length+(n/64)) ?_)));refine bw 19 ((x.length+(n/64):Nat)+1) ((x.length+(n/64))+1) (lK 20 42 ((x.length+(n/64))+1:Nat) 1 8 (uV 0) aq 0 e (fun j w2 h3 e=>?_));have I:(Af ((x.length+(n/64))+1:Nat) 0).length=((x.length+(n/64))+1:Nat):=by simp
 refine lL e ac (ag (aa e [.c,.v (nV x.length),.c] (aZ ?_)));refine bH _ (CG.loop (fun Q Γ Y=>∃ (i:Nat)(l:List Nat)(S:Hp),Q=x.length-i/\Γ=[(4,sZ),(5,nV (n/64)),(6,mV (n%64)),(7,qS (sB j) ((x.length+(n/64))+1:Nat) ((x.length+(n/64))+1:Nat)),(21,qS A x.length c),(22,nV x.length),(23,nV i)]/\SS w h Y S [⟨j,42,(l).flatMap aq⟩] [] [fun S=>SlO 1 aq 0 S A x]/\i<=x.length/\l.length=x.length+n/64+1/\Wd l/\aD l=2^(n%64)*((2^64)^(n/64)*ai (2^64) (x.take i))/\l.getD (i+n/64) 0<2^(n%64)/\(∀ k,i+n/64+1<=k->l.getD k 0=0)) _ ⟨0,Af ((x.length+(n/64))+1:Nat) 0,h3,rfl,rfl,e.to _ _,NY _,I,Wd.rep _,(by show ai _ _=_;rw[dQ];simp[ai]),(by rw[eJ];exact M0 _),fun k _=>eJ⟩ ?_);rintro _ _ w5 ⟨i,l,h6,hm7,rfl,e,hi,C,K,hv,Z,hz⟩;refine aA ?_;cases B:(decide ((i:Int)<(x.length:Int)))
 .
  have F:=oF B;refine lB 24 B (ag (dE (CG.exit ?_)))
  show CG _ _ _ _ _ _ _ _
  refine aa e ax (lN (kX ?_));have O:i=x.length:=by omega
  rw[O,y8] at hv;obtain ⟨h9,e,D,V,W⟩:=e.pub 0;replace e:=(e.to [] []).aS (SlO.of_flat (sz:=1) (f:=aq) (d:=0) (b:=j) (o:=0) (l:=l) (fun _=>rfl) D);exact e.ret [] (qS (sB j) ((x.length+(n/64))+1:Nat) ((x.length+(n/64))+1:Nat)) (⟨sB j,_,l,by rw[C],by omega,C,K,(by show aD l=_;rw[hv,Ci n];show _*(_*aD x)=_;ac_rfl),e.f.1⟩)
 have F:=oT B;refine lB 24 B (ag (ck (cK (cQ (kZ (aa e ac (lX 26 A x.length c 1 (i:Nat) i ((e.f.1).ok oM) ?_)))))));refine lH 27 (mV (x.getD i 0)) e ((e.f.1).el i oM) (lL e ax (aG (lL e cG (bw 31 ((i:Nat)+(n/64:Nat)) (i+(n/64)) ?_))));refine lX 32 (sB j) ((x.length+(n/64))+1:Nat) ((x.length+(n/64))+1:Nat) 1 (i+(n/64):Nat) (i+(n/64)) rfl (lQ 33 0 l aq 1 0 (i+(n/64)) (mV ((l).getD (i+(n/64)) 0)) e oM (lL e ax (lV 36 (mV ((x.getD i 0)*2^(n%64)%(2^64))) ?_ (hr:=iq (t:=42) (u:=154) (x:=.tmp 34) (y:=.tmp 35) (ky:=.u64) (a:=(x.getD i 0)) (n:=(n%64)) kR kR kR _))));have U:=hx.get i;obtain ⟨H,L,J,M⟩:=Cj (x:=x.getD i 0) (p:=n%64) (o:=l.getD (i+n/64) 0) oM U Z;have hlg:=K.get (i+n/64);refine lV 37 (mV (l.getD (i+n/64) 0+x.getD i 0*2^(n%64)%(2^64))) ?_ (hr:=aK (iO (t:=42) (u:=42) (x:=.tmp 33) (y:=.tmp 36) (a:=((l).getD (i+(n/64)) 0:Nat)) (b:=((x.getD i 0)*2^(n%64)%(2^64))) kR kR kR oM oM _) (by rw[H]));refine lX 38 (sB j) ((x.length+(n/64))+1:Nat) ((x.length+(n/64))+1:Nat) 1 (i+(n/64):Nat) (i+(n/64)) rfl (lW 0 l aq 1 (i+(n/64)) (l.getD (i+n/64) 0+x.getD i 0*2^(n%64)%(2^64)) e oM (fun _ e=>?_));have za:((l).set (i+(n/64)) (l.getD (i+n/64) 0+x.getD i 0*2^(n%64)%(2^64))).length=((x.length+(n/64))+1:Nat):=by rw[NI];exact C
 replace e:=e.to [⟨j,42,((l).set (i+(n/64)) (l.getD (i+n/64) 0+x.getD i 0*2^(n%64)%(2^64))).flatMap aq⟩] [];refine lN (kQ (lL e cG (bw 42 ((i:Nat)+(n/64:Nat)) (i+(n/64)) ?_)));refine bw 43 ((i+(n/64):Nat)+1) ((i+(n/64))+1) (lL e ax (lV 46 (mV (64-(n%64))) ?_ (hr:=rU (((64:Int)-((n%64:Nat):Int))) kR (fX 64 (n%64) oM oM))));refine lV 47 (mV ((x.getD i 0)/2^(64-(n%64)))) ?_ (hr:=gY (t:=42) (u:=154) (x:=.tmp 44) (y:=.tmp 46) (ky:=.u64) (a:=(x.getD i 0)) (n:=(64-(n%64))) kR kR kR oM _);refine lX 48 (sB j) ((x.length+(n/64))+1:Nat) ((x.length+(n/64))+1:Nat) 1 ((i+(n/64))+1:Nat) ((i+(n/64))+1:Nat) rfl (lW 0 ((l).set (i+(n/64)) (l.getD (i+n/64) 0+x.getD i 0*2^(n%64)%(2^64))) aq 1 ((i+(n/64))+1:Nat) ((x.getD i 0)/2^(64-(n%64)):Nat) e oM (fun _ e=>?_));have zb:(((l).set (i+(n/64)) (l.getD (i+n/64) 0+x.getD i 0*2^(n%64)%(2^64))).set ((i+(n/64))+1:Nat) ((x.getD i 0)/2^(64-(n%64)):Nat)).length=((x.length+(n/64))+1:Nat):=by rw[NI];exact za
 replace e:=e.to [⟨j,42,(((l).set (i+(n/64)) (l.getD (i+n/64) 0+x.getD i 0*2^(n%64)%(2^64))).set ((i+(n/64))+1:Nat) ((x.getD i 0)/2^(64-(n%64)):Nat)).flatMap aq⟩] [];refine lN (kQ (bw 49 ((i:Nat)+1) (i+1) ?_));refine lL e ac (lD ?_);intro a_ X;refine ⟨_,_,?_,⟨i+1,((l).set (i+(n/64)) (l.getD (i+n/64) 0+x.getD i 0*2^(n%64)%(2^64))).set ((i+(n/64))+1:Nat) ((x.getD i 0)/2^(64-(n%64)):Nat),h6,rfl,rfl,e.to _ _,oM,zb,((K.set _ L).set _ (by have:=L2 (x.getD i 0) (2^(64-n%64));omega)),(xP oM hv (hz _ oM) J rfl rfl),(by rw[show i+1+n/64=i+n/64+1 by omega,bF (by rw[NI];omega),if_pos rfl];exact M),(fun k hk=>by rw[bF (by rw[NI];omega),if_neg oM,bF oM,if_neg oM];exact hz k oM)⟩,X.to _ kR⟩
 omega
theorem Kz (A c x)(X:Wd x)(hlx:x.length<=(10^9))(n)(hn:n<=(10^9))(w h)(g:G w h)(hA:SlO 1 aq 0 h A x):CR 191 #[.slice A x.length c,nV n] w h (fun v h1=>DL h1 v (x.length-n/64) (fun z=>aD z=aD x/2^n)):=by
 have e:=((sS g).aS hA);refine go Tryz.func191 [(0,qS A x.length c),(1,nV n)] rfl (aa e ac (aG (lL e ac (lV 10 (nV (n/64)) ?_ (hr:=aK (dU (t:=3) (u:=3) (x:=.tmp 9) (y:=.const (iV 64)) (k:=.i64) (a:=(n:Int)) (b:=(64:Int)) kR kR kR oM _) (dN n 64 oM))))));refine lL e ac (lV 12 (nV (n%64)) ?_ (hr:=aK (fP (t:=3) (u:=3) (x:=.tmp 11) (y:=.const (iV 64)) (k:=.i64) (a:=(n:Int)) (b:=(64:Int)) kR kR kR oM _) (dH n 64)));refine lV 13 (mV (n%64)) ?_ (hr:=rU (((n%64:Nat):Int)) kR (bh oM oM));refine lL e ax (ag (aa e [.c,.c,.v (nV x.length)] ?_));cases C:(decide ((x.length:Int)<=((n/64:Nat):Int)))
 .
  have H:=oF C;refine lB 17 C (ah (cK (aa e [.c,.v (nV x.length),.c] (bw 21 ((x.length:Nat)-(n/64:Nat)) (x.length-(n/64)) ?_))));refine lK 22 42 (x.length-(n/64)) 1 8 (uV 0) aq 0 e (fun B w3 h4 e=>?_);have U:(Af (x.length-(n/64)) 0).length=(x.length-(n/64)):=by simp
  refine lL e ac (ag (aa e [.c,.v (nV (x.length-(n/64))),.c] (aZ ?_)));refine bH _ (CG.loop (fun Y Γ w_=>∃ (i:Nat)(l:List Nat)(Z:Hp),Y=x.length-n/64-i/\Γ=[(0,qS A x.length c),(4,sZ),(5,nV (n/64)),(6,mV (n%64)),(7,qS (sB B) (x.length-(n/64)) (x.length-(n/64))),(24,nV (x.length-(n/64))),(25,nV i)]/\SS w h w_ Z [⟨B,42,(l).flatMap aq⟩] [] [fun Z=>SlO 1 aq 0 Z A x]/\i<=x.length-n/64/\l.length=x.length-n/64/\Wd l/\2^(n%64)*ai (2^64) l+(x.drop (n/64)).getD 0 0%2^(n%64)=ai (2^64) ((x.drop (n/64)).take i)+(2^64)^i*((x.drop (n/64)).getD i 0%2^(n%64))/\(∀ k,i<=k->l.getD k 0=0)) _ ⟨0,Af (x.length-(n/64)) 0,h4,rfl,rfl,e.to _ _,NY _,U,Wd.rep _,(by rw[dQ];simp[ai]),fun k _=>eJ⟩ ?_);rintro _ _ w6 ⟨i,l,h7,hm8,rfl,e,hi,I,S,inv,hz⟩;refine aA ?_;cases D:(decide ((i:Int)<(((x.length-(n/64)):Nat):Int)))
  .
   have J:=oF D;refine lB 26 D (ag (dE (CG.exit ?_)))
   show CG _ _ _ _ _ _ _ _
   refine aa e ax (lN (kX ?_));have hix:i=x.length-n/64:=by omega
   have hE:=DI (W:=x.drop (n/64)) (m:=i) (by rw[Np];omega) inv;rw[oS X oM,Nat.div_div_eq_div_mul,<-Ci n] at hE
   obtain ⟨_,e,K,bb,bd⟩:=e.pub 0;replace e:=(e.to [] []).aS (SlO.of_flat (sz:=1) (f:=aq) (d:=0) (b:=B) (o:=0) (l:=l) (fun _=>rfl) K);exact e.ret [] (qS (sB B) (x.length-(n/64)) (x.length-(n/64))) (⟨sB B,_,l,by rw[I],by omega,by omega,S,hE,e.f.1⟩)
  have J:=oT D;refine lB 26 D (ag (ck (cK (cQ (kZ (aa e ax (aG (lL e m5 (bw 33 ((i:Nat)+(n/64:Nat)) (i+(n/64)) ?_)))))))));refine lX 34 A x.length c 1 (i+(n/64):Nat) (i+(n/64)) ((e.f.1).ok oM) (lH 35 (mV (x.getD (i+(n/64)) 0)) e ((e.f.1).el (i+(n/64)) oM) (lL e ac ?_));have hxi:=X.get (i+n/64);refine lV 37 (mV ((x.getD (i+(n/64)) 0:Nat)/2^(n%64))) ?_ (hr:=gY (t:=42) (u:=154) (x:=.tmp 35) (y:=.tmp 36) (ky:=.u64) (a:=(x.getD (i+(n/64)) 0:Nat)) (n:=(n%64)) kR kR kR oM _);refine lX 38 (sB B) (x.length-(n/64)) (x.length-(n/64)) 1 (i:Nat) i rfl (lW 0 l aq 1 i ((x.getD (i+(n/64)) 0:Nat)/2^(n%64):Nat) e oM (fun _ e=>?_));have zb:((l).set i ((x.getD (i+(n/64)) 0:Nat)/2^(n%64):Nat)).length=(x.length-(n/64)):=by rw[NI];exact I
  replace e:=e.to [⟨B,42,((l).set i ((x.getD (i+(n/64)) 0:Nat)/2^(n%64):Nat)).flatMap aq⟩] [];refine aG (lL e ax (bw 41 ((i:Nat)+(n/64:Nat)) (i+(n/64)) ?_));refine bw 42 ((i+(n/64):Nat)+1) ((i+(n/64))+1) (lL e [.c,.v (nV x.length)] ?_);cases L:(decide ((((i+(n/64))+1:Nat):Int)<(x.length:Int)))
  .
   have zc:=oF L;refine lB 45 L (ah (cK (kQ (bw 62 ((i:Nat)+1) (i+1) ?_))));refine lL e ac (lD ?_);intro a_ O;refine ⟨_,_,?_,⟨i+1,(l).set i ((x.getD (i+(n/64)) 0:Nat)/2^(n%64):Nat),h7,rfl,rfl,e.to _ _,oM,zb,(S.set _ (by have:=L2 (x.getD (i+n/64) 0) (2^(n%64));omega)),(q7 oM inv (hz _ (nR _)) (by rw[bG,bG,show n/64+i=i+n/64 by omega,cB (show x.length<=n/64+(i+1) by omega),Nat.zero_mod,MX,y5];exact Nl _ _)),(oD oM hz)⟩,O.to _ kR⟩
   omega
  have zc:=oT L;refine lB 45 L (ak (cR 15 [] mixed e ao ?_));refine eV 0 46 (qS (sB B) (x.length-(n/64)) (x.length-(n/64))) (eV 1 47 (nV i) (eX 2 48 (sB B) (x.length-(n/64)) (x.length-(n/64)) 1 (i:Nat) i rfl (eQ 3 49 0 ((l).set i ((x.getD (i+(n/64)) 0:Nat)/2^(n%64):Nat)) aq 1 0 i (mV (((l).set i ((x.getD (i+(n/64)) 0:Nat)/2^(n%64):Nat)).getD i 0)) e oM (eV 4 50 (qS A x.length c) (eV 5 51 (nV i) (eV 6 52 (nV (n/64)) (kL 7 53 ((i:Nat)+(n/64:Nat)) (i+(n/64)) (kL 8 54 ((i+(n/64):Nat)+1) ((i+(n/64))+1) (eX 9 55 A x.length c 1 ((i+(n/64))+1:Nat) ((i+(n/64))+1:Nat) ((e.f.1).ok oM) (eH 10 56 (mV (x.getD ((i+(n/64))+1:Nat) 0)) e ((e.f.1).el ((i+(n/64))+1:Nat) oM) (eV 11 57 (mV (n%64)) (eV 12 58 (mV (64-(n%64))) ?_ (hv:=fun _=>rU (((64:Int)-((n%64:Nat):Int))) kR (fX 64 (n%64) oM oM))))))))))))));refine eV 13 59 (mV ((x.getD ((i+(n/64))+1:Nat) 0:Nat)*2^(64-(n%64))%(2^64))) ?_ (hv:=fun _=>iq (t:=42) (u:=154) (x:=.tmp 56) (y:=.tmp 58) (ky:=.u64) (a:=(x.getD ((i+(n/64))+1:Nat) 0:Nat)) (n:=(64-(n%64))) kR kR kR _);obtain ⟨M,V,Q⟩:=sH (x:=x.getD (i+n/64) 0) (y:=x.getD (i+n/64+1) 0) (p:=n%64) oM hxi;have hdv:=L2 (x.getD (i+n/64) 0) (2^(n%64));have F:=bF (l:=l) (k:=i) (j:=i) (x:=x.getD (i+n/64) 0/2^(n%64)) oM;rw[if_pos rfl] at F
  refine eV 14 60 (mV (x.getD (i+n/64) 0/2^(n%64)+x.getD (i+n/64+1) 0*2^(64-n%64)%(2^64))) ?_ (hv:=fun _=>aK (iO (t:=42) (u:=42) (x:=.tmp 49) (y:=.tmp 59) (a:=(((l).set i ((x.getD (i+(n/64)) 0:Nat)/2^(n%64):Nat)).getD i 0:Nat)) (b:=((x.getD ((i+(n/64))+1:Nat) 0:Nat)*2^(64-(n%64))%(2^64):Nat)) kR kR kR oM oM _) (by rw[F,M]));refine bM e (fun _ ze e=>tX 15 61 (sB B) (x.length-(n/64)) (x.length-(n/64)) 1 (i:Nat) i rfl (tW 16 0 ((l).set i ((x.getD (i+(n/64)) 0:Nat)/2^(n%64):Nat)) aq 1 i (x.getD (i+n/64) 0/2^(n%64)+x.getD (i+n/64+1) 0*2^(64-n%64)%(2^64)) e oM (fun _ e=>?_)));have zd:(((l).set i ((x.getD (i+(n/64)) 0:Nat)/2^(n%64):Nat)).set i (x.getD (i+n/64) 0/2^(n%64)+x.getD (i+n/64+1) 0*2^(64-n%64)%(2^64))).length=(x.length-(n/64)):=by rw[NI];exact zb
  replace e:=e.to [⟨B,42,(((l).set i ((x.getD (i+(n/64)) 0:Nat)/2^(n%64):Nat)).set i (x.getD (i+n/64) 0/2^(n%64)+x.getD (i+n/64+1) 0*2^(64-n%64)%(2^64))).flatMap aq⟩] [];refine tN (bH [(0,qS A x.length c),(4,sZ),(5,nV (n/64)),(6,mV (n%64)),(7,qS (sB B) (x.length-(n/64)) (x.length-(n/64))),(24,nV (x.length-(n/64))),(25,nV i)] ?_);refine kQ (bw 62 ((i:Nat)+1) (i+1) ?_);refine lL e ac (lD ?_);intro a_ O;refine ⟨_,_,?_,⟨i+1,((l).set i ((x.getD (i+(n/64)) 0:Nat)/2^(n%64):Nat)).set i (x.getD (i+n/64) 0/2^(n%64)+x.getD (i+n/64+1) 0*2^(64-n%64)%(2^64)),ze,rfl,rfl,e.to _ _,oM,zd,((S.set _ oM).set _ V),(by rw[N3];exact q7 oM inv (hz _ (nR _)) (by rw[bG,bG,show n/64+i=i+n/64 by omega,show n/64+(i+1)=i+n/64+1 by omega];exact Q)),(by rw[N3];exact oD oM hz)⟩,O.to _ kR⟩
  omega
 have H:=oT C;exact lB 17 C (ak (aa e ac (ae e [] (sZ) (⟨none,0,[],rfl,by simp,by simp;omega,Dg.nil,(by show 0=_;exact (MN (EF X oM)).symm),SlO.nil⟩))))
theorem Lj {a b:Nat}(ha:a<(2^64))(d:b<(2^64)):a*b<=340282366920938463426481119284349108225:=by
 have h1:a<=18446744073709551615:=by omega
 have c:b<=18446744073709551615:=by omega
 exact Nat.mul_le_mul h1 c
def w3 (u2 u1 u0:Nat):Nat:=18446744073709551616*(18446744073709551616*u2+u1)+u0
def w2 (v1 v0:Nat):Nat:=18446744073709551616*v1+v0
structure Gss (u2 u1 u0 v1 v0 g r o:Nat):Prop where
  e:g*v1+(r+18446744073709551616*o)=18446744073709551616*u2+u1
  lt:g+1=18446744073709551616\/w3 u2 u1 u0<(g+1)*w2 v1 v0
  gb:g<18446744073709551616
def D6 (u2 u1 u0 v1 v0 g:Nat):Prop:=g*w2 v1 v0<=w3 u2 u1 u0/\(g+1=18446744073709551616\/w3 u2 u1 u0<(g+1)*w2 v1 v0)/\g<18446744073709551616
theorem gv {g a c:Nat}:g*w2 a c=(2^64)*(g*a)+g*c:=by unfold w2;rw[MS,Nat.mul_left_comm]
theorem Gss.fin {d u1 a f c g r o:Nat}(h:Gss d u1 a f c g r o)(i:g*c<=(2^64)*(r+(2^64)*o)+a):D6 d u1 a f c g:=by
 refine ⟨?_,h.lt,h.gb⟩;rw[gv]
 unfold w3;rw[<-h.e,MS];omega
theorem Gss.over {d u1 c e a g r o:Nat}(h:Gss d u1 c e a g r o)(f:0<o)(h0:a<(2^64)):D6 d u1 c e a g:=by
 refine h.fin ?_;have h1:=Lj h.gb h0
 omega
theorem Gss.dec {f u1 c a d g r j o':Nat}(h:Gss f u1 c a d g r 0)(o:(2^64)*r+c<g*d)(e:j+(2^64)*o'=r+a):0<g/\Gss f u1 c a d (g-1) j o':=by
 have l:0<g:=ef o;obtain ⟨p,rfl⟩:∃ p,g=p+1:=⟨g-1,by omega⟩;have i:=h.e;rw[MX,y5] at i
 have h1:w3 f u1 c<(p+1)*w2 a d:=by
  rw[gv];unfold w3;rw[<-i,MS];omega
 have u:(p+1)*a=p*a+a:=by rw[Ni,Nk]
 rw[Nz];exact ⟨l,⟨by omega,Or.inr h1,by have:=h.gb;omega⟩⟩
theorem Eh {c u1 d a f r o:Nat}(h:c=a)(e:r+(2^64)*o=u1+a):Gss c u1 d a f 18446744073709551615 r o:=by
 subst h;exact ⟨by omega,.inl rfl,by decide⟩
theorem Fx {c u1 d a f q r:Nat}(e:c*(2^64)+u1=a*q+r)(hr:r<a)(h0:d<(2^64))(h:q<(2^64)):Gss c u1 d a f q r 0:=by
 rw[MQ c] at e;refine ⟨by rw[MQ q];omega,.inr ?_,h⟩;rw[gv,Ni q 1 a,Nk,MQ q a]
 unfold w3;rw[e];have h1:(2^64)*(a*q+r)+(2^64)<=(2^64)*(a*q+a):=by
  rw[<-Nat.mul_succ];exact M5 _ oM
 have i:0<=(q+1)*f:=NY _
 omega
theorem GV (u u1 j f i)(h0:u<(2^64))(h1:u1<(2^64))(h2:j<(2^64))(h3:f<(2^64))(h4:i<(2^64))(hle:u<=f)(hv:0<f)(w h)(g:G w h):CR 190 #[mV u,mV u1,mV j,mV f,mV i] w h (fun v _=>∃ g:Nat,v=mV g/\D6 u u1 j f i g):=by
 have d:=sS g;refine go Tryz.func190 [(0,mV u),(1,mV u1),(2,mV j),(3,mV f),(4,mV i)] rfl ?_;refine aa d ac (aG (lL d cG (lN (CG.join (fun Γ w_=>∃ (U:Nat)(F:Nat)(I:Nat)(h_:Hp),Γ=[(2,mV j),(3,mV f),(4,mV i),(10,uV 0),(11,mV U),(12,mV F),(13,mV I)]/\SS w h w_ h_ [] [] []/\Gss u u1 j f i U F I/\F<(2^64)/\I<=1) ?_ ?_))))
 .
  refine aa d ax ?_;cases p:((u:Int) == (f:Int))
  .
   have K:=aj p;refine lB 18 p (ah (kQ (lL d cG (lC 29 d (Bd u u1 f oM wM wM _ _ d.g) ?_))));rintro _ w7 h8 d ⟨q2,r3,rfl,he4,hl5,hm6⟩;refine lL d [.c,.v (mV q2),.v (mV r3),.c,.c] (lD ?_);intro Y y;exact ⟨_,⟨q2,r3,0,h8,rfl,d.to _ _,(Fx oM oM h2 oM),oM,oM⟩,y.to _ kR⟩
  have K:=eq_of_beq p;refine lB 18 p (ak (aa d ac (lN (kQ (lL d ax ?_)))));obtain ⟨B,Z,b1,bk,bl,D⟩:=fk u1 f 0 wM wM oM;refine lV 22 (.tuple #[mV B,mV Z]) ?_ (hr:=eL kR (D _));refine lL d [.c,.v (mV B),.v (mV Z),.c,.c] (lD ?_);intro Y y;exact ⟨_,⟨18446744073709551615,B,Z,h,rfl,d.to _ _,(Eh oM oM),oM,oM⟩,y.to _ kR⟩
 rintro _ _ ⟨U,F,I,zo,rfl,d,hG0,X,L⟩;refine cQ (kZ ?_);refine bH _ (CG.loop (fun μ_ Γ w_=>∃ (g:Nat)(r:Nat)(o:Nat)(h_:Hp),μ_=g/\Γ=[(2,mV j),(3,mV f),(4,mV i),(10,uV 0),(11,mV g),(12,mV r),(13,mV o)]/\SS w h w_ h_ [] [] []/\Gss u u1 j f i g r o/\r<(2^64)/\o<=1) _ ⟨U,F,I,zo,rfl,rfl,d.to _ _,hG0,X,L⟩ ?_);rintro _ _ _ ⟨g,r,o,_,bm,rfl,d,e,hr,hov⟩;have hgl:=e.gb;refine cQ (aa d ac ?_);cases O:((o:Int) == (0:Int))
 .
  have zi:=aj O;refine lB 33 O (ah (CG.exit ?_))
  show CG _ _ _ _ _ _ _ _
  exact aa d ax (ae d [] (mV g) (⟨g,rfl,(by first|exact e.over oM h4|(rw[show o=0 by omega] at e;exact e.fin oM))⟩))
 have zi:=eq_of_beq O;refine lB 33 O (ak (cK (kZ (aa d ax (lC 37 d (qg g i wM wM _ _ d.g) ?_)))));rintro _ _ zm d ⟨C,zn,rfl,br,bz,bn,bq⟩;have S:=ko (a:=g) (b:=i) wM wM;refine lL d [.c,.v (mV C),.v (mV zn),.c,.c] (ag (aa d ax ?_));cases Q:(decide ((C:Int)<(r:Int)))
 .
  have zj:=oF Q;refine lB 42 Q (lL d cG ?_);cases V:((C:Int) == (r:Int))
  .
   have zk:=aj V;refine lB 46 V (lL d ac (lG 48 ?_));refine lG 49 (lG 50 (lL d [.v qF,.v qF] (ah (cK (aA ?_)))));have l:(2^64)*r+j<g*i:=by omega
   rw[show o=0 by omega] at e;have hg0:=ef l;have hgb:=e.gb;refine lL d ac (lV 54 (mV (g-1)) ?_ (hr:=rU (((g:Int)-(1:Int))) kR (fX g 1 oM oM)));refine lL d ac (lN (kQ (lL d ax ?_)));obtain ⟨z,W,bj,bd,b2,H⟩:=fk r f 0 wM wM oM;refine lV 58 (.tuple #[mV z,mV W]) ?_ (hr:=eL kR (H _));refine lL d [.c,.v (mV z),.v (mV W),.c,.c] (lD ?_);intro Y y;refine ⟨_,_,?_,⟨g-1,z,W,zm,rfl,rfl,d.to _ _,((e.dec l oM).2),oM,oM⟩,y.to _ kR⟩
   omega
  have zk:=eq_of_beq V;refine lB 46 V (lL d cG ?_);cases M:(decide ((zn:Int)<=(j:Int)))
  .
   have zl:=oF M;refine lB 50 M (lL d [.v qF,.v qF] (ah (cK (aA ?_))));have l:(2^64)*r+j<g*i:=by omega
   rw[show o=0 by omega] at e;have hg0:=ef l;have hgb:=e.gb;refine lL d ac (lV 54 (mV (g-1)) ?_ (hr:=rU (((g:Int)-(1:Int))) kR (fX g 1 oM oM)));refine lL d ac (lN (kQ (lL d ax ?_)));obtain ⟨x,zg,b3,b0,bb,J⟩:=fk r f 0 wM wM oM;refine lV 58 (.tuple #[mV x,mV zg]) ?_ (hr:=eL kR (J _));refine lL d [.c,.v (mV x),.v (mV zg),.c,.c] (lD ?_);intro Y y;refine ⟨_,_,?_,⟨g-1,x,zg,zm,rfl,rfl,d.to _ _,((e.dec l oM).2),oM,oM⟩,y.to _ kR⟩
   omega
  have zl:=oT M;refine lB 50 M (lL d [.v qT,.v qT] (ak (CG.exit ?_)))
  show CG _ _ _ _ _ _ _ _
  exact aa d ax (ae d [] (mV g) (⟨g,rfl,(by first|exact e.over oM h4|(rw[show o=0 by omega] at e;exact e.fin oM))⟩))
 have zj:=oT Q;refine lB 42 Q (lL d ac (lG 44 ?_));refine lG 45 (lG 46 (lG 47 (lG 48 (lG 49 (lG 50 (lG 51 (lL d [.v qT] (ak (CG.exit ?_)))))))))
 show CG _ _ _ _ _ _ _ _
 exact aa d ax (ae d [] (mV g) (⟨g,rfl,(by first|exact e.over oM h4|(rw[show o=0 by omega] at e;exact e.fin oM))⟩))
theorem IX (A c l n)(hn:l.length=n)(d:l.length<=(2^40))(a:l.length<=c)(w h)(g:G w h)(e:SlO 1 aq 0 h A l):CV 161 #[.slice A n c] w h (.slice A (tl l n) c):=by
 subst hn;exact Gn A c l d a w h g e
theorem Kl (rb l c d)(Y:0<d)(hdB:d<(2^64))(U:Wd l)(hl:l.length<=(10^9))(hc:l.length<=c)(w h)(g:G w h)(S:Own w rb 42 (l.flatMap aq))(W:h[rb]?=some bp):Calls Tryz.prog 152 #[.slice (sB rb) l.length c,mV d] w (fl rb w h fun v w' _=>∃ z:List Nat,∃ r:Nat,v=.tuple #[.slice (sB rb) (tl z z.length) c,uV r]/\z.length=l.length/\Wd z/\aD l=d*aD z+r/\r<d/\Own w' rb 42 (z.flatMap aq)):=by
 have e:UpM [rb] w h w h:=UpM.refl g;obtain ⟨wz,hz,a⟩:=SS.at_ g S W;have Z:l.length=l.length:=rfl;refine go Tryz.func152 [(0,qS (sB rb) l.length c),(1,mV d)] rfl (aa a ax (aG (lL a ac (ag (aa a [.c,.v (nV l.length)] (lV 10 (iV ((l.length:Int)-1)) ?_ (hr:=rS (((l.length:Nat)-1)) kR ((g5 oM oM).trans oM))))))));refine lL a ac (aZ ?_);refine bH _ (CG.loop (fun D Γ I=>∃ (m:Nat)(z:List Nat)(r:Nat)(h_:Hp),D=m/\Γ=[(0,qS (sB rb) l.length c),(1,mV d),(4,sZ),(5,uV 0),(7,iV ((m:Int)-1)),(6,mV r)]/\SS wz hz I h_ [⟨rb,42,(z).flatMap aq⟩] [] []/\m<=l.length/\z.length=l.length/\Wd z/\aD l=d*((2^64)^m*ai (2^64) (z.drop m))+((2^64)^m*r+ai (2^64) (z.take m))/\r<d/\UpM [rb] w h I h_) _ ⟨l.length,l,0,h,rfl,rfl,a.to _ _,nR _,rfl,U,(by show ai _ l=_;simp[ai,NR]),Y,e⟩ ?_);rintro _ _ w1 ⟨m,z,r,h2,M,rfl,a,hm,j,F,inv,C,e⟩;refine cQ (aa a ac ?_);cases i:(decide ((0:Int)<=((m:Int)-1:Int)))
 .
  have x:=oF i;refine lB 12 i (ah (CG.exit ?_))
  show CG _ _ _ _ _ _ _ _
  refine aa a ac (Er 29 0 a (fun _ V f_ B=>IX (sB rb) c (z) (l.length) j oM oM _ _ V (SlO.of_flat (sz:=1) (f:=aq) (d:=0) (b:=rb) (o:=0) (l:=z) (fun _=>rfl) B)) ?_);rintro _ w5 h6 u7 a rfl;replace e:=e.trans (u7.m _);refine lL a cG (lN (kX ?_));have y:m=0:=by omega
  rw[y] at inv;exact a.retM e [] (.tuple #[qS (sB rb) (tl (z) l.length) c,mV r]) ⟨z,r,by rw[j],j,F,(by simp only[NZ,Nk,y6,List.take_zero,ai] at inv;exact inv),C,a.own 0⟩
 have x:=oT i;refine lB 12 i (ak (cK (cQ (kZ (kQ (lL a m5 (lX 21 (sB rb) l.length c 1 ((m:Int)-1) (m-1) rfl ?_)))))));have O:=F.get (m-1);refine lQ 22 0 z aq 1 0 (m-1) (mV ((z).getD (m-1) 0)) a oM (lL a ac (lz 24 (Bd r ((z).getD (m-1) 0) d oM wM wM _ _ a.g) ?_));rintro _ _ zb u ⟨p,J,rfl,L,K,H⟩;replace e:=e.trans (u.m _);replace a:=a.step u;refine lL a [.c,.v (mV p),.v (mV J)] (lX 27 (sB rb) l.length c 1 ((m:Int)-1) (m-1) rfl ?_);refine Lc 0 z aq 1 (m-1) p a oM (fun _ pu a=>?_);replace e:=e.put pu (ti.2 rfl) a.g;have X:((z).set (m-1) p).length=l.length:=by rw[NI];exact j
 replace a:=a.to [⟨rb,42,((z).set (m-1) p).flatMap aq⟩] [];refine lL a ac (lN (kQ (lL a ac (lV 14 (iV (((m-1:Nat):Int)-1)) ?_ (hr:=rS ((((m:Int)-1)-1)) kR ((g5 oM oM).trans oM))))));refine lL a ac (lD ?_);intro a_ Q;refine ⟨_,_,?_,⟨m-1,(z).set (m-1) p,J,zb,rfl,rfl,a.to _ _,oM,X,(F.set _ oM),(EY oM (by rw[show m-1+1=m by omega];exact inv) oM),oM,e⟩,Q.to _ kR⟩
 omega
theorem Ib {u:List Nat}{k:Nat}(hk:2<=k):w3 (u.getD k 0) (u.getD (k-1) 0) (u.getD (k-2) 0)=u.getD k 0*(2^64)*(2^64)+u.getD (k-1) 0*(2^64)+u.getD (k-2) 0:=by
 unfold w3;rw[MQ (u.getD k 0) (2^64),MQ ((2^64)*u.getD k 0) (2^64),MQ (u.getD (k-1) 0),MS]
theorem Hc {a c:Nat}:w2 a c=a*(2^64)+c:=by unfold w2;rw[MQ]
section
variable {n j G:Nat}{u v:List Nat}
theorem In (hn:2<=n)(z:v.length=n)(a:Wd v)(f:Wd u)(y:j+n<u.length)(hR:aD u<18446744073709551616^(j+1)*aD v):u.getD (j+n) 0<=v.getD (n-1) 0:=by
 rcases ea (v.getD (n-1) 0) (u.getD (j+n) 0) with h|h
 ·exfalso
  have c:=aN 18446744073709551616 (l:=v) (k:=n-1) oM;rw[show n-1+1=v.length by omega,y8] at c
  have h1:=bQ (Dg.take a (n-1));rw[MV,MW oM] at h1
  have d:=aN 18446744073709551616 (l:=u) (k:=j+n) oM;have e:=bU 18446744073709551616 (l:=u) (k:=j+n+1) oM;have p:18446744073709551616^(j+n)*(v.getD (n-1) 0+1)<=18446744073709551616^(j+n)*u.getD (j+n) 0:=M5 _ h
  have i:18446744073709551616^(j+1)*aD v<18446744073709551616^(j+1)*(18446744073709551616^(n-1)*(v.getD (n-1) 0+1)):=by
   refine Nf ?_ (Nat.pow_pos kD)
   show ai _ v<_
   rw[c,MS,Ng];omega
  rw[<-MT,<-M4,show j+1+(n-1)=j+n by omega] at i
  have o:aD u=ai 18446744073709551616 (u.take (j+n))+18446744073709551616^(j+n)*u.getD (j+n) 0+18446744073709551616^(j+n+1)*ai 18446744073709551616 (u.drop (j+n+1)):=by
   show ai _ u=_
   rw[e,d]
  have x:=NY (18446744073709551616^(j+n+1)*ai 18446744073709551616 (u.drop (j+n+1)))
  omega
 ·exact h
theorem x5 (hn:2<=n)(i:v.length=n)(c:Wd v)(d:Wd u)(h:j+n<u.length)(a:v.getD (n-1) 0≠0)(hR:aD u<(2^64)^(j+1)*aD v)(f:D6 (u.getD (j+n) 0) (u.getD (j+n-1) 0) (u.getD (j+n-2) 0) (v.getD (n-1) 0) (v.getD (n-2) 0) G):
  aD u/((2^64)^j*aD v)<=G/\G<=aD u/((2^64)^j*aD v)+1:=by
 obtain ⟨h1,e,l⟩:=f;rw[Ib oM,Hc] at h1 e
 exact oO kD hn i c d h a hR h1 e l
theorem At (hn:2<=n)(f:v.length=n)(a:Wd v)(d:v.getD (n-1) 0≠0):18446744073709551616^(n-1)<=aD v/\aD v<18446744073709551616^n:=by
 have c:=bQ a;rw[f] at c;refine ⟨?_,c⟩;have e:=aN 18446744073709551616 (l:=v) (k:=n-1) oM;rw[show n-1+1=v.length by omega,y8] at e
 have h:18446744073709551616^(n-1)*1<=18446744073709551616^(n-1)*v.getD (n-1) 0:=M5 _ oM
 show _<=ai _ v
 omega
theorem C6 (hn:2<=n)(d:v.length=n)(a:Wd v)(hR:aD u<(2^64)^(j+1)*aD v):aD u<(2^64)^(j+n+1):=by
 have c:=bQ a;rw[d] at c;have h1:(2^64)^(j+1)*aD v<(2^64)^(j+1)*(2^64)^n:=Nf c (Nat.pow_pos kD);rw[<-M4,show j+1+n=j+n+1 by omega] at h1
 omega
theorem DY {u1:List Nat}(hn:2<=n)(i:v.length=n)(c:Wd v)(h:Wd u)(f:Wd u1)(y:j+n<u.length)(a:v.getD (n-1) 0≠0)(hR:aD u<18446744073709551616^(j+1)*aD v)
  (o:aD u/(18446744073709551616^j*aD v)<=G/\G<=aD u/(18446744073709551616^j*aD v)+1)(d:Above u1 u (j+n+1))(e:aD u1+18446744073709551616^j*(G*aD v)=aD u+18446744073709551616^(j+n+1)*0) :
  aD u1<18446744073709551616^j*aD v/\aD u1+18446744073709551616^j*(G*aD v)=aD u:=by
 obtain ⟨p,x⟩:=At hn i c a;have l:=fI (b:=18446744073709551616) kD d f h (by rw[d.1];omega) (C6 hn i c hR);have:=(gc (b:=18446744073709551616) kD hn p x hR l e (NY 1) o).1 rfl;rw[MX,y5] at e
 exact ⟨this.2.2.1,e⟩
theorem K5 {d a W K T c:Nat}(i:a+T*c=d+W)(o:d+W=K+T)(p:a<T)(j:K<W)(l:W<=T):a=K:=by
 have e:c=1:=by
  rcases Nat.lt_trichotomy c 1 with h|h|h
  ·have:c=0:=by omega
   subst this;omega
  ·exact h
  ·have f:T*2<=T*c:=M5 _ h
   omega
 subst e;omega
theorem Io {u1 d:List Nat}{c:Nat}(hn:2<=n)(D:v.length=n)(i:Wd v)(o:Wd u)(y:Wd u1)(z:Wd d)(Q:j+n<u.length)(h:v.getD (n-1) 0≠0)(hR:aD u<18446744073709551616^(j+1)*aD v)
  (J:aD u/(18446744073709551616^j*aD v)<=G/\G<=aD u/(18446744073709551616^j*aD v)+1)(f:Above u1 u (j+n+1))(a:Above d u (j+n+1))(e:aD u1+18446744073709551616^j*(G*aD v)=aD u+18446744073709551616^(j+n+1)*1)
  (H:aD d+18446744073709551616^(j+n+1)*c=aD u1+18446744073709551616^j*aD v) :
  aD d<18446744073709551616^j*aD v/\aD d+18446744073709551616^j*((G-1)*aD v)=aD u/\0<G:=by
 obtain ⟨M,B⟩:=At hn D i h;have l:=C6 hn D i hR;have I:=fI (b:=18446744073709551616) kD f y o (by rw[f.1];omega) l;have x:=fI (b:=18446744073709551616) kD a z o (by rw[a.1];omega) l;obtain ⟨O,L,C,K⟩:=(gc (b:=18446744073709551616) kD hn M B hR I e oM J).2 rfl
 have p:18446744073709551616^j*aD v<=18446744073709551616^(j+n+1):=by
  have h1:18446744073709551616^j*aD v<=18446744073709551616^j*18446744073709551616^n:=M5 _ (Nat.le_of_lt B);rw[<-M4] at h1
  have F:(18446744073709551616:Nat)^(j+n)<=18446744073709551616^(j+n+1):=M1 kD oM;exact ep h1 F
 have hk:aD d=aD u-18446744073709551616^j*((G-1)*aD v):=K5 H L x C p;exact ⟨by rw[hk];exact C,by rw[hk];exact Nat.sub_add_cancel K,by rw[O];exact N0 _⟩
theorem Ip {u1:List Nat}(hn:2<=n)(i:v.length=n)(c:Wd v)(h:Wd u)(f:Wd u1)(z:j+n<u.length)(a:v.getD (n-1) 0≠0)(hR:aD u<18446744073709551616^(j+1)*aD v)
  (o:aD u/(18446744073709551616^j*aD v)<=G/\G<=aD u/(18446744073709551616^j*aD v)+1)(d:Above u1 u (j+n+1))(e:aD u1+18446744073709551616^j*(G*aD v)=aD u+18446744073709551616^(j+n+1)*1):0<G:=by
 obtain ⟨p,x⟩:=At hn i c a;have l:=fI (b:=18446744073709551616) kD d f h (by rw[d.1];omega) (C6 hn i c hR);obtain ⟨y,_⟩:=(gc (b:=18446744073709551616) kD hn p x hR l e (Nat.le_refl 1) o).2 rfl;rw[y];exact N0 _
theorem Ea (hn:n<=u.length)(h:v.length=n)(a:Wd v)(c:Wd u)(hR:aD u<aD v):aD (u.take n)=aD u:=by
 have d:=bQ a;rw[h] at d
 have j:ai 18446744073709551616 u<18446744073709551616^(n+0):=Nat.lt_trans hR d;have hz:=(i7 18446744073709551616 (l:=u) (k:=n) (m:=0) oM kD c j).2;have e:=bU 18446744073709551616 (l:=u) (k:=n) hn;have f:ai 18446744073709551616 (u.drop n)=0:=iI _ (fun i=>by rw[bG];exact hz _ oM);rw[f,MX,y5] at e
 exact e.symm
end
theorem Bb {q:List Nat}{j Q X V R R':Nat}(d:j<q.length)(h0:q.getD j 0=0)(inv:X=aD q*V+R)(e:R'+(2^64)^j*(Q*V)=R):X=aD (q.set j Q)*V+R':=by
 have a:=cP (2^64) (l:=q) (k:=j) Q d;rw[h0,MX,y5] at a
 have c:aD (q.set j Q)=aD q+(2^64)^j*Q:=a;rw[c,Ni,inv,<-e,MT];omega
theorem Hh {X V R q a b s:Nat}(d:V=b*2^s)(l:X=a*2^s)(inv:X=q*V+R)(hR:R<V):q=a/b/\R/2^s=a%b:=by
 have o:=M0 s;have f:0<V:=by omega
 have i:0<b:=by
  rcases B2 b with h|h
  ·rw[h,zZ] at d;omega
  ·exact h
 have j:a*2^s=V*q+R:=by rw[<-l,inv,MQ]
 obtain ⟨h1,c⟩:=lj (A:=a) (y:=b) (Q:=q) d j hR;have e:a=R/2^s+b*q:=by omega
 constructor
 ·rw[e,Nat.add_mul_div_left _ _ i,MN c,z6]
 ·rw[e,Nat.add_mul_mod_self_left,Am c]
theorem xL {a s:Nat}(d:s<=64)(h:a*2^s<(2^64)):a*2^s+2^s<=(2^64):=by
 have e:=CB d;rw[e] at h ⊢
 have h1:a<2^(64-s):=Nat.lt_of_mul_lt_mul_right h;have c:(a+1)*2^s<=2^(64-s)*2^s:=z7 _ h1;rw[Ni,Nk] at c
 exact c
theorem AC {x y:List Nat}{s:Nat}(i:Wd x)(j:Wd y)(hn:1<=y.length)(a:y.getD (y.length-1) 0≠0)(e:y.length<=x.length):aD x*2^s<18446744073709551616^(x.length-y.length+1)*(aD y*2^s):=by
 have f:=aN 18446744073709551616 (l:=y) (k:=y.length-1) oM;rw[show y.length-1+1=y.length by omega,y8] at f
 have o:18446744073709551616^(y.length-1)*1<=18446744073709551616^(y.length-1)*y.getD (y.length-1) 0:=M5 _ oM;have d:18446744073709551616^(y.length-1)<=aD y:=by show _<=ai _ y;omega
 have c:18446744073709551616^(x.length-y.length+1)*18446744073709551616^(y.length-1)<=18446744073709551616^(x.length-y.length+1)*aD y:=M5 _ d;rw[<-M4,show x.length-y.length+1+(y.length-1)=x.length by omega] at c
 have h:aD x<18446744073709551616^x.length:=bQ i;rw[<-MT];exact ND (er h c) (M0 s)
theorem Hw (A c x m)(d:x.length=m)(f:Wd x)(a:x.length<=(10^9))(n)(hn:n<=(10^9))(w h)(g:G w h)(e:SlO 1 aq 0 h A x):CR 191 #[.slice A m c,nV n] w h (fun v h1=>DL h1 v (x.length-n/64) (fun z=>aD z=aD x/2^n)):=by
 subst d;exact Kz A c x f a n hn w h g e
theorem Hn {y z:List Nat}{s:Nat}(a:s<=64)(x:Wd y)(hz:Wd z)(h:aD z=aD y*2^s)(hn:1<=y.length)(C:y.getD (y.length-1) 0*2^s<18446744073709551616)(o:y.length<=z.length):aD (z.take y.length)=aD y*2^s:=by
 have f:aD z<18446744073709551616^(y.length+0):=by
  rw[h,y5];have j:=aN 18446744073709551616 (l:=y) (k:=y.length-1) oM;rw[show y.length-1+1=y.length by omega,y8] at j
  have h1:=bQ (Dg.take x (y.length-1));rw[MV,MW oM] at h1
  have p:aD y<18446744073709551616^(y.length-1)*(y.getD (y.length-1) 0+1):=by
   show ai _ y<_
   rw[j,MS,Ng];omega
  have B:aD y*2^s<18446744073709551616^(y.length-1)*(y.getD (y.length-1) 0+1)*2^s:=ND p (M0 s)
  have c:18446744073709551616^(y.length-1)*(y.getD (y.length-1) 0+1)*2^s<=18446744073709551616^y.length:=by
   have u:(18446744073709551616:Nat)^y.length=18446744073709551616^(y.length-1)*18446744073709551616:=by rw[<-MP];congr 1;omega
   rw[u,MT];refine M5 _ ?_;rw[Ni,Nk];exact xL a C
  exact er B c
 have d:=(i7 18446744073709551616 (l:=z) (k:=y.length) (m:=0) oM kD hz f).2;have e:=bU 18446744073709551616 (l:=z) (k:=y.length) oM;have c:ai 18446744073709551616 (z.drop y.length)=0:=iI _ (fun i=>by rw[bG];exact d _ oM);rw[c,MX,y5] at e
 rw[<-h];exact e.symm
theorem FM {y v:List Nat}{s:Nat}(i:Wd y)(hv:Wd v)(e:v.length=y.length)(j:aD v=aD y*2^s)(hn:1<=y.length)(p:9223372036854775808<=y.getD (y.length-1) 0*2^s):v.getD (v.length-1) 0≠0:=by
 intro h0;have a:=aN 18446744073709551616 (l:=v) (k:=v.length-1) oM;rw[show v.length-1+1=v.length by omega,y8,h0,MX,y5] at a
 have h1:=bQ (Dg.take hv (v.length-1));rw[MV,MW oM] at h1
 have d:=aN 18446744073709551616 (l:=y) (k:=y.length-1) oM;rw[show y.length-1+1=y.length by omega,y8] at d
 have c:18446744073709551616^(y.length-1)*y.getD (y.length-1) 0<=aD y:=by show _<=ai _ y;omega
 have f:18446744073709551616^(y.length-1)*y.getD (y.length-1) 0*2^s<=aD y*2^s:=z7 _ c;rw[MT] at f
 have h:18446744073709551616^(y.length-1)*1<=18446744073709551616^(y.length-1)*(y.getD (y.length-1) 0*2^s):=M5 _ oM
 have o:aD v<18446744073709551616^(y.length-1):=by
  show ai _ v<_
  rw[a,<-e];exact h1
 omega
theorem Ir (A c x D d y)(hx:Wd x)(hy:Wd y)(hlx:x.length<=(10^9))(hny:2<=y.length)(hxy:y.length<=x.length)(bq:y.getD (y.length-1) 0≠0)(w h)(g:G w h)(hA:SlO 1 aq 0 h A x)(hD:SlO 1 aq 0 h D y):CR 153 #[.slice A x.length c,.slice D y.length d] w h (fun v h1=>∃ Aq cq,∃ q:List Nat,∃ Ar cr,∃ r:List Nat,v=.tuple #[.slice Aq q.length cq,.slice Ar r.length cr]/\q.length<=cq/\r.length<=cr/\Wd q/\Wd r/\aD q=aD x/aD y/\aD r=aD x%aD y/\q.length<=x.length/\r.length<=y.length/\SlO 1 aq 0 h1 Aq q/\SlO 1 aq 0 h1 Ar r):=by
 have e:=(((sS g).aS hA).aS hD);refine go Tryz.func153 [(0,qS A x.length c),(1,qS D y.length d)] rfl (aa e ax (aG (lL e [.c,.v (nV y.length),.c] (aG (lL e ax (bw 25 ((y.length:Nat)-1) (y.length-1) ?_))))));refine lX 26 D y.length d 1 (y.length-1:Nat) (y.length-1) ((e.f.1).ok oM) (lH 27 (mV (y.getD (y.length-1) 0)) e ((e.f.1).el (y.length-1) oM) ?_);have hyt:=hy.get (y.length-1);refine ar 28 e (Gt (y.getD (y.length-1) 0) wM _ _ e.g) (fun w1 h2 e=>lL e ac (aG (lL e ax (lC 31 e (Bt D d y hy oM (64-nb (y.getD (y.length-1) 0)) oM _ _ e.g e.f.1) ?_))));rintro _ w3 h4 e ⟨V,vc,zv,rfl,hvc,ds,hWv,hVv,hFv⟩;replace e:=e.aS hFv;refine lL e ac (lT 33 V zv.length vc 1 (y.length:Nat) y.length ?_);obtain ⟨p,hvl_⟩:∃ p,p=zv.take y.length:=⟨_,rfl⟩;have bk:p.length=y.length:=by rw[hvl_,MV];omega
 have C:Wd p:=by rw[hvl_];exact Dg.take hWv _
 have c8:=(cI (n:=y.getD (y.length-1) 0) oM).2.2;have bb:=uP (y:=y.getD (y.length-1) 0) oM (hy.get _);have Y:aD p=aD y*2^(64-nb (y.getD (y.length-1) 0)):=by rw[hvl_];exact Hn oM hy hWv hVv oM bb.2 oM
 have M:p.getD (p.length-1) 0≠0:=FM hy C bk Y oM bb.1;replace e:=e.aS ((e.f.1).take y.length);rw[<-hvl_] at e
 refine lL e ac (aG (lL e [.c,.v (nV x.length)] (bw 36 ((x.length:Nat)+1) (x.length+1) ?_)));refine lK 37 42 (x.length+1) 1 8 (uV 0) aq 0 e (fun u w6 h7 e=>?_);have hl8:(Af (x.length+1) 0).length=(x.length+1):=by simp
 refine lL e ac (aG (lL e cG (lC 41 e (Bt A c x hx hlx (64-nb (y.getD (y.length-1) 0)) oM _ _ e.g e.f.r.2.1) ?_)));rintro _ w9 _ e ⟨Uo,uc,zu,rfl,huc,c3,b0,hVu,hFu⟩;replace e:=e.aS hFu;have b4:zu.length=x.length+1:=by omega
 refine MJ 42 0 (.tmp 38) (.tmp 41) 181 42 aq 0 Uo zu (x.length+1) zu.length uc (x.length+1) e e.f.1 rfl oM oM (by show ((Af (x.length+1) 0).flatMap aq).length=_;rw[cn (sz:=1) (fun _=>rfl)];simp) (fun _ e=>?_);replace e:=e.to [⟨u,42,(zu).flatMap aq⟩] [];refine aG (lL e [.c,.v (nV x.length),.c] (bw 46 ((x.length:Nat)-(y.length:Nat)) (x.length-y.length) ?_));refine bw 47 ((x.length-y.length:Nat)+1) ((x.length-y.length)+1) (lK 48 42 ((x.length-y.length)+1) 1 8 (uV 0) aq 0 e (fun O _ zD e=>?_));have zt:(Af ((x.length-y.length)+1) 0).length=((x.length-y.length)+1):=by simp
 refine lL e ac (ag (aa e [.c,.v (nV x.length),.c] (lV 52 (iV (((x.length-y.length+1:Nat):Int)-1)) ?_ (hr:=rS (((x.length:Nat)-(y.length:Nat))) kR ((g5 oM oM).trans oM)))));refine lL e ac (lN (bH [(4,qS (sB O) ((x.length-y.length)+1) ((x.length-y.length)+1)),(5,sZ),(6,nV y.length),(7,nV (64-nb (y.getD (y.length-1) 0))),(8,qS V y.length vc),(9,qS (sB u) (x.length+1) (x.length+1)),(10,iV (((x.length-y.length+1:Nat):Int)-1))] ?_));refine kZ ?_;refine bH _ (CG.loop (fun μ_ Γ w_=>∃ (m:Nat)(H:List Nat)(K:List Nat)(B:Hp),μ_=m/\Γ=[(4,qS (sB O) ((x.length-y.length)+1) ((x.length-y.length)+1)),(5,sZ),(6,nV y.length),(7,nV (64-nb (y.getD (y.length-1) 0))),(8,qS V y.length vc),(9,qS (sB u) (x.length+1) (x.length+1)),(10,iV ((m:Int)-1))]/\SS w h w_ B [⟨O,42,(K).flatMap aq⟩,⟨u,42,(H).flatMap aq⟩] [] [fun B=>SlO 1 aq 0 B Uo zu,fun B=>SlO 1 aq 0 B V p,fun B=>SlO 1 aq 0 B V zv,fun B=>SlO 1 aq 0 B D y,fun B=>SlO 1 aq 0 B A x]/\m<=x.length-y.length+1/\H.length=x.length+1/\Wd H/\K.length=x.length-y.length+1/\Wd K/\aD H<(2^64)^m*aD p/\aD zu=aD K*aD p+aD H/\(∀ k,k<m->K.getD k 0=0)) _ ⟨x.length-y.length+1,zu,Af ((x.length-y.length)+1) 0,zD,rfl,rfl,e.to _ _,nR _,b4,b0,zt,Wd.rep _,(by rw[hVu,Y];exact AC hx hy oM bq oM),(by show _=ai _ _*_+_;rw[dQ,zZ,z6]),fun k _=>eJ⟩ ?_);rintro _ _ _ ⟨m,H,K,_,cx,rfl,e,hm,hul,J,hql,hWq,hR,inv,hq0⟩;refine cQ (aa e ac ?_);cases zd:(decide ((0:Int)<=((m:Int)-1:Int)))
 .
  have zl:=oF zd;refine lB 54 zd (ah (CG.exit ?_))
  show CG _ _ _ _ _ _ _ _
  refine aA ?_;have hm0:m=0:=by omega
  obtain ⟨_,e,br,cz,dc⟩:=e.pub 0;replace e:=(e.to [⟨u,42,(H).flatMap aq⟩] []).aS (SlO.of_flat (sz:=1) (f:=aq) (d:=0) (b:=O) (o:=0) (l:=K) (fun _=>rfl) br);obtain ⟨_,e,b3,dn,cm⟩:=e.pub 0;replace e:=(e.to [] []).aS (SlO.of_flat (sz:=1) (f:=aq) (d:=0) (b:=u) (o:=0) (l:=H) (fun _=>rfl) b3);refine lL e cG (lT 190 (sB u) (x.length+1) (x.length+1) 1 (y.length:Nat) y.length ?_);refine lL e ac (lC 192 e (Hw (sB u) (x.length+1) (H.take y.length) y.length (by rw[MV];omega) (Dg.take J _) (by rw[MV];omega) (64-nb (y.getD (y.length-1) 0)) oM _ _ e.g ((e.f.1).take y.length)) ?_);rintro _ _ _ e ⟨Ar,cr,zr,rfl,hcr,hlr,hWr,hVr,hFr⟩;replace e:=e.aS hFr;refine lL e ax (lN (kX ?_));rw[hm0,NZ,Nk] at hR
  obtain ⟨hQ,hRm⟩:=Hh Y hVu inv hR;rw[Ea (v:=p) oM oM C J hR] at hVr
  exact e.ret [] (.tuple #[qS (sB O) ((x.length-y.length)+1) ((x.length-y.length)+1),qS Ar zr.length cr]) (⟨_,_,K,Ar,cr,zr,by rw[hql],by omega,hcr,hWq,hWr,hQ,hVr.trans hRm,by omega,(by have:=List.length_take_le y.length H;omega),e.f.r.1,e.f.1⟩)
 have zl:=oT zd;refine lB 54 zd (ak (cK (cQ (kZ (cQ (cR 31 [] mixed e ao ?_))))));have hm1:0<m:=by omega
 have X:2<=p.length:=by omega
 have hjn:m-1+p.length<H.length:=by omega
 have Z:aD H<(2^64)^(m-1+1)*aD p:=by rw[show m-1+1=m by omega];exact hR
 have hle:=In (n:=p.length) (j:=m-1) X rfl C J hjn Z;refine eV 0 57 (qS (sB u) (x.length+1) (x.length+1)) (eV 1 58 (iV ((m:Int)-1)) (eV 2 59 (nV y.length) (kL 3 60 (((m:Int)-1)+(y.length:Nat)) (m-1+p.length) (eX 4 61 (sB u) (x.length+1) (x.length+1) 1 (m-1+p.length:Nat) (m-1+p.length) rfl (eQ 5 62 1 H aq 1 0 (m-1+p.length) (mV ((H).getD (m-1+p.length) 0)) e oM (eV 6 63 (qS (sB u) (x.length+1) (x.length+1)) (eV 7 64 (iV ((m:Int)-1)) (eV 8 65 (nV y.length) (kL 9 66 (((m:Int)-1)+(y.length:Nat)) (m-1+p.length) (kL 10 67 ((m-1+p.length:Nat)-1) (m-1+p.length-1) (eX 11 68 (sB u) (x.length+1) (x.length+1) 1 (m-1+p.length-1:Nat) (m-1+p.length-1) rfl (eQ 12 69 1 H aq 1 0 (m-1+p.length-1) (mV ((H).getD (m-1+p.length-1) 0)) e oM (eV 13 70 (qS (sB u) (x.length+1) (x.length+1)) (eV 14 71 (iV ((m:Int)-1)) (eV 15 72 (nV y.length) (kL 16 73 (((m:Int)-1)+(y.length:Nat)) (m-1+p.length) (kL 17 74 ((m-1+p.length:Nat)-2) (m-1+p.length-2) (eX 18 75 (sB u) (x.length+1) (x.length+1) 1 (m-1+p.length-2:Nat) (m-1+p.length-2) rfl (eQ 19 76 1 H aq 1 0 (m-1+p.length-2) (mV ((H).getD (m-1+p.length-2) 0)) e oM (eV 20 77 (qS V y.length vc) (eV 21 78 (nV y.length) (kL 22 79 ((y.length:Nat)-1) (p.length-1) (eX 23 80 V y.length vc 1 (p.length-1:Nat) (p.length-1) ((e.f.2.1).ok oM) (eH 24 81 (mV (p.getD (p.length-1) 0)) e ((e.f.2.1).el (p.length-1) oM) (eV 25 82 (qS V y.length vc) (eV 26 83 (nV y.length) (kL 27 84 ((y.length:Nat)-2) (p.length-2) (eX 28 85 V y.length vc 1 (p.length-2:Nat) (p.length-2) ((e.f.2.1).ok oM) (eH 29 86 (mV (p.getD (p.length-2) 0)) e ((e.f.2.1).el (p.length-2) oM) (eC 30 87 e (fun _ _ e=>GV (((H).getD (m-1+p.length) 0)) (((H).getD (m-1+p.length-1) 0)) (((H).getD (m-1+p.length-2) 0)) ((p.getD (p.length-1) 0)) ((p.getD (p.length-2) 0)) (J.get _) (J.get _) (J.get _) (C.get _) (C.get _) hle oM _ _ e.g) ?_))))))))))))))))))))))))))))));rintro _ _ _ _ _ e ⟨g,rfl,hG0⟩;have hG:=x5 (n:=p.length) (j:=m-1) X rfl C J hjn M Z hG0;have hgb:=hG0.2.2;refine bM e (fun _ zE e=>tV 31 11 (mV g) (tN (bH [(4,qS (sB O) ((x.length-y.length)+1) ((x.length-y.length)+1)),(5,sZ),(6,nV y.length),(7,nV (64-nb (y.getD (y.length-1) 0))),(8,qS V y.length vc),(9,qS (sB u) (x.length+1) (x.length+1)),(10,iV ((m:Int)-1)),(11,mV g)] ?_)));refine aa e ax (ag (aa e ax (aZ ?_)));refine bH _ (CG.loop (fun μ_ Γ w_=>∃ (i:Nat)(u1:List Nat)(cy:Nat)(bo:Nat)(B:Hp),μ_=y.length-i/\Γ=[(4,qS (sB O) ((x.length-y.length)+1) ((x.length-y.length)+1)),(5,sZ),(6,nV y.length),(7,nV (64-nb (y.getD (y.length-1) 0))),(8,qS V y.length vc),(9,qS (sB u) (x.length+1) (x.length+1)),(10,iV ((m:Int)-1)),(11,mV g),(88,nV y.length),(89,nV i),(12,mV cy),(13,mV bo)]/\SS w h w_ B [⟨O,42,(K).flatMap aq⟩,⟨u,42,(u1).flatMap aq⟩] [] [fun B=>SlO 1 aq 0 B Uo zu,fun B=>SlO 1 aq 0 B V p,fun B=>SlO 1 aq 0 B V zv,fun B=>SlO 1 aq 0 B D y,fun B=>SlO 1 aq 0 B A x]/\i<=y.length/\u1.length=x.length+1/\Wd u1/\cy<(2^64)/\bo<=1/\ai (2^64) u1+(2^64)^(m-1)*(g*ai (2^64) (p.take i))=aD H+(2^64)^(m-1+i)*(cy+bo)/\Above u1 H (m-1+p.length+1)) _ ⟨0,H,0,0,zE,rfl,rfl,e.to _ _,NY _,hul,J,oM,oM,(by show ai _ H+_=ai _ H+_;simp[ai]),Above.refl _ _⟩ ?_);rintro _ _ _ ⟨i,u1,cy,bo,zq,c5,rfl,e,hi,hu1,hW1,hcy,hbo,W,bj⟩;have cw:=hW1.get (m-1+i);have hvk:=C.get i;refine aA ?_;cases ze:(decide ((i:Int)<(y.length:Int)))
 .
  have zm:=oF ze;refine lB 90 ze (ag (dE (CG.exit ?_)))
  show CG _ _ _ _ _ _ _ _
  refine aA ?_;rw[show i=p.length by omega] at W
  have dw:=hW1.get (m-1+p.length);refine lL e cG (bw 132 (((m:Int)-1)+(y.length:Nat)) (m-1+p.length) ?_);refine lL e cG (bw 136 (((m:Int)-1)+(y.length:Nat)) (m-1+p.length) ?_);refine lX 137 (sB u) (x.length+1) (x.length+1) 1 (m-1+p.length:Nat) (m-1+p.length) rfl (lQ 138 1 u1 aq 1 0 (m-1+p.length) (mV ((u1).getD (m-1+p.length) 0)) e oM (lL e ax ?_));obtain ⟨I,zc,c6,dm,c4,b2⟩:=jz ((u1).getD (m-1+p.length) 0) cy bo wM wM oM;refine lV 141 (.tuple #[mV I,mV zc]) ?_ (hr:=eL kR (b2 _));refine lL e [.c,.v (mV I),.v (mV zc)] (lX 144 (sB u) (x.length+1) (x.length+1) 1 (m-1+p.length:Nat) (m-1+p.length) rfl ?_);refine lW 1 u1 aq 1 (m-1+p.length) I e oM (fun _ e=>?_);have zk:((u1).set (m-1+p.length) I).length=(x.length+1):=by rw[NI];exact hu1
  replace e:=e.to [⟨O,42,(K).flatMap aq⟩,⟨u,42,((u1).set (m-1+p.length) I).flatMap aq⟩] [];refine lL e ac (ag (aA ?_));have hE:=AF oM W (s:=I) (bo':=zc) oM;have hW4:Wd ((u1).set (m-1+p.length) I):=hW1.set _ oM;have S:=bj.set (x:=I) (show m-1+p.length<m-1+p.length+1 by omega) oM;refine lL e ac ?_;cases zf:((zc:Int) != (0:Int))
  .
   have zn:=aU zf;refine lB 146 zf (ah (cK (kQ ?_)));have hD_:=DY X rfl C J hW4 hjn M Z hG S (by rw[show zc=0 by omega] at hE;exact hE);have hDw:=hW4;have hDg:=hgb;have hDu:=hD_.1;have hDe:=hD_.2;refine lL e cG (lX 186 (sB O) ((x.length-y.length)+1) ((x.length-y.length)+1) 1 ((m:Int)-1) (m-1) rfl ?_);refine lW 0 K aq 1 (m-1) g e oM (fun _ e=>?_);have zw:((K).set (m-1) g).length=((x.length-y.length)+1):=by rw[NI];exact hql
   replace e:=e.to [⟨O,42,((K).set (m-1) g).flatMap aq⟩,⟨u,42,((u1).set (m-1+p.length) I).flatMap aq⟩] [];refine lN (kQ (lL e ac (lV 56 (iV (((m-1:Nat):Int)-1)) ?_ (hr:=rS ((((m:Int)-1)-1)) kR ((g5 oM oM).trans oM)))));refine lL e ac (lD ?_);intro a_ ka;refine ⟨_,_,?_,⟨m-1,(u1).set (m-1+p.length) I,(K).set (m-1) g,zq,rfl,rfl,e.to _ _,oM,zk,hDw,zw,(hWq.set _ hDg),hDu,(Bb oM (hq0 _ oM) inv hDe),(fun k hk=>by rw[bF oM,if_neg oM];exact hq0 k oM)⟩,ka.to _ kR⟩
   omega
  have zn:=aJ zf;refine lB 146 zf (ak (aa e ac ?_));have hE1:=hE;rw[show zc=1 by omega] at hE1
  have hgp:=Ip X rfl C J hW4 hjn M Z hG S hE1;refine lV 148 (mV (g-1)) ?_ (hr:=rU (((g:Int)-(1:Int))) kR (fX g 1 oM oM));refine lL e ac (aG (lL e ac (ag (aa e ax (aZ ?_)))));refine bH _ (CG.loop (fun μ_ Γ w_=>∃ (z:Nat)(F:List Nat)(c2:Nat)(B:Hp),μ_=y.length-z/\Γ=[(4,qS (sB O) ((x.length-y.length)+1) ((x.length-y.length)+1)),(5,sZ),(6,nV y.length),(7,nV (64-nb (y.getD (y.length-1) 0))),(8,qS V y.length vc),(9,qS (sB u) (x.length+1) (x.length+1)),(10,iV ((m:Int)-1)),(11,mV (g-1)),(149,nV y.length),(150,nV z),(19,mV c2)]/\SS w h w_ B [⟨O,42,(K).flatMap aq⟩,⟨u,42,(F).flatMap aq⟩] [] [fun B=>SlO 1 aq 0 B Uo zu,fun B=>SlO 1 aq 0 B V p,fun B=>SlO 1 aq 0 B V zv,fun B=>SlO 1 aq 0 B D y,fun B=>SlO 1 aq 0 B A x]/\z<=y.length/\F.length=x.length+1/\Wd F/\c2<=1/\ai (2^64) F+(2^64)^(m-1+z)*c2=ai (2^64) ((u1).set (m-1+p.length) I)+(2^64)^(m-1)*ai (2^64) (p.take z)/\Above F H (m-1+p.length+1)) _ ⟨0,(u1).set (m-1+p.length) I,0,zq,rfl,rfl,e.to _ _,NY _,zk,hW4,oM,(by simp[ai]),S⟩ ?_);rintro _ _ _ ⟨z,F,c2,zG,c9,rfl,e,hi2,hu2,hW2,hc2,qf,bd⟩;have b1:=hW2.get (m-1+z);have dy:=C.get z;refine aA ?_;cases zg:(decide ((z:Int)<(y.length:Int)))
  .
   have zo:=oF zg;refine lB 151 zg (ag (dE (CG.exit ?_)))
   show CG _ _ _ _ _ _ _ _
   refine kQ (lL e cG (bw 177 (((m:Int)-1)+(y.length:Nat)) (m-1+p.length) ?_));refine lX 178 (sB u) (x.length+1) (x.length+1) 1 (m-1+p.length:Nat) (m-1+p.length) rfl (lQ 179 1 F aq 1 0 (m-1+p.length) (mV ((F).getD (m-1+p.length) 0)) e oM (lL e ac (lV 181 (mV ((((F).getD (m-1+p.length) 0)+c2)%(2^64))) ?_ (hr:=rU (((((F).getD (m-1+p.length) 0:Nat):Int)+(c2:Int))) kR (Bm ((F).getD (m-1+p.length) 0) c2)))));refine lX 182 (sB u) (x.length+1) (x.length+1) 1 (m-1+p.length:Nat) (m-1+p.length) rfl (lW 1 F aq 1 (m-1+p.length) ((((F).getD (m-1+p.length) 0)+c2)%(2^64):Nat) e oM (fun _ e=>?_));have zx:((F).set (m-1+p.length) ((((F).getD (m-1+p.length) 0)+c2)%(2^64):Nat)).length=(x.length+1):=by rw[NI];exact hu2
   replace e:=e.to [⟨O,42,(K).flatMap aq⟩,⟨u,42,((F).set (m-1+p.length) ((((F).getD (m-1+p.length) 0)+c2)%(2^64):Nat)).flatMap aq⟩] [];refine lN (kQ ?_);have bz:z=p.length:=by omega
   rw[bz] at qf;have b1:=hW2.get (m-1+p.length);have hE3:=Cm (s:=(F.getD (m-1+p.length) 0+c2)%(2^64)) (c':=(F.getD (m-1+p.length) 0+c2)/(2^64)) oM qf (Nat.mod_add_div _ _);have hDw:Wd ((F).set (m-1+p.length) ((((F).getD (m-1+p.length) 0)+c2)%(2^64):Nat)):=hW2.set _ (As _ kD);obtain ⟨hDu,hDe,hDp⟩:=Io X rfl C J hW4 hDw hjn M Z hG S (bd.set oM oM) hE1 hE3;have hDg:g-1<(2^64):=by omega
   refine lL e cG (lX 186 (sB O) ((x.length-y.length)+1) ((x.length-y.length)+1) 1 ((m:Int)-1) (m-1) rfl ?_);refine lW 0 K aq 1 (m-1) (g-1) e oM (fun _ e=>?_);have zA:((K).set (m-1) (g-1)).length=((x.length-y.length)+1):=by rw[NI];exact hql
   replace e:=e.to [⟨O,42,((K).set (m-1) (g-1)).flatMap aq⟩,⟨u,42,((F).set (m-1+p.length) ((((F).getD (m-1+p.length) 0)+c2)%(2^64):Nat)).flatMap aq⟩] [];refine lN (kQ (lL e ac (lV 56 (iV (((m-1:Nat):Int)-1)) ?_ (hr:=rS ((((m:Int)-1)-1)) kR ((g5 oM oM).trans oM)))));refine lL e ac (lD ?_);intro a_ ka;refine ⟨_,_,?_,⟨m-1,(F).set (m-1+p.length) ((((F).getD (m-1+p.length) 0)+c2)%(2^64):Nat),(K).set (m-1) (g-1),zG,rfl,rfl,e.to _ _,oM,zx,hDw,zA,(hWq.set _ hDg),hDu,(Bb oM (hq0 _ oM) inv hDe),(fun k hk=>by rw[bF oM,if_neg oM];exact hq0 k oM)⟩,ka.to _ kR⟩
   omega
  have zo:=oT zg;refine lB 151 zg (ag (ck (cK (cQ (kZ (aa e ax (lN (cR 19 [] mixed e ao ?_))))))));refine eV 0 154 (qS (sB u) (x.length+1) (x.length+1)) (eV 1 155 (iV ((m:Int)-1)) (eV 2 156 (nV z) (kL 3 157 (((m:Int)-1)+(z:Nat)) (m-1+z) (eV 4 158 (qS (sB u) (x.length+1) (x.length+1)) (eV 5 159 (iV ((m:Int)-1)) (eV 6 160 (nV z) (kL 7 161 (((m:Int)-1)+(z:Nat)) (m-1+z) (eX 8 162 (sB u) (x.length+1) (x.length+1) 1 (m-1+z:Nat) (m-1+z) rfl (eQ 9 163 1 F aq 1 0 (m-1+z) (mV ((F).getD (m-1+z) 0)) e oM (eV 10 164 (qS V y.length vc) (eV 11 165 (nV z) (eX 12 166 V y.length vc 1 (z:Nat) z ((e.f.2.1).ok oM) (eH 13 167 (mV (p.getD z 0)) e ((e.f.2.1).el z oM) (eV 14 168 (mV c2) ?_))))))))))))));obtain ⟨Q,zj,dz,cp,dv,bn⟩:=fk ((F).getD (m-1+z) 0) (p.getD z 0) c2 wM wM oM;refine eV 15 169 (.tuple #[mV Q,mV zj]) ?_ (hv:=fun _=>eL kR (bn _));refine eV 16 153 (.tuple #[mV Q,mV zj]) (eV 17 170 (mV Q) (eV 18 171 (mV zj) (bM e (fun _ zH e=>tX 19 172 (sB u) (x.length+1) (x.length+1) 1 (m-1+z:Nat) (m-1+z) rfl (tW 20 1 F aq 1 (m-1+z) Q e oM (fun _ e=>?_))))));have zB:((F).set (m-1+z) Q).length=(x.length+1):=by rw[NI];exact hu2
  replace e:=e.to [⟨O,42,(K).flatMap aq⟩,⟨u,42,((F).set (m-1+z) Q).flatMap aq⟩] [];refine tV 21 19 (mV zj) (tN (kQ (bw 173 ((z:Nat)+1) (z+1) ?_)));refine lL e ac (lD ?_);intro a_ ka;refine ⟨_,_,?_,⟨z+1,(F).set (m-1+z) Q,zj,zH,rfl,rfl,e.to _ _,oM,zB,(hW2.set _ oM),oM,(uS oM qf oM),(bd.set oM oM)⟩,ka.to _ kR⟩
  omega
 have zm:=oT ze;refine lB 90 ze (ag (ck (cK (cQ (kZ (aa e ax (aG (lL e cG (lX 96 V y.length vc 1 (i:Nat) i ((e.f.2.1).ok oM) ?_)))))))));refine lH 97 (mV (p.getD i 0)) e ((e.f.2.1).el i oM) (lC 98 e (qg g (p.getD i 0) wM wM _ _ e.g) ?_);rintro _ _ zI e ⟨U,zs,rfl,c7,df,dx,dp⟩;have b6:=ko (a:=g) (b:=(p.getD i 0)) wM wM;refine lL e [.c,.v (mV U),.v (mV zs),.c,.c] (aG (lL e ax ?_));obtain ⟨s99,zb,cj,cd,b9,bm⟩:=fk zs cy 0 wM wM oM;refine lV 104 (.tuple #[mV s99,mV zb]) ?_ (hr:=eL kR (bm _));refine lL e [.c,.v (mV s99),.v (mV zb),.c,.c] (aG (lL e ax (lV 109 (mV (U+zb)) ?_ (hr:=rU (((U:Int)+(zb:Int))) kR (fb U zb oM)))));refine lL e ac (lN (kQ (lL e cG (bw 114 (((m:Int)-1)+(i:Nat)) (m-1+i) ?_))));refine lL e cG (bw 118 (((m:Int)-1)+(i:Nat)) (m-1+i) ?_);refine lX 119 (sB u) (x.length+1) (x.length+1) 1 (m-1+i:Nat) (m-1+i) rfl (lQ 120 1 u1 aq 1 0 (m-1+i) (mV ((u1).getD (m-1+i) 0)) e oM (lL e ax ?_));obtain ⟨L,zi,cf,ch,b7,bl⟩:=jz ((u1).getD (m-1+i) 0) s99 bo wM wM oM;refine lV 123 (.tuple #[mV L,mV zi]) ?_ (hr:=eL kR (bl _));refine lL e [.c,.v (mV L),.v (mV zi)] (lX 126 (sB u) (x.length+1) (x.length+1) 1 (m-1+i:Nat) (m-1+i) rfl ?_);refine lW 1 u1 aq 1 (m-1+i) L e oM (fun _ e=>?_);have zp:((u1).set (m-1+i) L).length=(x.length+1):=by rw[NI];exact hu1
 replace e:=e.to [⟨O,42,(K).flatMap aq⟩,⟨u,42,((u1).set (m-1+i) L).flatMap aq⟩] [];refine lL e ac (lN (bH [(4,qS (sB O) ((x.length-y.length)+1) ((x.length-y.length)+1)),(5,sZ),(6,nV y.length),(7,nV (64-nb (y.getD (y.length-1) 0))),(8,qS V y.length vc),(9,qS (sB u) (x.length+1) (x.length+1)),(10,iV ((m:Int)-1)),(11,mV g),(88,nV y.length),(89,nV i),(12,mV (U+zb)),(13,mV zi)] ?_));refine kQ (bw 127 ((i:Nat)+1) (i+1) ?_);refine lL e ac (lD ?_);intro a_ ka;refine ⟨_,_,?_,⟨i+1,(u1).set (m-1+i) L,(U+zb),zi,zI,rfl,rfl,e.to _ _,oM,zp,(hW1.set _ oM),oM,oM,(vZ (t:=s99) oM W oM oM),(bj.set oM oM)⟩,ka.to _ kR⟩
 omega
theorem dM (A c l m x)(d:l.length=m)(e:Wd l)(hv:aD l=x)(f:l.length<=(2^40))(a:l.length<=c)(w h)(g:G w h)(i:SlO 1 aq 0 h A l):CV 107 #[.slice A m c] w h (nv x):=by
 subst d hv;exact Gg A c l e f a w h g i
theorem JY (a b)(J:(wds a).length<=(10^9))(L:(wds b).length<=(10^9))(has:a<(2^64))(u:b<(2^64))(w h)(g:G w h):CV 147 #[nv a,nv b] w h (nv (a+b)):=by
 have e:=sS g;have I:=Am has;have K:=Am u;refine go Tryz.func147 [(0,nv a),(1,nv b)] rfl (aA (lA 2 44 (nc a) e (fun D w2 Q e=>lA 3 44 (nc b) e (fun y S O e=>lA 4 44 ([uV 0,eS]) e (fun U V M e=>ag (aa e [.v (qP D 1),.o (.string (hi a)) 2 1 1] (lV 14 qT ?_ (hr:=rb kR (kp (fx has))))))))));refine lL e [.c,.v (qP y 1),.o (.string (hi b)) 1 1 1] (lV 18 qT ?_ (hr:=rb kR (kp (fx u))));refine lL e [.v qT] (ak (aa e [.v (pB D),.o (mV (a%(2^64))) 2 0 1,.v (pB y),.o (mV (b%(2^64))) 1 0 1] ?_));obtain ⟨i,j,z,B,C,p⟩:=fk (a%(2^64)) (b%(2^64)) 0 wM wM oM;refine lV 25 (.tuple #[mV i,mV j]) ?_ (hr:=eL kR (p _));refine lL e [.c,.v (mV i),.v (mV j),.c,.c] (ag (aa e ac ?_));cases x:((j:Int) == (0:Int))
 .
  have F:=aj x;refine lB 29 x (ah (cK (aa e ax (lR 34 42 2 ([mV i,mV j]) e (fun H _ _ e=>?_)))));replace e:=e.aS (SlO.of_flat (sz:=1) (f:=aq) (d:=0) (l:=[i,j]) (fun _=>rfl) e.f.1);exact ar 35 e (dM (sB H) 2 ([i,j]) 2 ((a+b)) (by first|rfl|assumption|(simp;done)|(simp;omega)|omega) (Dg.cons oM (Dg.one oM)) (by show i+(2^64)*(j+(2^64)*0)=a+b;omega) sM sM _ _ e.g e.f.1) (fun _ _ e=>lP 0 0 (nc (a+b)) e (fun _ e=>ae e [(0,0,2)] (nv (a+b)) rfl))
 have F:=eq_of_beq x;exact lB 29 x (ak (aa e [.c,.v (.agg #[mV i,eS])] (lP 0 0 ([mV i,eS]) e (fun _ e=>ae e [(0,0,2)] (.agg #[mV i,eS]) (by rw[show i=a+b by omega];exact jU oM)))))
theorem Kf (a b)(hla:(wds a).length<=(10^9))(hlb:(wds b).length<=(10^9))(has:(2^64)<=a)(hb0:0<b)(hle:(wds b).length<=(wds a).length)(w h)(g:G w h):CV 147 #[nv a,nv b] w h (nv (a+b)):=by
 have e:=sS g;refine go Tryz.func147 [(0,nv a),(1,nv b)] rfl (aA (lA 2 44 (nc a) e (fun D w2 h3 e=>lA 3 44 (nc b) e (fun F w5 h6 e=>lA 4 44 ([uV 0,eS]) e (fun C w8 h9 e=>ag (aa e [.v (qP D 1),.o (.string (hi a)) 2 1 1] (lV 14 qF ?_ (hr:=rb kR (jH (fV has))))))))));refine lL e ac (lG 16 ?_);refine lG 17 (lG 18 (lL e [.v qF] (ah (cK (cQ ?_)))));obtain ⟨K,hK_⟩:∃ K,K=w8.heap.size:=⟨_,rfl⟩;have bj:C<K:=by rw[hK_];exact fE e 0
 have I:F<K:=by rw[hK_];exact fE e 1
 have J:D<K:=by rw[hK_];exact fE e 2
 refine xE ⟨[],some (K,[])⟩ 0 mixed ?_;have bk:=e.g.size;replace e:=e.drew;have z:=N4 hK_;refine zO 0 36 [(2,0,2)] (nv a) rfl z e (fun p hp=>by obtain rfl:=ti.1 hp;exact J) (zO 2 38 [(1,0,2)] (nv b) rfl z e (fun p hp=>by obtain rfl:=ti.1 hp;exact I) (sO 1 37 (gF a oM oM _ _ e.g) rfl z ?_));rintro _ _ _ u12 z ⟨j,rfl,U,X,b0⟩;obtain ⟨_,e,-,-⟩:=e.take u12 U X;replace e:=e.to [⟨j,42,(wds a).flatMap aq⟩,⟨C,44,[uV 0,eS]⟩,⟨F,44,nc b⟩,⟨D,44,nc a⟩] [];refine sO 3 39 (gF b oM oM _ _ e.g) rfl z ?_;rintro _ _ _ u16 z ⟨u,rfl,O,V,b5⟩;obtain ⟨zn,e,-,-⟩:=e.take u16 O V;replace e:=e.to [⟨u,42,(wds b).flatMap aq⟩,⟨j,42,(wds a).flatMap aq⟩,⟨C,44,[uV 0,eS]⟩,⟨F,44,nc b⟩,⟨D,44,nc a⟩] [];refine zV 4 7 (qS (sB j) ((wds a).length) ((wds a).length)) (zV 5 8 (qS (sB u) ((wds b).length) ((wds b).length)) (tN (cQ (aa e [.c,.v (nV ((wds a).length)),.c,.v (nV ((wds b).length))] ?_))));have ⟨zk,bb⟩:=dF (p:=(((wds a).length:Nat):Int)<(((wds b).length:Nat):Int)) oM;refine lB 44 zk (ah (cK (aa e ac (ag (aa e [.c,.v (nV ((wds a).length)),.c] (aZ ?_))))));refine bH _ (CG.loop (fun μ_ Γ w_=>∃ (i:Nat)(l:List Nat)(x:Nat)(h_:Hp),μ_=(wds a).length-i/\Γ=[(4,pB C),(7,qS (sB j) ((wds a).length) ((wds a).length)),(8,qS (sB u) ((wds b).length) ((wds b).length)),(48,nV ((wds a).length)),(49,nV i),(9,mV x)]/\SS w h w_ h_ [⟨u,42,(wds b).flatMap aq⟩,⟨j,42,(l).flatMap aq⟩,⟨C,44,[uV 0,eS]⟩,⟨F,44,nc b⟩,⟨D,44,nc a⟩] [] []/\i<=(wds a).length/\l.length=(wds a).length/\Wd l/\x<=1/\ai (2^64) l+(2^64)^i*x=a+ai (2^64) ((wds b:List Nat).take i)) _ ⟨0,wds a,0,zn,rfl,rfl,e.to _ _,NY _,rfl,Wd.wds _,oM,(by have hx_:ai (2^64) (wds a)=a:=a7 _;rw[hx_];simp[ai])⟩ ?_);rintro _ _ _ ⟨i,l,x,zj,bl,rfl,e,hi,S,M,hcy,inv⟩;have hlk:=M.get i;have hyk:=(Wd.wds b).get i;refine aA ?_;cases Y:(decide ((i:Int)<(((wds a).length:Nat):Int)))
 .
  have zf:=oF Y;refine lB 50 Y (ag (dE (CG.exit ?_)))
  show CG _ _ _ _ _ _ _ _
  refine cQ (aA ?_);have H:=inv;rw[Nj (show (wds b).length<=i by first|omega|(simp;done)|(simp;omega))] at H
  rw[show i=l.length by omega] at H;have hE_:ai (2^64) (wds b)=b:=a7 _;replace H:ai (2^64) l+(2^64)^l.length*x=(a+b):=by rw[H,hE_];first|done|omega
  refine lL e ac ?_;cases Z:((x:Int) != (0:Int))
  .
   have zg:=aU Z;refine lB 75 Z (ah (cK (aA ?_)));obtain ⟨_,e,Q,b2,bq⟩:=e.pub 1;replace e:=(e.to [⟨u,42,(wds b).flatMap aq⟩,⟨C,44,[uV 0,eS]⟩,⟨F,44,nc b⟩,⟨D,44,nc a⟩] []).aS (SlO.of_flat (sz:=1) (f:=aq) (d:=0) (b:=j) (o:=0) (l:=l) (fun _=>rfl) Q);exact lL e ac (ar 81 e (dM (sB j) ((wds a).length) (l) ((wds a).length) ((a+b)) (by first|rfl|assumption|(simp;done)|(simp;omega)|omega) (M) (by rw[show x=0 by omega,MX,y5] at H;exact H) sM sM _ _ e.g e.f.1) (fun _ _ e=>lP 1 0 (nc (a+b)) e (fun _ e=>ae e [(1,0,2)] (nv (a+b)) rfl)))
  have zg:=aJ Z;refine lB 75 Z (ak (kQ (lL e ax (lR 78 42 1 ([mV x]) e (fun zo _ _ e=>K9 79 1 ((wds a).length) zo l aq 0 x 8 (uV 0) e e.f.1 oM oM (fun zp zq _ _ e bd=>?_))))));replace e:=e.to [⟨u,42,(wds b).flatMap aq⟩,⟨C,44,[uV 0,eS]⟩,⟨F,44,nc b⟩,⟨D,44,nc a⟩] [];exact lL e ac (aG (lL e ac (ar 81 e (dM zp zq (l++[x]) ((wds a).length+1) ((a+b)) (by first|rfl|assumption|(simp;done)|(simp;omega)|omega) (Dg.append M (Dg.one oM)) (by show ai _ (l++[x])=_;rw[da];show _+_*(x+_*0)=_;rw[MX,y5];exact H) sM sM _ _ e.g e.f.1) (fun _ _ e=>lP 1 0 (nc (a+b)) e (fun _ e=>ae e [(1,0,2)] (nv (a+b)) rfl)))))
 have zf:=oT Y;refine lB 50 Y (ag (ck (cK (cQ (kZ (aa e ax (aG (lL e ac (ag (aa e [.c,.c,.v (nV ((wds b).length))] ?_))))))))));cases zc:(decide ((i:Int)<(((wds b).length:Nat):Int)))
 .
  have zi:=oF zc;refine lB 55 zc (ah (cK (kQ (lL e m4 (lX 65 (sB j) ((wds a).length) ((wds a).length) 1 (i:Nat) i rfl ?_)))));refine lQ 66 1 l aq 1 0 i (mV ((l).getD i 0)) e oM (lL e ax ?_);obtain ⟨y,zd,b6,br,bz,W⟩:=fk ((l).getD i 0) 0 x wM wM oM;refine lV 69 (.tuple #[mV y,mV zd]) ?_ (hr:=eL kR (W _));refine lL e [.c,.v (mV y),.v (mV zd)] (lX 72 (sB j) ((wds a).length) ((wds a).length) 1 (i:Nat) i rfl ?_);refine lW 1 l aq 1 i y e oM (fun _ e=>?_);have zl:((l).set i y).length=(wds a).length:=by rw[NI];exact S
  replace e:=e.to [⟨u,42,(wds b).flatMap aq⟩,⟨j,42,((l).set i y).flatMap aq⟩,⟨C,44,[uV 0,eS]⟩,⟨F,44,nc b⟩,⟨D,44,nc a⟩] [];refine lL e ac (lN (kQ (bw 73 ((i:Nat)+1) (i+1) ?_)));refine lL e ac (lD ?_);intro a_ ka;refine ⟨_,_,?_,⟨i+1,(l).set i y,zd,zj,rfl,rfl,e.to _ _,oM,zl,(M.set _ oM),oM,(hJ oM inv (by first|omega|(have hy0:=cB (l:=(wds b:List Nat)) (k:=i) (by first|omega|(simp;done));omega)))⟩,ka.to _ kR⟩
  omega
 have zi:=oT zc;refine lB 55 zc (ak (kQ (lL e ax (lX 58 (sB u) ((wds b).length) ((wds b).length) 1 (i:Nat) i rfl ?_))));refine lQ 59 0 (wds b) aq 1 0 i (mV ((wds b).getD i 0)) e oM (lL e ac (lN (kQ (lL e m4 (lX 65 (sB j) ((wds a).length) ((wds a).length) 1 (i:Nat) i rfl ?_)))));refine lQ 66 1 l aq 1 0 i (mV ((l).getD i 0)) e oM (lL e ax ?_);obtain ⟨B,ze,bm,b3,bn,L⟩:=fk ((l).getD i 0) ((wds b).getD i 0) x wM wM oM;refine lV 69 (.tuple #[mV B,mV ze]) ?_ (hr:=eL kR (L _));refine lL e [.c,.v (mV B),.v (mV ze)] (lX 72 (sB j) ((wds a).length) ((wds a).length) 1 (i:Nat) i rfl ?_);refine lW 1 l aq 1 i B e oM (fun _ e=>?_);have zm:((l).set i B).length=(wds a).length:=by rw[NI];exact S
 replace e:=e.to [⟨u,42,(wds b).flatMap aq⟩,⟨j,42,((l).set i B).flatMap aq⟩,⟨C,44,[uV 0,eS]⟩,⟨F,44,nc b⟩,⟨D,44,nc a⟩] [];refine lL e ac (lN (kQ (bw 73 ((i:Nat)+1) (i+1) ?_)));refine lL e ac (lD ?_);intro a_ ka;refine ⟨_,_,?_,⟨i+1,(l).set i B,ze,zj,rfl,rfl,e.to _ _,oM,zm,(M.set _ oM),oM,(hJ oM inv (by first|omega|(have hy0:=cB (l:=(wds b:List Nat)) (k:=i) (by first|omega|(simp;done));omega)))⟩,ka.to _ kR⟩
 omega
theorem GE (a b)(hla:(wds a).length<=(10^9))(hlb:(wds b).length<=(10^9))(ha0:0<a)(hbs:(2^64)<=b)(hlt:(wds a).length<(wds b).length)(w h)(g:G w h):CV 147 #[nv a,nv b] w h (nv (a+b)):=by
 have e:=sS g;refine go Tryz.func147 [(0,nv a),(1,nv b)] rfl (aA (lA 2 44 (nc a) e (fun F w2 h3 e=>lA 3 44 (nc b) e (fun C w5 h6 e=>lA 4 44 ([uV 0,eS]) e (fun D w8 h9 e=>?_)))));refine lN (CG.join (fun Γ w_=>∃  (h_:Hp),Γ=[(2,pB F),(3,pB C),(4,pB D)]/\SS w h w_ h_ [⟨D,44,[uV 0,eS]⟩,⟨C,44,nc b⟩,⟨F,44,nc a⟩] [] []) ?_ ?_)
 .
  refine aa e [.v (qP F 1),.o (.string (hi a)) 2 1 1] ?_;cases za:(kT (hi a) (⟨#[]⟩))
  .
   have zg:=iA za;refine lB 14 za (lL e ac (lG 16 ?_));refine lG 17 (lG 18 (lL e [.v qF] (ah (CG.skip ?_))));intro a_ H;exact ⟨_,⟨h9,rfl,e.to _ _⟩,H.to _ kR⟩
  have zg:=ik za;refine lB 14 za (lL e [.c,.v (qP C 1),.o (.string (hi b)) 1 1 1] (lV 18 qF ?_ (hr:=rb kR (jH (fV hbs)))));refine lL e [.v qF] (ah (CG.skip ?_));intro a_ H;exact ⟨_,⟨h9,rfl,e.to _ _⟩,H.to _ kR⟩
 rintro _ zp ⟨_,rfl,e⟩;refine cQ ?_;obtain ⟨L,hK_⟩:∃ L,L=zp.heap.size:=⟨_,rfl⟩;have bj:D<L:=by rw[hK_];exact fE e 0
 have J:C<L:=by rw[hK_];exact fE e 1
 have K:F<L:=by rw[hK_];exact fE e 2
 refine xE ⟨[],some (L,[])⟩ 0 mixed ?_;have bk:=e.g.size;replace e:=e.drew;have y:=N4 hK_;refine zO 0 36 [(2,0,2)] (nv a) rfl y e (fun p hp=>by obtain rfl:=ti.1 hp;exact K) (zO 2 38 [(1,0,2)] (nv b) rfl y e (fun p hp=>by obtain rfl:=ti.1 hp;exact J) (sO 1 37 (gF a oM oM _ _ e.g) rfl y ?_));rintro _ _ _ u15 y ⟨u,rfl,U,Y,b0⟩;obtain ⟨_,e,-,-⟩:=e.take u15 U Y;replace e:=e.to [⟨u,42,(wds a).flatMap aq⟩,⟨D,44,[uV 0,eS]⟩,⟨C,44,nc b⟩,⟨F,44,nc a⟩] [];refine sO 3 39 (gF b oM oM _ _ e.g) rfl y ?_;rintro _ _ _ u19 y ⟨j,rfl,Q,X,b5⟩;obtain ⟨zq,e,-,-⟩:=e.take u19 Q X;replace e:=e.to [⟨j,42,(wds b).flatMap aq⟩,⟨u,42,(wds a).flatMap aq⟩,⟨D,44,[uV 0,eS]⟩,⟨C,44,nc b⟩,⟨F,44,nc a⟩] [];refine zV 4 7 (qS (sB u) ((wds a).length) ((wds a).length)) (zV 5 8 (qS (sB j) ((wds b).length) ((wds b).length)) (tN (cQ (aa e [.c,.v (nV ((wds a).length)),.c,.v (nV ((wds b).length))] ?_))));have ⟨zm,bd⟩:=dT (p:=(((wds a).length:Nat):Int)<(((wds b).length:Nat):Int)) oM;refine lB 44 zm (ak (kQ (lL e m4 (aG (lL e ac (ag (aa e [.c,.v (nV ((wds b).length)),.c] (aZ ?_))))))));refine bH _ (CG.loop (fun μ_ Γ w_=>∃ (i:Nat)(l:List Nat)(x:Nat)(h_:Hp),μ_=(wds b).length-i/\Γ=[(4,pB D),(7,qS (sB j) ((wds b).length) ((wds b).length)),(8,qS (sB u) ((wds a).length) ((wds a).length)),(48,nV ((wds b).length)),(49,nV i),(9,mV x)]/\SS w h w_ h_ [⟨j,42,(l).flatMap aq⟩,⟨u,42,(wds a).flatMap aq⟩,⟨D,44,[uV 0,eS]⟩,⟨C,44,nc b⟩,⟨F,44,nc a⟩] [] []/\i<=(wds b).length/\l.length=(wds b).length/\Wd l/\x<=1/\ai (2^64) l+(2^64)^i*x=b+ai (2^64) ((wds a:List Nat).take i)) _ ⟨0,wds b,0,zq,rfl,rfl,e.to _ _,NY _,rfl,Wd.wds _,oM,(by have hx_:ai (2^64) (wds b)=b:=a7 _;rw[hx_];simp[ai])⟩ ?_);rintro _ _ _ ⟨i,l,x,zl,br,rfl,e,hi,S,M,hcy,inv⟩;have hlk:=M.get i;have hyk:=(Wd.wds a).get i;refine aA ?_;cases zb:(decide ((i:Int)<(((wds b).length:Nat):Int)))
 .
  have zi:=oF zb;refine lB 50 zb (ag (dE (CG.exit ?_)))
  show CG _ _ _ _ _ _ _ _
  refine cQ (aA ?_);have I:=inv;rw[Nj (show (wds a).length<=i by first|omega|(simp;done)|(simp;omega))] at I
  rw[show i=l.length by omega] at I;have hE_:ai (2^64) (wds a)=a:=a7 _;replace I:ai (2^64) l+(2^64)^l.length*x=(a+b):=by rw[I,hE_];first|done|omega
  refine lL e ac ?_;cases zc:((x:Int) != (0:Int))
  .
   have zj:=aU zc;refine lB 75 zc (ah (cK (aA ?_)));obtain ⟨_,e,O,bz,bq⟩:=e.pub 0;replace e:=(e.to [⟨u,42,(wds a).flatMap aq⟩,⟨D,44,[uV 0,eS]⟩,⟨C,44,nc b⟩,⟨F,44,nc a⟩] []).aS (SlO.of_flat (sz:=1) (f:=aq) (d:=0) (b:=j) (o:=0) (l:=l) (fun _=>rfl) O);exact lL e ac (ar 81 e (dM (sB j) ((wds b).length) (l) ((wds b).length) ((a+b)) (by first|rfl|assumption|(simp;done)|(simp;omega)|omega) (M) (by rw[show x=0 by omega,MX,y5] at I;exact I) sM sM _ _ e.g e.f.1) (fun _ _ e=>lP 1 0 (nc (a+b)) e (fun _ e=>ae e [(1,0,2)] (nv (a+b)) rfl)))
  have zj:=aJ zc;refine lB 75 zc (ak (kQ (lL e ax (lR 78 42 1 ([mV x]) e (fun zr _ _ e=>K9 79 0 ((wds b).length) zr l aq 0 x 8 (uV 0) e e.f.1 oM oM (fun zs zt _ _ e bb=>?_))))));replace e:=e.to [⟨u,42,(wds a).flatMap aq⟩,⟨D,44,[uV 0,eS]⟩,⟨C,44,nc b⟩,⟨F,44,nc a⟩] [];exact lL e ac (aG (lL e ac (ar 81 e (dM zs zt (l++[x]) ((wds b).length+1) ((a+b)) (by first|rfl|assumption|(simp;done)|(simp;omega)|omega) (Dg.append M (Dg.one oM)) (by show ai _ (l++[x])=_;rw[da];show _+_*(x+_*0)=_;rw[MX,y5];exact I) sM sM _ _ e.g e.f.1) (fun _ _ e=>lP 1 0 (nc (a+b)) e (fun _ e=>ae e [(1,0,2)] (nv (a+b)) rfl)))))
 have zi:=oT zb;refine lB 50 zb (ag (ck (cK (cQ (kZ (aa e ax (aG (lL e ac (ag (aa e [.c,.c,.v (nV ((wds a).length))] ?_))))))))));cases Z:(decide ((i:Int)<(((wds a).length:Nat):Int)))
 .
  have zk:=oF Z;refine lB 55 Z (ah (cK (kQ (lL e m4 (lX 65 (sB j) ((wds b).length) ((wds b).length) 1 (i:Nat) i rfl ?_)))));refine lQ 66 0 l aq 1 0 i (mV ((l).getD i 0)) e oM (lL e ax ?_);obtain ⟨B,ze,b2,bm,bn,W⟩:=fk ((l).getD i 0) 0 x wM wM oM;refine lV 69 (.tuple #[mV B,mV ze]) ?_ (hr:=eL kR (W _));refine lL e [.c,.v (mV B),.v (mV ze)] (lX 72 (sB j) ((wds b).length) ((wds b).length) 1 (i:Nat) i rfl ?_);refine lW 0 l aq 1 i B e oM (fun _ e=>?_);have zn:((l).set i B).length=(wds b).length:=by rw[NI];exact S
  replace e:=e.to [⟨j,42,((l).set i B).flatMap aq⟩,⟨u,42,(wds a).flatMap aq⟩,⟨D,44,[uV 0,eS]⟩,⟨C,44,nc b⟩,⟨F,44,nc a⟩] [];refine lL e ac (lN (kQ (bw 73 ((i:Nat)+1) (i+1) ?_)));refine lL e ac (lD ?_);intro a_ H;refine ⟨_,_,?_,⟨i+1,(l).set i B,ze,zl,rfl,rfl,e.to _ _,oM,zn,(M.set _ oM),oM,(hJ oM inv (by first|omega|(have hy0:=cB (l:=(wds a:List Nat)) (k:=i) (by first|omega|(simp;done));omega)))⟩,H.to _ kR⟩
  omega
 have zk:=oT Z;refine lB 55 Z (ak (kQ (lL e ax (lX 58 (sB u) ((wds a).length) ((wds a).length) 1 (i:Nat) i rfl ?_))));refine lQ 59 1 (wds a) aq 1 0 i (mV ((wds a).getD i 0)) e oM (lL e ac (lN (kQ (lL e m4 (lX 65 (sB j) ((wds b).length) ((wds b).length) 1 (i:Nat) i rfl ?_)))));refine lQ 66 0 l aq 1 0 i (mV ((l).getD i 0)) e oM (lL e ax ?_);obtain ⟨z,zf,bl,b3,b6,V⟩:=fk ((l).getD i 0) ((wds a).getD i 0) x wM wM oM;refine lV 69 (.tuple #[mV z,mV zf]) ?_ (hr:=eL kR (V _));refine lL e [.c,.v (mV z),.v (mV zf)] (lX 72 (sB j) ((wds b).length) ((wds b).length) 1 (i:Nat) i rfl ?_);refine lW 0 l aq 1 i z e oM (fun _ e=>?_);have zo:((l).set i z).length=(wds b).length:=by rw[NI];exact S
 replace e:=e.to [⟨j,42,((l).set i z).flatMap aq⟩,⟨u,42,(wds a).flatMap aq⟩,⟨D,44,[uV 0,eS]⟩,⟨C,44,nc b⟩,⟨F,44,nc a⟩] [];refine lL e ac (lN (kQ (bw 73 ((i:Nat)+1) (i+1) ?_)));refine lL e ac (lD ?_);intro a_ H;refine ⟨_,_,?_,⟨i+1,(l).set i z,zf,zl,rfl,rfl,e.to _ _,oM,zo,(M.set _ oM),oM,(hJ oM inv (by first|omega|(have hy0:=cB (l:=(wds a:List Nat)) (k:=i) (by first|omega|(simp;done));omega)))⟩,H.to _ kR⟩
 omega
theorem HK (b)(hl:(wds b).length<=(10^9))(K:(2^64)<=b)(w h)(g:G w h):CV 147 #[nv 0,nv b] w h (nv (0+b)):=by
 have a:=sS g;have h2l:=dl K;refine go Tryz.func147 [(0,nv 0),(1,nv b)] rfl (aA (lA 2 44 (nc 0) a (fun F w2 h3 a=>lA 3 44 (nc b) a (fun y w5 h6 a=>lA 4 44 ([uV 0,eS]) a (fun D w8 h9 a=>ag (aa a [.v (qP F 1),.o (.string (hi 0)) 2 1 1] (lV 14 qT ?_ (hr:=rb kR (kp rfl)))))))));refine lL a [.c,.v (qP y 1),.o (.string (hi b)) 1 1 1] (lV 18 qF ?_ (hr:=rb kR (jH (fV K))));refine lL a [.v qF] (ah (cK (cQ ?_)));obtain ⟨H,hK_⟩:∃ H,H=w8.heap.size:=⟨_,rfl⟩;have bd:D<H:=by rw[hK_];exact fE a 0
 have z:y<H:=by rw[hK_];exact fE a 1
 have C:F<H:=by rw[hK_];exact fE a 2
 refine xE ⟨[],some (H,[])⟩ 0 mixed ?_;have bq:=a.g.size;replace a:=a.drew;have x:=N4 hK_;refine zO 0 36 [(2,0,2)] (nv 0) rfl x a (fun p Z=>by obtain rfl:=ti.1 Z;exact C) (zO 2 38 [(1,0,2)] (nv b) rfl x a (fun p Z=>by obtain rfl:=ti.1 Z;exact z) (sO 1 37 (ml _ _ a.g) rfl x ?_));rintro _ _ _ W x rfl;replace a:=a.step W;refine sO 3 39 (gF b oM oM _ _ a.g) rfl x ?_;rintro _ _ _ u15 x ⟨e,rfl,J,I,bl⟩;obtain ⟨zj,a,-,-⟩:=a.take u15 J I;replace a:=a.to [⟨e,42,(wds b).flatMap aq⟩,⟨D,44,[uV 0,eS]⟩,⟨y,44,nc b⟩,⟨F,44,nc 0⟩] [];refine zV 4 7 (sZ) (zV 5 8 (qS (sB e) ((wds b).length) ((wds b).length)) (tN (cQ (aa a [.c,.v (iV 0),.c,.v (nV ((wds b).length))] ?_))));have ⟨zf,V⟩:=dT (p:=(0:Int)<(((wds b).length:Nat):Int)) oM;refine lB 44 zf (ak (kQ (lL a m4 (aG (lL a ac (ag (aa a [.c,.v (nV ((wds b).length)),.c] (aZ ?_))))))));refine bH _ (CG.loop (fun μ_ Γ w_=>∃ (i:Nat)(l:List Nat)(j:Nat)(h_:Hp),μ_=(wds b).length-i/\Γ=[(4,pB D),(7,qS (sB e) ((wds b).length) ((wds b).length)),(8,sZ),(48,nV ((wds b).length)),(49,nV i),(9,mV j)]/\SS w h w_ h_ [⟨e,42,(l).flatMap aq⟩,⟨D,44,[uV 0,eS]⟩,⟨y,44,nc b⟩,⟨F,44,nc 0⟩] [] []/\i<=(wds b).length/\l.length=(wds b).length/\Wd l/\j<=1/\ai (2^64) l+(2^64)^i*j=b+ai (2^64) (([]:List Nat).take i)) _ ⟨0,wds b,0,zj,rfl,rfl,a.to _ _,NY _,rfl,Wd.wds _,oM,(by have Y:ai (2^64) (wds b)=b:=a7 _;rw[Y];simp[ai])⟩ ?_);rintro _ _ _ ⟨i,l,j,zk,bj,rfl,a,hi,hll,O,hcy,inv⟩;have hlk:=O.get i;have hyk:=Wd.get (l:=[]) Dg.nil i;refine aA ?_;cases Q:(decide ((i:Int)<(((wds b).length:Nat):Int)))
 .
  have zd:=oF Q;refine lB 50 Q (ag (dE (CG.exit ?_)))
  show CG _ _ _ _ _ _ _ _
  refine cQ (aA ?_);have B:=inv;rw[Nj (show ([]).length<=i by first|omega|(simp;done)|(simp;omega))] at B
  rw[show i=l.length by omega] at B;have hE_:([]:List Nat)=[]:=rfl;replace B:ai (2^64) l+(2^64)^l.length*j=(0+b):=by rw[B];simp[ai]
  refine lL a ac ?_;cases S:((j:Int) != (0:Int))
  .
   have ze:=aU S;refine lB 75 S (ah (cK (aA ?_)));obtain ⟨_,a,M,bk,bz⟩:=a.pub 0;replace a:=(a.to [⟨D,44,[uV 0,eS]⟩,⟨y,44,nc b⟩,⟨F,44,nc 0⟩] []).aS (SlO.of_flat (sz:=1) (f:=aq) (d:=0) (b:=e) (o:=0) (l:=l) (fun _=>rfl) M);exact lL a ac (ar 81 a (dM (sB e) ((wds b).length) (l) ((wds b).length) ((0+b)) (by first|rfl|assumption|(simp;done)|(simp;omega)|omega) (O) (by rw[show j=0 by omega,MX,y5] at B;exact B) sM sM _ _ a.g a.f.1) (fun _ _ a=>lP 0 0 (nc (0+b)) a (fun _ a=>ae a [(0,0,2)] (nv (0+b)) rfl)))
  have ze:=aJ S;refine lB 75 S (ak (kQ (lL a ax (lR 78 42 1 ([mV j]) a (fun zl _ _ a=>K9 79 0 ((wds b).length) zl l aq 0 j 8 (uV 0) a a.f.1 oM oM (fun zm zn _ _ a bb=>?_))))));replace a:=a.to [⟨D,44,[uV 0,eS]⟩,⟨y,44,nc b⟩,⟨F,44,nc 0⟩] [];exact lL a ac (aG (lL a ac (ar 81 a (dM zm zn (l++[j]) ((wds b).length+1) ((0+b)) (by first|rfl|assumption|(simp;done)|(simp;omega)|omega) (Dg.append O (Dg.one oM)) (by show ai _ (l++[j])=_;rw[da];show _+_*(j+_*0)=_;rw[MX,y5];exact B) sM sM _ _ a.g a.f.1) (fun _ _ a=>lP 0 0 (nc (0+b)) a (fun _ a=>ae a [(0,0,2)] (nv (0+b)) rfl)))))
 have zd:=oT Q;refine lB 50 Q (ag (ck (cK (cQ (kZ (aa a ax (aG (lL a ac (ag (aa a [.c,.c,.v (iV 0)] ?_))))))))));have ⟨zg,X⟩:=dF (p:=(i:Int)<(0:Int)) oM;refine lB 55 zg (ah (cK (kQ (lL a m4 (lX 65 (sB e) ((wds b).length) ((wds b).length) 1 (i:Nat) i rfl ?_)))));refine lQ 66 0 l aq 1 0 i (mV ((l).getD i 0)) a oM (lL a ax ?_);obtain ⟨u,U,bm,br,bn,L⟩:=fk ((l).getD i 0) 0 j wM wM oM;refine lV 69 (.tuple #[mV u,mV U]) ?_ (hr:=eL kR (L _));refine lL a [.c,.v (mV u),.v (mV U)] (lX 72 (sB e) ((wds b).length) ((wds b).length) 1 (i:Nat) i rfl ?_);refine lW 0 l aq 1 i u a oM (fun _ a=>?_);have zi:((l).set i u).length=(wds b).length:=by rw[NI];exact hll
 replace a:=a.to [⟨e,42,((l).set i u).flatMap aq⟩,⟨D,44,[uV 0,eS]⟩,⟨y,44,nc b⟩,⟨F,44,nc 0⟩] [];refine lL a ac (lN (kQ (bw 73 ((i:Nat)+1) (i+1) ?_)));refine lL a ac (lD ?_);intro a_ ka;refine ⟨_,_,?_,⟨i+1,(l).set i u,U,zk,rfl,rfl,a.to _ _,oM,zi,(O.set _ oM),oM,(hJ oM inv (by first|omega|(have hy0:=cB (l:=([]:List Nat)) (k:=i) (by first|omega|(simp;done));omega)))⟩,ka.to _ kR⟩
 omega
theorem HX (a)(hl:(wds a).length<=(10^9))(has:(2^64)<=a)(w h)(g:G w h):CV 147 #[nv a,nv 0] w h (nv (a+0)):=by
 have e:=sS g;have h2l:=dl has;refine go Tryz.func147 [(0,nv a),(1,nv 0)] rfl (aA (lA 2 44 (nc a) e (fun F w2 h3 e=>lA 3 44 (nc 0) e (fun H w5 h6 e=>lA 4 44 ([uV 0,eS]) e (fun D w8 h9 e=>ag (aa e [.v (qP F 1),.o (.string (hi a)) 2 1 1] (lV 14 qF ?_ (hr:=rb kR (jH (fV has))))))))));refine lL e ac (lG 16 ?_);refine lG 17 (lG 18 (lL e [.v qF] (ah (cK (cQ ?_)))));obtain ⟨I,hK_⟩:∃ I,I=w8.heap.size:=⟨_,rfl⟩;have bd:D<I:=by rw[hK_];exact fE e 0
 have z:H<I:=by rw[hK_];exact fE e 1
 have C:F<I:=by rw[hK_];exact fE e 2
 refine xE ⟨[],some (I,[])⟩ 0 mixed ?_;have bq:=e.g.size;replace e:=e.drew;have y:=N4 hK_;refine zO 0 36 [(2,0,2)] (nv a) rfl y e (fun p hp=>by obtain rfl:=ti.1 hp;exact C) (zO 2 38 [(1,0,2)] (nv 0) rfl y e (fun p hp=>by obtain rfl:=ti.1 hp;exact z) (sO 1 37 (gF a oM oM _ _ e.g) rfl y ?_));rintro _ _ _ X y ⟨j,rfl,K,J,bl⟩;obtain ⟨_,e,-,-⟩:=e.take X K J;replace e:=e.to [⟨j,42,(wds a).flatMap aq⟩,⟨D,44,[uV 0,eS]⟩,⟨H,44,nc 0⟩,⟨F,44,nc a⟩] [];refine sO 3 39 (ml _ _ e.g) rfl y ?_;rintro _ _ zj V y rfl;replace e:=e.step V;refine zV 4 7 (qS (sB j) ((wds a).length) ((wds a).length)) (zV 5 8 (sZ) (tN (cQ (aa e [.c,.v (nV ((wds a).length)),.c,.v (iV 0)] ?_))));have ⟨zf,W⟩:=dF (p:=(((wds a).length:Nat):Int)<(0:Int)) oM;refine lB 44 zf (ah (cK (aa e ac (ag (aa e [.c,.v (nV ((wds a).length)),.c] (aZ ?_))))));refine bH _ (CG.loop (fun μ_ Γ w_=>∃ (i:Nat)(l:List Nat)(u:Nat)(h_:Hp),μ_=(wds a).length-i/\Γ=[(4,pB D),(7,qS (sB j) ((wds a).length) ((wds a).length)),(8,sZ),(48,nV ((wds a).length)),(49,nV i),(9,mV u)]/\SS w h w_ h_ [⟨j,42,(l).flatMap aq⟩,⟨D,44,[uV 0,eS]⟩,⟨H,44,nc 0⟩,⟨F,44,nc a⟩] [] []/\i<=(wds a).length/\l.length=(wds a).length/\Wd l/\u<=1/\ai (2^64) l+(2^64)^i*u=a+ai (2^64) (([]:List Nat).take i)) _ ⟨0,wds a,0,zj,rfl,rfl,e.to _ _,NY _,rfl,Wd.wds _,oM,(by have Z:ai (2^64) (wds a)=a:=a7 _;rw[Z];simp[ai])⟩ ?_);rintro _ _ _ ⟨i,l,u,zk,bj,rfl,e,hi,hll,O,hcy,inv⟩;have hlk:=O.get i;have hyk:=Wd.get (l:=[]) Dg.nil i;refine aA ?_;cases Q:(decide ((i:Int)<(((wds a).length:Nat):Int)))
 .
  have zd:=oF Q;refine lB 50 Q (ag (dE (CG.exit ?_)))
  show CG _ _ _ _ _ _ _ _
  refine cQ (aA ?_);have B:=inv;rw[Nj (show ([]).length<=i by first|omega|(simp;done)|(simp;omega))] at B
  rw[show i=l.length by omega] at B;have hE_:([]:List Nat)=[]:=rfl;replace B:ai (2^64) l+(2^64)^l.length*u=(a+0):=by rw[B];simp[ai]
  refine lL e ac ?_;cases S:((u:Int) != (0:Int))
  .
   have ze:=aU S;refine lB 75 S (ah (cK (aA ?_)));obtain ⟨_,e,M,bk,bz⟩:=e.pub 0;replace e:=(e.to [⟨D,44,[uV 0,eS]⟩,⟨H,44,nc 0⟩,⟨F,44,nc a⟩] []).aS (SlO.of_flat (sz:=1) (f:=aq) (d:=0) (b:=j) (o:=0) (l:=l) (fun _=>rfl) M);exact lL e ac (ar 81 e (dM (sB j) ((wds a).length) (l) ((wds a).length) ((a+0)) (by first|rfl|assumption|(simp;done)|(simp;omega)|omega) (O) (by rw[show u=0 by omega,MX,y5] at B;exact B) sM sM _ _ e.g e.f.1) (fun _ _ e=>lP 0 0 (nc (a+0)) e (fun _ e=>ae e [(0,0,2)] (nv (a+0)) rfl)))
  have ze:=aJ S;refine lB 75 S (ak (kQ (lL e ax (lR 78 42 1 ([mV u]) e (fun zl _ _ e=>K9 79 0 ((wds a).length) zl l aq 0 u 8 (uV 0) e e.f.1 oM oM (fun zm zn _ _ e bb=>?_))))));replace e:=e.to [⟨D,44,[uV 0,eS]⟩,⟨H,44,nc 0⟩,⟨F,44,nc a⟩] [];exact lL e ac (aG (lL e ac (ar 81 e (dM zm zn (l++[u]) ((wds a).length+1) ((a+0)) (by first|rfl|assumption|(simp;done)|(simp;omega)|omega) (Dg.append O (Dg.one oM)) (by show ai _ (l++[u])=_;rw[da];show _+_*(u+_*0)=_;rw[MX,y5];exact B) sM sM _ _ e.g e.f.1) (fun _ _ e=>lP 0 0 (nc (a+0)) e (fun _ e=>ae e [(0,0,2)] (nv (a+0)) rfl)))))
 have zd:=oT Q;refine lB 50 Q (ag (ck (cK (cQ (kZ (aa e ax (aG (lL e ac (ag (aa e [.c,.c,.v (iV 0)] ?_))))))))));have ⟨zg,Y⟩:=dF (p:=(i:Int)<(0:Int)) oM;refine lB 55 zg (ah (cK (kQ (lL e m4 (lX 65 (sB j) ((wds a).length) ((wds a).length) 1 (i:Nat) i rfl ?_)))));refine lQ 66 0 l aq 1 0 i (mV ((l).getD i 0)) e oM (lL e ax ?_);obtain ⟨x,U,bm,br,bn,L⟩:=fk ((l).getD i 0) 0 u wM wM oM;refine lV 69 (.tuple #[mV x,mV U]) ?_ (hr:=eL kR (L _));refine lL e [.c,.v (mV x),.v (mV U)] (lX 72 (sB j) ((wds a).length) ((wds a).length) 1 (i:Nat) i rfl ?_);refine lW 0 l aq 1 i x e oM (fun _ e=>?_);have zi:((l).set i x).length=(wds a).length:=by rw[NI];exact hll
 replace e:=e.to [⟨j,42,((l).set i x).flatMap aq⟩,⟨D,44,[uV 0,eS]⟩,⟨H,44,nc 0⟩,⟨F,44,nc a⟩] [];refine lL e ac (lN (kQ (bw 73 ((i:Nat)+1) (i+1) ?_)));refine lL e ac (lD ?_);intro a_ ka;refine ⟨_,_,?_,⟨i+1,(l).set i x,U,zk,rfl,rfl,e.to _ _,oM,zi,(O.set _ oM),oM,(hJ oM inv (by first|omega|(have hy0:=cB (l:=([]:List Nat)) (k:=i) (by first|omega|(simp;done));omega)))⟩,ka.to _ kR⟩
 omega
theorem Ks (a b)(d:(wds a).length<=(10^9))(c:(wds b).length<=(10^9))(w h)(g:G w h):CV 147 #[nv a,nv b] w h (nv (a+b)):=by
 rcases ea a (2^64) with h1|h1
 ·rcases ea b (2^64) with h2|h2
  ·exact JY a b d c h1 h2 w h g
  ·rcases B2 a with h3|h3
   ·subst h3;exact HK b c h2 w h g
   ·exact GE a b d c h3 h2 (by have:=dl h2;have:=(dj (n:=a)).2 h1;omega) w h g
 ·rcases B2 b with h3|h3
  ·subst h3;exact HX a d h1 w h g
  ·rcases ea (wds a).length (wds b).length with h4|h4
   ·exact GE a b d c oM (by have:=dl h1;rcases ea b (2^64) with h5|h5;(have:=(dj (n:=b)).2 h5;omega);exact h5) h4 w h g
   ·exact Kf a b d c h1 h3 h4 w h g
theorem pr {l:List Nat}{a b c:Nat}(d:Wd l)(inv:ai 18446744073709551616 l+b=a+18446744073709551616^l.length*c)(e:b<=a)(f:c<=1):aD l=a-b:=by
 have h1:=bQ d;have:c=0:=by
  rcases B2 c with h|h
  ·exact h
  ·have:c=1:=by omega
   subst this;rw[Ng] at inv;omega
 subst this;rw[MX,y5] at inv;show ai _ l=_
 omega
theorem FB {a b q r:Nat}(h:a=b*q+r)(hr:r<b):q=a/b/\r=a%b:=by
 subst h;rw[Nat.mul_add_div oM,MN hr,Nat.mul_add_mod,Am hr];simp
theorem gL (n)(d:(wds n).length<=(10^9))(w h)(g:G w h):CR 109 #[nv n] w h (fun v h1=>∃ A c,v=.slice A (wds n).length c/\(wds n).length<=c/\SlO 1 aq 0 h1 A (wds n)):=by
 rcases B2 n with h0|h0
 ·subst h0
  refine (ml w h g).mono ?_;rintro _ w' ⟨_,a,rfl,u,rfl⟩;exact ⟨_,a,rfl,u,none,0,rfl,nR _,SlO.nil⟩
 ·refine (gF n h0 d w h g).mono ?_
  rintro _ w' ⟨_,a,rfl,u,b,rfl,_,_,e⟩;exact ⟨_,a,rfl,u,_,_,rfl,nR _,e⟩
theorem GN (a b)(d:a<b)(f:(wds a).length<=(10^9))(i:(wds b).length<=(10^9))(w h)(g:G w h):CV 148 #[nv a,nv b] w h (.tuple #[nv 0,.bool false]):=by
 have c:=sS g;have j:=ei d;refine go Tryz.func148 [(0,nv a),(1,nv b)] rfl (aA (lA 2 44 (nc a) c (fun D w2 z c=>lA 3 44 (nc b) c (fun u B y c=>lA 4 44 ([uV 0,eS]) c (fun C F x c=>lL c ac (ag (aa c [.o (nv a) 2 0 2,.o (nv b) 1 0 2] (ar 13 c (mM a b f i _ _ c.g) (fun _ _ c=>?_)))))))));have ⟨l,e⟩:=dT (p:=(bY a b:Int)<(0:Int)) oM;exact lB 14 l (ak (aa c [.v (.agg #[uV 0,eS])] (lP 0 0 ([uV 0,eS]) c (fun _ c=>lL c ac (ae c [(0,0,2)] (.tuple #[.agg #[uV 0,eS],qF]) rfl)))))
theorem JF (a b)(f:(wds a).length<=(10^9))(i:(wds b).length<=(10^9))(d:b<=a)(has:a<(2^64))(w h)(g:G w h):CV 148 #[nv a,nv b] w h (.tuple #[nv (a-b),.bool true]):=by
 have c:=sS g;have u:=f0 d;refine go Tryz.func148 [(0,nv a),(1,nv b)] rfl (aA (lA 2 44 (nc a) c (fun j w2 B c=>lA 3 44 (nc b) c (fun l C z c=>lA 4 44 ([uV 0,eS]) c (fun D F y c=>lL c ac (ag (aa c [.o (nv a) 2 0 2,.o (nv b) 1 0 2] (ar 13 c (mM a b f i _ _ c.g) (fun _ _ c=>?_)))))))));have ⟨x,e⟩:=dF (p:=(bY a b:Int)<(0:Int)) oM;refine lB 14 x (ah (cK (cQ (aa c [.v (qP j 1),.o (.string (hi a)) 2 1 1] (lV 18 qT ?_ (hr:=rb kR (kp (fx has))))))));refine ak (aa c [.v (pB j),.o (mV (a%(2^64))) 2 0 1,.v (pB l),.o (mV (b%(2^64))) 1 0 1] (lV 23 (mV ((a%(2^64))-(b%(2^64)))) ?_ (hr:=rU ((((a%(2^64):Nat):Int)-((b%(2^64):Nat):Int))) kR (fX (a%(2^64)) (b%(2^64)) oM oM))));exact lL c [.v (.agg #[mV ((a%(2^64))-(b%(2^64))),eS])] (lP 0 0 ([mV ((a%(2^64))-(b%(2^64))),eS]) c (fun _ c=>lL c ac (ae c [(0,0,2)] (.tuple #[.agg #[mV ((a%(2^64))-(b%(2^64))),eS],qT]) (by rw[Am has,Am (show b<(2^64) by omega),jU oM]))))
theorem KP (a b)(hla:(wds a).length<=(10^9))(hlb:(wds b).length<=(10^9))(V:b<=a)(has:(2^64)<=a)(hb0:0<b)(w h)(g:G w h):CV 148 #[nv a,nv b] w h (.tuple #[nv (a-b),.bool true]):=by
 have e:=sS g;have hcl:=f0 V;have hlm:=dr V;refine go Tryz.func148 [(0,nv a),(1,nv b)] rfl (aA (lA 2 44 (nc a) e (fun C w2 h3 e=>lA 3 44 (nc b) e (fun D w5 h6 e=>lA 4 44 ([uV 0,eS]) e (fun B w8 h9 e=>lL e ac (ag (aa e [.o (nv a) 2 0 2,.o (nv b) 1 0 2] (ar 13 e (mM a b hla hlb _ _ e.g) (fun zl _ e=>?_)))))))));have ⟨zi,bd⟩:=dF (p:=(bY a b:Int)<(0:Int)) oM;refine lB 14 zi (ah (cK (cQ (aa e [.v (qP C 1),.o (.string (hi a)) 2 1 1] (lV 18 qF ?_ (hr:=rb kR (jH (fV has))))))));refine ah (cK (cQ ?_));obtain ⟨J,hK_⟩:∃ J,J=zl.heap.size:=⟨_,rfl⟩;have bb:B<J:=by rw[hK_];exact fE e 0
 have F:D<J:=by rw[hK_];exact fE e 1
 have H:C<J:=by rw[hK_];exact fE e 2
 refine xE ⟨[],some (J,[])⟩ 0 mixed ?_;have bk:=e.g.size;replace e:=e.drew;have z:=N4 hK_;refine zO 0 25 [(2,0,2)] (nv a) rfl z e (fun p hp=>by obtain rfl:=ti.1 hp;exact H) (zO 2 27 [(1,0,2)] (nv b) rfl z e (fun p hp=>by obtain rfl:=ti.1 hp;exact F) (sO 1 26 (gF a oM oM _ _ e.g) rfl z ?_));rintro _ _ _ u15 z ⟨j,rfl,Q,W,bn⟩;obtain ⟨_,e,-,-⟩:=e.take u15 Q W;replace e:=e.to [⟨j,42,(wds a).flatMap aq⟩,⟨B,44,[uV 0,eS]⟩,⟨D,44,nc b⟩,⟨C,44,nc a⟩] [];refine sO 3 28 (gF b oM oM _ _ e.g) rfl z ?_;rintro _ _ _ u19 z ⟨u,rfl,M,S,b2⟩;obtain ⟨zm,e,-,-⟩:=e.take u19 M S;replace e:=e.to [⟨u,42,(wds b).flatMap aq⟩,⟨j,42,(wds a).flatMap aq⟩,⟨B,44,[uV 0,eS]⟩,⟨D,44,nc b⟩,⟨C,44,nc a⟩] [];refine zV 4 6 (qS (sB j) ((wds a).length) ((wds a).length)) (zV 5 7 (qS (sB u) ((wds b).length) ((wds b).length)) (rm (lL e ac (ag (aa e [.c,.v (nV ((wds a).length)),.c] (aZ ?_))))));refine bH _ (CG.loop (fun μ_ Γ w_=>∃ (i:Nat)(l:List Nat)(I:Nat)(h_:Hp),μ_=(wds a).length-i/\Γ=[(4,pB B),(5,qF),(6,qS (sB j) ((wds a).length) ((wds a).length)),(7,qS (sB u) ((wds b).length) ((wds b).length)),(30,nV ((wds a).length)),(31,nV i),(8,mV I)]/\SS w h w_ h_ [⟨u,42,(wds b).flatMap aq⟩,⟨j,42,(l).flatMap aq⟩,⟨B,44,[uV 0,eS]⟩,⟨D,44,nc b⟩,⟨C,44,nc a⟩] [] []/\i<=(wds a).length/\l.length=(wds a).length/\Wd l/\I<=1/\ai (2^64) l+ai (2^64) ((wds b:List Nat).take i)=a+(2^64)^i*I) _ ⟨0,wds a,0,zm,rfl,rfl,e.to _ _,NY _,rfl,Wd.wds _,oM,(by have hx_:ai (2^64) (wds a)=a:=a7 _;rw[hx_];simp[ai])⟩ ?_);rintro _ _ _ ⟨i,l,I,zg,b0,rfl,e,hi,O,L,hbo,inv⟩;have hlk:=L.get i;have hyk:=(Wd.wds b).get i;refine aA ?_;cases Y:(decide ((i:Int)<(((wds a).length:Nat):Int)))
 .
  have ze:=oF Y;refine lB 32 Y (ag (dE (CG.exit ?_)))
  show CG _ _ _ _ _ _ _ _
  refine aA ?_;rw[Nj (show (wds b).length<=i by first|omega|(simp;done)|(simp;omega)),show i=l.length by omega] at inv
  have hE:aD l=a-b:=pr L (by have hb_:ai (2^64) (wds b)=b:=a7 b;rw[<-hb_];exact inv) oM hbo;obtain ⟨_,e,X,br,bl⟩:=e.pub 1;replace e:=(e.to [⟨u,42,(wds b).flatMap aq⟩,⟨B,44,[uV 0,eS]⟩,⟨D,44,nc b⟩,⟨C,44,nc a⟩] []).aS (SlO.of_flat (sz:=1) (f:=aq) (d:=0) (b:=j) (o:=0) (l:=l) (fun _=>rfl) X);exact lL e ac (ar 57 e (dM (sB j) ((wds a).length) (l) ((wds a).length) ((a-b)) (by first|rfl|assumption|(simp;done)|(simp;omega)|omega) (L) (hE) sM sM _ _ e.g e.f.1) (fun _ _ e=>lP 1 0 (nc (a-b)) e (fun _ e=>lL e ac (ae e [(1,0,2)] (.tuple #[nv (a-b),qT]) rfl))))
 have ze:=oT Y;refine lB 32 Y (ag (ck (cK (cQ (kZ (aa e ax (aG (lL e ac (ag (aa e [.c,.c,.v (nV ((wds b).length))] ?_))))))))));cases Z:(decide ((i:Int)<(((wds b).length:Nat):Int)))
 .
  have zf:=oF Z;refine lB 37 Z (ah (cK (kQ (lL e m4 (lX 47 (sB j) ((wds a).length) ((wds a).length) 1 (i:Nat) i rfl ?_)))));refine lQ 48 1 l aq 1 0 i (mV ((l).getD i 0)) e oM (lL e ax ?_);obtain ⟨y,zc,b5,bz,bm,K⟩:=jz ((l).getD i 0) 0 I wM wM oM;refine lV 51 (.tuple #[mV y,mV zc]) ?_ (hr:=eL kR (K _));refine lL e [.c,.v (mV y),.v (mV zc)] (lX 54 (sB j) ((wds a).length) ((wds a).length) 1 (i:Nat) i rfl ?_);refine lW 1 l aq 1 i y e oM (fun _ e=>?_);have zj:((l).set i y).length=(wds a).length:=by rw[NI];exact O
  replace e:=e.to [⟨u,42,(wds b).flatMap aq⟩,⟨j,42,((l).set i y).flatMap aq⟩,⟨B,44,[uV 0,eS]⟩,⟨D,44,nc b⟩,⟨C,44,nc a⟩] [];refine lL e ac (lN (kQ (bw 55 ((i:Nat)+1) (i+1) ?_)));refine lL e ac (lD ?_);intro a_ ka;refine ⟨_,_,?_,⟨i+1,(l).set i y,zc,zg,rfl,rfl,e.to _ _,oM,zj,(L.set _ oM),oM,(i5 oM inv (by first|omega|(have hy0:=cB (l:=(wds b:List Nat)) (k:=i) (by first|omega|(simp;done));omega)))⟩,ka.to _ kR⟩
  omega
 have zf:=oT Z;refine lB 37 Z (ak (kQ (lL e ax (lX 40 (sB u) ((wds b).length) ((wds b).length) 1 (i:Nat) i rfl ?_))));refine lQ 41 0 (wds b) aq 1 0 i (mV ((wds b).getD i 0)) e oM (lL e ac (lN (kQ (lL e m4 (lX 47 (sB j) ((wds a).length) ((wds a).length) 1 (i:Nat) i rfl ?_)))));refine lQ 48 1 l aq 1 0 i (mV ((l).getD i 0)) e oM (lL e ax ?_);obtain ⟨x,zd,b3,bq,bj,U⟩:=jz ((l).getD i 0) ((wds b).getD i 0) I wM wM oM;refine lV 51 (.tuple #[mV x,mV zd]) ?_ (hr:=eL kR (U _));refine lL e [.c,.v (mV x),.v (mV zd)] (lX 54 (sB j) ((wds a).length) ((wds a).length) 1 (i:Nat) i rfl ?_);refine lW 1 l aq 1 i x e oM (fun _ e=>?_);have zk:((l).set i x).length=(wds a).length:=by rw[NI];exact O
 replace e:=e.to [⟨u,42,(wds b).flatMap aq⟩,⟨j,42,((l).set i x).flatMap aq⟩,⟨B,44,[uV 0,eS]⟩,⟨D,44,nc b⟩,⟨C,44,nc a⟩] [];refine lL e ac (lN (kQ (bw 55 ((i:Nat)+1) (i+1) ?_)));refine lL e ac (lD ?_);intro a_ ka;refine ⟨_,_,?_,⟨i+1,(l).set i x,zd,zg,rfl,rfl,e.to _ _,oM,zk,(L.set _ oM),oM,(i5 oM inv (by first|omega|(have hy0:=cB (l:=(wds b:List Nat)) (k:=i) (by first|omega|(simp;done));omega)))⟩,ka.to _ kR⟩
 omega
theorem Kk (a)(U:(wds a).length<=(10^9))(has:(2^64)<=a)(w h)(g:G w h):CV 148 #[nv a,nv 0] w h (.tuple #[nv a,.bool true]):=by
 have e:=sS g;have hcl:=f0 (show 0<=a by omega);refine go Tryz.func148 [(0,nv a),(1,nv 0)] rfl (aA (lA 2 44 (nc a) e (fun D w2 h3 e=>lA 3 44 (nc 0) e (fun F w5 h6 e=>lA 4 44 ([uV 0,eS]) e (fun B w8 h9 e=>lL e ac (ag (aa e [.o (nv a) 2 0 2,.o (nv 0) 1 0 2] (ar 13 e (mM a 0 U (by simp[nS]) _ _ e.g) (fun zg _ e=>?_)))))))));have ⟨zd,Q⟩:=dF (p:=(bY a 0:Int)<(0:Int)) oM;refine lB 14 zd (ah (cK (cQ (aa e [.v (qP D 1),.o (.string (hi a)) 2 1 1] (lV 18 qF ?_ (hr:=rb kR (jH (fV has))))))));refine ah (cK (cQ ?_));obtain ⟨C,hK_⟩:∃ C,C=zg.heap.size:=⟨_,rfl⟩;have bb:B<C:=by rw[hK_];exact fE e 0
 have y:F<C:=by rw[hK_];exact fE e 1
 have z:D<C:=by rw[hK_];exact fE e 2
 refine xE ⟨[],some (C,[])⟩ 0 mixed ?_;have bn:=e.g.size;replace e:=e.drew;have u:=N4 hK_;refine zO 0 25 [(2,0,2)] (nv a) rfl u e (fun p Y=>by obtain rfl:=ti.1 Y;exact z) (zO 2 27 [(1,0,2)] (nv 0) rfl u e (fun p Y=>by obtain rfl:=ti.1 Y;exact y) (sO 1 26 (gF a oM oM _ _ e.g) rfl u ?_));rintro _ _ _ u15 u ⟨j,rfl,K,I,bk⟩;obtain ⟨_,e,-,-⟩:=e.take u15 K I;replace e:=e.to [⟨j,42,(wds a).flatMap aq⟩,⟨B,44,[uV 0,eS]⟩,⟨F,44,nc 0⟩,⟨D,44,nc a⟩] [];refine sO 3 28 (ml _ _ e.g) rfl u ?_;rintro _ _ zi S u rfl;replace e:=e.step S;refine zV 4 6 (qS (sB j) ((wds a).length) ((wds a).length)) (zV 5 7 (sZ) (rm (lL e ac (ag (aa e [.c,.v (nV ((wds a).length)),.c] (aZ ?_))))));refine bH _ (CG.loop (fun Z Γ w_=>∃ (i:Nat)(l:List Nat)(H:Nat)(h_:Hp),Z=(wds a).length-i/\Γ=[(4,pB B),(5,qF),(6,qS (sB j) ((wds a).length) ((wds a).length)),(7,sZ),(30,nV ((wds a).length)),(31,nV i),(8,mV H)]/\SS w h w_ h_ [⟨j,42,(l).flatMap aq⟩,⟨B,44,[uV 0,eS]⟩,⟨F,44,nc 0⟩,⟨D,44,nc a⟩] [] []/\i<=(wds a).length/\l.length=(wds a).length/\Wd l/\H<=1/\ai (2^64) l+ai (2^64) (([]:List Nat).take i)=a+(2^64)^i*H) _ ⟨0,wds a,0,zi,rfl,rfl,e.to _ _,NY _,rfl,Wd.wds _,oM,(by have X:ai (2^64) (wds a)=a:=a7 _;rw[X];simp[ai])⟩ ?_);rintro _ _ _ ⟨i,l,H,zj,br,rfl,e,hi,hll,M,W,inv⟩;have hlk:=M.get i;have hyk:=Wd.get (l:=[]) Dg.nil i;refine aA ?_;cases O:(decide ((i:Int)<(((wds a).length:Nat):Int)))
 .
  have zc:=oF O;refine lB 32 O (ag (dE (CG.exit ?_)))
  show CG _ _ _ _ _ _ _ _
  refine aA ?_;rw[List.take_nil,show i=l.length by omega] at inv
  have hE:aD l=a:=pr (b:=0) M inv oM W;obtain ⟨_,e,J,bd,bq⟩:=e.pub 0;replace e:=(e.to [⟨B,44,[uV 0,eS]⟩,⟨F,44,nc 0⟩,⟨D,44,nc a⟩] []).aS (SlO.of_flat (sz:=1) (f:=aq) (d:=0) (b:=j) (o:=0) (l:=l) (fun _=>rfl) J);exact lL e ac (ar 57 e (dM (sB j) ((wds a).length) (l) ((wds a).length) (a) (by first|rfl|assumption|(simp;done)|(simp;omega)|omega) (M) (hE) sM sM _ _ e.g e.f.1) (fun _ _ e=>lP 0 0 (nc a) e (fun _ e=>lL e ac (ae e [(0,0,2)] (.tuple #[nv a,qT]) rfl))))
 have zc:=oT O;refine lB 32 O (ag (ck (cK (cQ (kZ (aa e ax (aG (lL e ac (ag (aa e [.c,.c,.v (iV 0)] ?_))))))))));have ⟨ze,V⟩:=dF (p:=(i:Int)<(0:Int)) oM;refine lB 37 ze (ah (cK (kQ (lL e m4 (lX 47 (sB j) ((wds a).length) ((wds a).length) 1 (i:Nat) i rfl ?_)))));refine lQ 48 0 l aq 1 0 i (mV ((l).getD i 0)) e oM (lL e ax ?_);obtain ⟨x,zb,bj,bm,bl,L⟩:=jz ((l).getD i 0) 0 H wM wM oM;refine lV 51 (.tuple #[mV x,mV zb]) ?_ (hr:=eL kR (L _));refine lL e [.c,.v (mV x),.v (mV zb)] (lX 54 (sB j) ((wds a).length) ((wds a).length) 1 (i:Nat) i rfl ?_);refine lW 0 l aq 1 i x e oM (fun _ e=>?_);have zf:((l).set i x).length=(wds a).length:=by rw[NI];exact hll
 replace e:=e.to [⟨j,42,((l).set i x).flatMap aq⟩,⟨B,44,[uV 0,eS]⟩,⟨F,44,nc 0⟩,⟨D,44,nc a⟩] [];refine lL e ac (lN (kQ (bw 55 ((i:Nat)+1) (i+1) ?_)));refine lL e ac (lD ?_);intro a_ ka;refine ⟨_,_,?_,⟨i+1,(l).set i x,zb,zj,rfl,rfl,e.to _ _,oM,zf,(M.set _ oM),oM,(i5 oM inv (by first|omega|(have hy0:=cB (l:=([]:List Nat)) (k:=i) (by first|omega|(simp;done));omega)))⟩,ka.to _ kR⟩
 omega
theorem D4 (a b)(e:b<=a)(c:(wds a).length<=(10^9))(d:(wds b).length<=(10^9))(w h)(g:G w h):CV 148 #[nv a,nv b] w h (.tuple #[nv (a-b),.bool true]):=by
 rcases ea a (2^64) with h1|h1
 ·exact JF a b c d e h1 w h g
 ·rcases B2 b with h3|h3
  ·subst h3;exact Kk a c h1 w h g
  ·exact KP a b c d e h1 h3 w h g
theorem Kt (a b)(L:(wds a).length<=(10^9))(M:(wds b).length<=(10^9))(has:a<(2^64))(u:b<(2^64))(w h)(g:G w h):CV 61 #[nv a,nv b] w h (nv (a*b)):=by
 have e:=sS g;have z:=Am has;have B:=Am u;refine go Tryz.func61 [(0,nv a),(1,nv b)] rfl (aA (lA 2 44 (nc a) e (fun I w2 S e=>lA 3 44 (nc b) e (fun C U Q e=>lA 4 44 ([uV 0,eS]) e (fun V W O e=>ag (aa e [.v (qP I 1),.o (.string (hi a)) 2 1 1] (lV 9 qT ?_ (hr:=rb kR (kp (fx has))))))))));refine lL e [.c,.v (qP C 1),.o (.string (hi b)) 1 1 1] (lV 13 qT ?_ (hr:=rb kR (kp (fx u))));refine lL e [.v qT] (ak (aa e [.v (pB I),.o (mV (a%(2^64))) 2 0 1,.v (pB C),.o (mV (b%(2^64))) 1 0 1] (lC 20 e (qg (a%(2^64)) (b%(2^64)) wM wM _ _ e.g) ?_)));rintro _ _ _ e ⟨i,j,rfl,p,F,H,D⟩;have y:=ko (a:=(a%(2^64))) (b:=(b%(2^64))) wM wM;refine lL e [.c,.v (mV i),.v (mV j),.c,.c] (ag (aA ?_));rw[z,B] at p
 refine lL e ac ?_;cases x:((i:Int) == (0:Int))
 .
  have J:=aj x;refine lB 24 x (ah (cK (aa e ax (lR 29 42 2 ([mV j,mV i]) e (fun K _ _ e=>?_)))));replace e:=e.aS (SlO.of_flat (sz:=1) (f:=aq) (d:=0) (l:=[j,i]) (fun _=>rfl) e.f.1);exact ar 30 e (dM (sB K) 2 ([j,i]) 2 ((a*b)) (by first|rfl|assumption|(simp;done)|(simp;omega)|omega) (Dg.cons oM (Dg.one oM)) (by show j+(2^64)*(i+(2^64)*0)=a*b;omega) sM sM _ _ e.g e.f.1) (fun _ _ e=>lP 0 0 (nc (a*b)) e (fun _ e=>ae e [(0,0,2)] (nv (a*b)) rfl))
 have J:=eq_of_beq x;exact lB 24 x (ak (aa e [.c,.v (.agg #[mV j,eS])] (lP 0 0 ([mV j,eS]) e (fun _ e=>ae e [(0,0,2)] (.agg #[mV j,eS]) (by rw[show j=a*b by omega];exact jU oM)))))
theorem KM (a b)(F:(wds a).length<=(10^9))(I:(wds b).length<=(10^9))(has:(2^64)<=a)(w h)(g:G w h):CV 61 #[nv a,nv b] w h (nv (a*b)):=by
 have c:=sS g;refine go Tryz.func61 [(0,nv a),(1,nv b)] rfl (aA (lA 2 44 (nc a) c (fun K w2 S c=>lA 3 44 (nc b) c (fun M U Q c=>lA 4 44 ([uV 0,eS]) c (fun V W O c=>ag (aa c [.v (qP K 1),.o (.string (hi a)) 2 1 1] (lV 9 qF ?_ (hr:=rb kR (jH (fV has))))))))));refine lL c ac (lG 11 ?_);refine lG 12 (lG 13 (lL c [.v qF] (ah (cK (cQ (cR 6 [] mixed c ao ?_))))));refine eO 0 31 [(2,0,2)] (nv a) c (eO 2 33 [(1,0,2)] (nv b) c (eC 1 32 c (fun _ _ c=>gL a oM _ _ c.g) ?_));rintro _ _ _ _ _ c ⟨l,i,rfl,z,j⟩;replace c:=c.aS j;refine eC 3 34 c (fun _ _ c=>gL b oM _ _ c.g) ?_;rintro _ _ _ _ _ c ⟨d,e,rfl,y,x⟩;replace c:=c.aS x;refine eC 4 35 c (fun _ _ c=>Fy l i (wds a) d e (wds b) (Wd.wds a) (Wd.wds b) oM oM _ _ c.g c.f.2.1 c.f.1) ?_;rintro _ _ _ _ _ c ⟨C,L,B,rfl,D,H,p,u,J⟩;replace c:=c.aS J;exact au 5 36 c (fun _ _ c=>dM C L (B) B.length ((a*b)) (by first|rfl|assumption|(simp;done)|(simp;omega)|omega) (p) (u.trans (by rw[a7,a7])) sM sM _ _ c.g c.f.1) (fun _ _ c=>bM c (fun _ _ c=>tP 6 0 0 (nc (a*b)) c (fun _ c=>tN (kX (c.ret [(0,0,2)] (nv (a*b)) rfl)))))
theorem Kc (a b)(J:(wds a).length<=(10^9))(L:(wds b).length<=(10^9))(has:a<(2^64))(z:(2^64)<=b)(w h)(g:G w h):CV 61 #[nv a,nv b] w h (nv (a*b)):=by
 have d:=sS g;refine go Tryz.func61 [(0,nv a),(1,nv b)] rfl (aA (lA 2 44 (nc a) d (fun O w2 V d=>lA 3 44 (nc b) d (fun F W U d=>lA 4 44 ([uV 0,eS]) d (fun X Y S d=>ag (aa d [.v (qP O 1),.o (.string (hi a)) 2 1 1] (lV 9 qT ?_ (hr:=rb kR (kp (fx has))))))))));refine lL d [.c,.v (qP F 1),.o (.string (hi b)) 1 1 1] (lV 13 qF ?_ (hr:=rb kR (jH (fV z))));refine lL d [.v qF] (ah (cK (cQ (cR 6 [] mixed d ao ?_))));refine eO 0 31 [(2,0,2)] (nv a) d (eO 2 33 [(1,0,2)] (nv b) d (eC 1 32 d (fun _ _ d=>gL a oM _ _ d.g) ?_));rintro _ _ _ _ _ d ⟨p,j,rfl,C,l⟩;replace d:=d.aS l;refine eC 3 34 d (fun _ _ d=>gL b oM _ _ d.g) ?_;rintro _ _ _ _ _ d ⟨e,i,rfl,B,y⟩;replace d:=d.aS y;refine eC 4 35 d (fun _ _ d=>Fy p j (wds a) e i (wds b) (Wd.wds a) (Wd.wds b) oM oM _ _ d.g d.f.2.1 d.f.1) ?_;rintro _ _ _ _ _ d ⟨H,Q,D,rfl,I,K,u,x,M⟩;replace d:=d.aS M;exact au 5 36 d (fun _ _ d=>dM H Q (D) D.length ((a*b)) (by first|rfl|assumption|(simp;done)|(simp;omega)|omega) (u) (x.trans (by rw[a7,a7])) sM sM _ _ d.g d.f.1) (fun _ _ d=>bM d (fun _ _ d=>tP 6 0 0 (nc (a*b)) d (fun _ d=>tN (kX (d.ret [(0,0,2)] (nv (a*b)) rfl)))))
theorem qU (a b)(d:(wds a).length<=(10^9))(c:(wds b).length<=(10^9))(w h)(g:G w h):CV 61 #[nv a,nv b] w h (nv (a*b)):=by
 rcases ea a (2^64) with h1|h1
 ·rcases ea b (2^64) with h2|h2
  ·exact Kt a b d c h1 h2 w h g
  ·exact Kc a b d c h1 h2 w h g
 ·exact KM a b d c h1 w h g
theorem GJ (a b)(I:0<b)(M:(wds a).length<=(10^9))(F:(wds b).length<=(10^9))(has:a<(2^64))(l:b<(2^64))(w h)(g:G w h):CV 101 #[nv a,nv b] w h (.tuple #[nv (a/b),nv (a%b),.bool true]):=by
 have d:=sS g;have J:=(cI I).2.2;have L:=Am l;refine go Tryz.func101 [(0,nv a),(1,nv b)] rfl (aA (lA 2 44 (nc a) d (fun H w2 V d=>lA 3 44 (nc b) d (fun B W U d=>lA 4 44 ([uV 0,eS]) d (fun O X S d=>lA 5 44 ([uV 0,eS]) d (fun Q _ _ d=>lL d ac (ag (aa d [.o (nv b) 2 0 2] (ar 12 d (gl b F _ _ d.g) (fun _ _ d=>?_))))))))));have K:(((nb b:Nat):Int) == (0:Int))=false:=fB oM;have D:=aj K;refine lB 13 K (ah (cK (cQ (aa d [.v (qP H 1),.o (.string (hi a)) 3 1 1] (lV 18 qT ?_ (hr:=rb kR (kp (fx has))))))));refine lL d [.c,.v (qP B 1),.o (.string (hi b)) 2 1 1] (lV 22 qT ?_ (hr:=rb kR (kp (fx l))));refine lL d [.v qT] (ak (cQ ?_));have z:=d;refine Gh 12 [] [O,Q] mixed d ao (eV 0 24 (pB H) (eO 1 25 [(3,0,1)] (mV (a%(2^64))) d (eV 2 26 (pB B) (eO 3 27 [(2,0,1)] (mV (b%(2^64))) d (eV 4 28 (mV ((a%(2^64))/(b%(2^64)))) ?_ (hv:=fun _=>aK (dU (t:=42) (u:=42) (x:=.tmp 25) (y:=.tmp 27) (k:=.u64) (a:=((a%(2^64):Nat):Int)) (b:=((b%(2^64):Nat):Int)) kR kR kR oM _) (lk (a%(2^64)) (b%(2^64)) oM)))))));refine eV 5 29 (.agg #[mV ((a%(2^64))/(b%(2^64))),eS]) (eV 6 30 (pB H) (Dj 7 31 [(3,0,1)] (mV (a%(2^64))) z d ?_ (hM:=fun p C=>by obtain rfl:=ti.1 C;exact fun f=>by rcases hC.1 f with e|f;exact gU d.st (i:=3) (j:=1) kR kR kR e;rcases hC.1 f with e|f;exact gU d.st (i:=3) (j:=0) kR kR kR e;cases f)));refine eV 8 32 (pB B) (Dj 9 33 [(2,0,1)] (mV (b%(2^64))) z d ?_ (hM:=fun p C=>by obtain rfl:=ti.1 C;exact fun f=>by rcases hC.1 f with e|f;exact gU d.st (i:=2) (j:=1) kR kR kR e;rcases hC.1 f with e|f;exact gU d.st (i:=2) (j:=0) kR kR kR e;cases f));refine eV 10 34 (mV ((a%(2^64))%(b%(2^64)))) ?_ (hv:=fun _=>aK (fP (t:=42) (u:=42) (x:=.tmp 31) (y:=.tmp 33) (k:=.u64) (a:=((a%(2^64):Nat):Int)) (b:=((b%(2^64):Nat):Int)) kR kR kR oM _) (dH (a%(2^64)) (b%(2^64))));refine eV 11 35 (.agg #[mV ((a%(2^64))%(b%(2^64))),eS]) (bM d (fun _ _ d=>tP 12 1 0 ([mV ((a%(2^64))/(b%(2^64))),eS]) d (fun _ d=>?_) (hz:=gN (N5))));refine tP 13 0 0 ([mV ((a%(2^64))%(b%(2^64))),eS]) d (fun _ d=>?_) (hz:=gN (N6 _<|N5));exact tV 14 6 qT (tN (kX (d.ret [(1,0,2),(0,0,2)] (.tuple #[.agg #[mV ((a%(2^64))/(b%(2^64))),eS],.agg #[mV ((a%(2^64))%(b%(2^64))),eS],qT]) (by rw[Am has,Am l,jU (show a/b<(2^64) by have:=L2 a b;omega),jU (show a%b<(2^64) by have:=As a I;omega)]))))
theorem KV (a b)(hb:0<b)(H:(wds a).length<=(10^9))(L:(wds b).length<=(10^9))(has:(2^64)<=a)(C:b<(2^64))(w h)(g:G w h):CV 101 #[nv a,nv b] w h (.tuple #[nv (a/b),nv (a%b),.bool true]):=by
 have i:=sS g;have bl:=(cI hb).2.2;have bn:=Am C;have hcl:=f0 (show b<=a by omega);refine go Tryz.func101 [(0,nv a),(1,nv b)] rfl (aA (lA 2 44 (nc a) i (fun Q w2 h3 i=>lA 3 44 (nc b) i (fun D w5 h6 i=>lA 4 44 ([uV 0,eS]) i (fun V w8 h9 i=>lA 5 44 ([uV 0,eS]) i (fun U _ _ i=>lL i ac (ag (aa i [.o (nv b) 2 0 2] (ar 12 i (gl b L _ _ i.g) (fun _ _ i=>?_))))))))));have zb:(((nb b:Nat):Int) == (0:Int))=false:=fB oM;have bd:=aj zb;refine lB 13 zb (ah (cK (cQ (aa i [.v (qP Q 1),.o (.string (hi a)) 3 1 1] (lV 18 qF ?_ (hr:=rb kR (jH (fV has))))))));refine lL i ac (lG 20 ?_);refine lG 21 (lG 22 (lL i [.v qF] (ah (cK (cQ (aa i [.o (nv a) 3 0 2,.o (nv b) 2 0 2] (ar 38 i (mM a b H L _ _ i.g) (fun zd _ i=>?_))))))));have ⟨zc,bb⟩:=dF (p:=(bY a b:Int)<(0:Int)) oM;refine lB 39 zc (ah (cK (cQ (aa i [.v (qP D 1),.o (.string (hi b)) 2 1 1] (lV 44 qT ?_ (hr:=rb kR (kp (fx C))))))));refine ak (cQ ?_);obtain ⟨B,hK_⟩:∃ B,B=zd.heap.size:=⟨_,rfl⟩;have S:U<B:=by rw[hK_];exact fE i 0
 have bj:V<B:=by rw[hK_];exact fE i 1
 have x:D<B:=by rw[hK_];exact fE i 2
 have y:Q<B:=by rw[hK_];exact fE i 3
 refine xE ⟨[],some (B,[])⟩ 0 mixed ?_;have bm:=i.g.size;replace i:=i.drew;have u:=N4 hK_;refine zO 0 46 [(3,0,2)] (nv a) rfl u i (fun p hp=>by obtain rfl:=ti.1 hp;exact y) (zV 2 48 (pB D) (zO 3 49 [(2,0,1)] (mV (b%(2^64))) rfl u i (fun p hp=>by obtain rfl:=ti.1 hp;exact x) (sO 1 47 (gF a oM oM _ _ i.g) rfl u ?_)));rintro _ _ _ Y u ⟨j,rfl,M,K,bk⟩;obtain ⟨_,i,-,-⟩:=i.take Y M K;replace i:=i.to [⟨j,42,(wds a).flatMap aq⟩,⟨U,44,[uV 0,eS]⟩,⟨V,44,[uV 0,eS]⟩,⟨D,44,nc b⟩,⟨Q,44,nc a⟩] [];refine ME 4 50 (Kl j (wds a) (wds a).length (b%(2^64)) oM oM (Wd.wds a) H (nR _) _ _ i.g (i.own 0) (i.jk 0)) rfl u oM ?_;rintro _ _ _ u25 u ⟨z,r,rfl,hzl,X,I,O,Z⟩;replace i:=(i.stepM 0 u25 Z).to [⟨j,42,(z).flatMap aq⟩,⟨U,44,[uV 0,eS]⟩,⟨V,44,[uV 0,eS]⟩,⟨D,44,nc b⟩,⟨Q,44,nc a⟩] [];refine zV 5 45 (.tuple #[qS (sB j) (tl z z.length) ((wds a).length),mV r]) (zV 6 51 (qS (sB j) (tl z z.length) ((wds a).length)) (zV 7 52 (mV r) (zV 8 7 (qS (sB j) (tl z z.length) ((wds a).length)) (zV 9 8 (mV r) (rm ?_)))));have J:=Am C;rw[a7,J] at I
 rw[J] at O;obtain ⟨W,hq2⟩:=FB I O;have htz:=iN z z.length;have hQ:aD (z.take (tl z z.length))=a/b:=by have e:=kC (2^64) z z.length (nR _);rw[y8] at e;exact e.trans W
 obtain ⟨_,i,F,br,bq⟩:=i.pub 0;replace i:=(i.to [⟨U,44,[uV 0,eS]⟩,⟨V,44,[uV 0,eS]⟩,⟨D,44,nc b⟩,⟨Q,44,nc a⟩] []).aS (SlO.of_flat (sz:=1) (f:=aq) (d:=0) (b:=j) (o:=0) (l:=z) (fun _=>rfl) F);exact lL i ac (ar 54 i (dM (sB j) ((wds a).length) (z.take (tl z z.length)) (tl z z.length) ((a/b)) (by first|rfl|assumption|(simp;done)|(simp;omega)|omega) (Dg.take X _) (hQ) sM sM _ _ i.g ((i.f.1).take _)) (fun _ _ i=>lL i [.c,.v (.agg #[mV r,eS])] (lP 1 0 (nc (a/b)) i (fun _ i=>lP 0 0 ([mV r,eS]) i (fun _ i=>lL i ac (ae i [(1,0,2),(0,0,2)] (.tuple #[nv (a/b),.agg #[mV r,eS],qT]) (by rw[hq2,jU (by have:=As a hb;omega)])))))))
theorem J9 (a b)(V:0<b)(e:(wds a).length<=(10^9))(i:(wds b).length<=(10^9))(d:b<=a)(has:(2^64)<=a)(j:(2^64)<=b)(w h)(g:G w h):CV 101 #[nv a,nv b] w h (.tuple #[nv (a/b),nv (a%b),.bool true]):=by
 have c:=sS g;have W:=(cI V).2.2;have hcl:=f0 d;have hlm:=dr d;have hl2:=dl j;refine go Tryz.func101 [(0,nv a),(1,nv b)] rfl (aA (lA 2 44 (nc a) c (fun b1 w2 h3 c=>lA 3 44 (nc b) c (fun Z w5 h6 c=>lA 4 44 ([uV 0,eS]) c (fun b7 w8 h9 c=>lA 5 44 ([uV 0,eS]) c (fun b10 _ _ c=>lL c ac (ag (aa c [.o (nv b) 2 0 2] (ar 12 c (gl b i _ _ c.g) (fun _ _ c=>?_))))))))));have Y:(((nb b:Nat):Int) == (0:Int))=false:=fB oM;have L:=aj Y;refine lB 13 Y (ah (cK (cQ (aa c [.v (qP b1 1),.o (.string (hi a)) 3 1 1] (lV 18 qF ?_ (hr:=rb kR (jH (fV has))))))));refine lL c ac (lG 20 ?_);refine lG 21 (lG 22 (lL c [.v qF] (ah (cK (cQ (aa c [.o (nv a) 3 0 2,.o (nv b) 2 0 2] (ar 38 c (mM a b e i _ _ c.g) (fun _ _ c=>?_))))))));have ⟨zb,K⟩:=dF (p:=(bY a b:Int)<(0:Int)) oM;refine lB 39 zb (ah (cK (cQ (aa c [.v (qP Z 1),.o (.string (hi b)) 2 1 1] (lV 44 qF ?_ (hr:=rb kR (jH (fV j))))))));refine ah (cK (cQ (cR 8 [] mixed c ao ?_)));refine eO 0 58 [(3,0,2)] (nv a) c (eO 2 60 [(2,0,2)] (nv b) c (eC 1 59 c (fun _ _ c=>gL a oM _ _ c.g) ?_));rintro _ _ _ _ _ c ⟨M,H,rfl,X,J⟩;replace c:=c.aS J;refine eC 3 61 c (fun _ _ c=>gL b oM _ _ c.g) ?_;rintro _ _ _ _ _ c ⟨z,F,rfl,U,S⟩;replace c:=c.aS S;refine eC 4 62 c (fun _ _ c=>Ir M H (wds a) z F (wds b) (Wd.wds a) (Wd.wds b) e oM oM (ni V) _ _ c.g c.f.2.1 c.f.1) ?_;rintro _ _ _ _ _ c ⟨u,x,q,y,l,r,rfl,hcq,hcr,O,I,B,Q,hlq,hlr,D,C⟩;replace c:=c.aP D C;exact eV 5 57 (.tuple #[qS u q.length x,qS y r.length l]) (eV 6 63 (qS u q.length x) (eV 7 64 (qS y r.length l) (bM c (fun _ _ c=>tV 8 9 (qS u q.length x) (tV 9 10 (qS y r.length l) (rm (lL c ac (ar 66 c (dM u x (q) q.length ((a/b)) (by first|rfl|assumption|(simp;done)|(simp;omega)|omega) (O) (B.trans (by rw[a7,a7])) sM sM _ _ c.g c.f.2.1) (fun _ _ c=>lL c ac (ar 68 c (dM y l (r) r.length ((a%b)) (by first|rfl|assumption|(simp;done)|(simp;omega)|omega) (I) (Q.trans (by rw[a7,a7])) sM sM _ _ c.g c.f.1) (fun _ _ c=>lP 1 0 (nc (a/b)) c (fun _ c=>lP 0 0 (nc (a%b)) c (fun _ c=>lL c ac (ae c [(1,0,2),(0,0,2)] (.tuple #[nv (a/b),nv (a%b),qT]) rfl))))))))))))))
theorem JO (a b)(K:0<b)(x:(wds a).length<=(10^9))(l:(wds b).length<=(10^9))(f:a<b)(has:a<(2^64))(C:(2^64)<=b)(w h)(g:G w h):CV 101 #[nv a,nv b] w h (.tuple #[nv (a/b),nv (a%b),.bool true]):=by
 have d:=sS g;have D:=(cI K).2.2;have J:=ei f;refine go Tryz.func101 [(0,nv a),(1,nv b)] rfl (aA (lA 2 44 (nc a) d (fun Q w2 V d=>lA 3 44 (nc b) d (fun H W U d=>lA 4 44 ([uV 0,eS]) d (fun M X S d=>lA 5 44 ([uV 0,eS]) d (fun I _ _ d=>lL d ac (ag (aa d [.o (nv b) 2 0 2] (ar 12 d (gl b l _ _ d.g) (fun _ _ d=>?_))))))))));have F:(((nb b:Nat):Int) == (0:Int))=false:=fB oM;have z:=aj F;refine lB 13 F (ah (cK (cQ (aa d [.v (qP Q 1),.o (.string (hi a)) 3 1 1] (lV 18 qT ?_ (hr:=rb kR (kp (fx has))))))));refine lL d [.c,.v (qP H 1),.o (.string (hi b)) 2 1 1] (lV 22 qF ?_ (hr:=rb kR (jH (fV C))));refine lL d [.v qF] (ah (cK (cQ (aa d [.o (nv a) 3 0 2,.o (nv b) 2 0 2] (ar 38 d (mM a b x l _ _ d.g) (fun _ _ d=>?_))))));have ⟨O,y⟩:=dT (p:=(bY a b:Int)<(0:Int)) oM;refine lB 39 O (ak (cQ ?_));have B:=d;refine Gh 2 [] [M,I] mixed d ao (eV 0 40 (.agg #[uV 0,eS]) (Dj 1 41 [(3,0,2)] (nv a) B d ?_ (hM:=fun p L=>by obtain rfl:=ti.1 L;exact fun u=>by rcases hC.1 u with e|u;exact gU d.st (i:=3) (j:=1) kR kR kR e;rcases hC.1 u with e|u;exact gU d.st (i:=3) (j:=0) kR kR kR e;cases u)));refine bM d (fun _ _ d=>tP 2 1 0 ([uV 0,eS]) d (fun _ d=>?_) (hz:=gN (N5)));refine tP 3 0 0 (nc a) d (fun _ d=>?_) (hz:=gN (N6 _<|N5));exact tV 4 6 qT (tN (kX (d.ret [(1,0,2),(0,0,2)] (.tuple #[.agg #[uV 0,eS],nv a,qT]) (by have f:a<b:=(by rcases ea a b with h_|h_;exact h_;rcases f0 h_ with e|e<;>omega);rw[MN f,Am f];rfl))))
theorem Jr (a b)(H:0<b)(u:(wds a).length<=(10^9))(f:(wds b).length<=(10^9))(d:a<b)(has:(2^64)<=a)(w h)(g:G w h):CV 101 #[nv a,nv b] w h (.tuple #[nv (a/b),nv (a%b),.bool true]):=by
 have c:=sS g;have B:=(cI H).2.2;have F:=ei d;refine go Tryz.func101 [(0,nv a),(1,nv b)] rfl (aA (lA 2 44 (nc a) c (fun L w2 S c=>lA 3 44 (nc b) c (fun M U Q c=>lA 4 44 ([uV 0,eS]) c (fun J V O c=>lA 5 44 ([uV 0,eS]) c (fun D _ _ c=>lL c ac (ag (aa c [.o (nv b) 2 0 2] (ar 12 c (gl b f _ _ c.g) (fun _ _ c=>?_))))))))));have C:(((nb b:Nat):Int) == (0:Int))=false:=fB oM;have y:=aj C;refine lB 13 C (ah (cK (cQ (aa c [.v (qP L 1),.o (.string (hi a)) 3 1 1] (lV 18 qF ?_ (hr:=rb kR (jH (fV has))))))));refine lL c ac (lG 20 ?_);refine lG 21 (lG 22 (lL c [.v qF] (ah (cK (cQ (aa c [.o (nv a) 3 0 2,.o (nv b) 2 0 2] (ar 38 c (mM a b u f _ _ c.g) (fun _ _ c=>?_))))))));have ⟨K,x⟩:=dT (p:=(bY a b:Int)<(0:Int)) oM;refine lB 39 K (ak (cQ ?_));have z:=c;refine Gh 2 [] [J,D] mixed c ao (eV 0 40 (.agg #[uV 0,eS]) (Dj 1 41 [(3,0,2)] (nv a) z c ?_ (hM:=fun p I=>by obtain rfl:=ti.1 I;exact fun l=>by rcases hC.1 l with e|l;exact gU c.st (i:=3) (j:=1) kR kR kR e;rcases hC.1 l with e|l;exact gU c.st (i:=3) (j:=0) kR kR kR e;cases l)));refine bM c (fun _ _ c=>tP 2 1 0 ([uV 0,eS]) c (fun _ c=>?_) (hz:=gN (N5)));refine tP 3 0 0 (nc a) c (fun _ c=>?_) (hz:=gN (N6 _<|N5));exact tV 4 6 qT (tN (kX (c.ret [(1,0,2),(0,0,2)] (.tuple #[.agg #[uV 0,eS],nv a,qT]) (by have d:a<b:=(by rcases ea a b with h_|h_;exact h_;rcases f0 h_ with e|e<;>omega);rw[MN d,Am d];rfl))))
theorem JW (a b)(e:0<b)(d:(wds a).length<=(10^9))(c:(wds b).length<=(10^9))(w h)(g:G w h):CV 101 #[nv a,nv b] w h (.tuple #[nv (a/b),nv (a%b),.bool true]):=by
 rcases ea a b with hab|hab
 ·rcases ea a (2^64) with h1|h1
  ·rcases ea b (2^64) with h2|h2
   ·exact GJ a b e d c h1 h2 w h g
   ·exact JO a b e d c hab h1 h2 w h g
  ·exact Jr a b e d c hab h1 w h g
 ·rcases ea b (2^64) with h2|h2
  ·rcases ea a (2^64) with h1|h1
   ·exact GJ a b e d c h1 h2 w h g
   ·exact KV a b e d c h1 h2 w h g
  ·exact J9 a b e d c hab oM h2 w h g
theorem kU {z:Int}{b:Bool}{n:Nat}(a:af z=b)(hn:ab z=n):Value.agg #[.bool b,.int .u64 (lo n),.string (hi n)]=iv z:=by subst a hn;rfl
theorem ki {z:Int}{b:Bool}(a:af z=b):iv z=Value.agg #[.bool b,.int .u64 (lo (ab z)),.string (hi (ab z))]:=(kU a rfl).symm
theorem nq (x y):bD (af x != af y) (ab x*ab y)=x*y:=by
 rcases hx:af x with _|_<;>rcases hy:af y with _|_
 ·have h1:=be hx
  have c:=be hy;obtain ⟨a,rfl⟩:=N7 h1;obtain ⟨b,rfl⟩:=N7 c
  simp[bD,ab,N8,N9,Oa]
 ·have h1:=be hx
  have c:=bx hy;obtain ⟨a,rfl⟩:=N7 h1;obtain ⟨b,d⟩:=N7 (a:=-y) oM;obtain rfl:y = -b:=by omega
  simp[bD,ab,N8,N9,Oa]
 ·have h1:=bx hx
  have c:=be hy;obtain ⟨b,rfl⟩:=N7 c;obtain ⟨a,ha⟩:=N7 (a:=-x) oM;obtain rfl:x = -a:=by omega
  simp[bD,ab,N8,N9,Oa]
 ·have h1:=bx hx
  have c:=bx hy;obtain ⟨a,ha⟩:=N7 (a:=-x) oM;obtain ⟨b,d⟩:=N7 (a:=-y) oM;obtain rfl:x = -a:=by omega
  obtain rfl:y = -b:=by omega
  simp[bD,ab,N8,N9,Oa]
theorem lw {a b:Nat}:(wds (a+b)).length<=(wds a).length+(wds b).length+1:=by
 refine fw kD ?_;have h1:=dO a;have d:=dO b;have e:18446744073709551616^(wds a).length<=18446744073709551616^((wds a).length+(wds b).length):=M1 kD oM;have c:18446744073709551616^(wds b).length<=18446744073709551616^((wds a).length+(wds b).length):=M1 kD oM;rw[MP]
 omega
theorem rC {a b k:Nat}(ha:(wds a).length<=k)(c:(wds b).length<=k):(wds (a+b)).length<=k+1:=by
 refine fw kD ?_;have h1:=dO a;have e:=dO b;have f:18446744073709551616^(wds a).length<=18446744073709551616^k:=M1 kD ha;have d:18446744073709551616^(wds b).length<=18446744073709551616^k:=M1 kD c;rw[MP]
 omega
theorem dL {a b:Nat}:(wds (a*b)).length<=(wds a).length+(wds b).length:=by
 refine fw kD ?_;rw[M4];have h1:=dO a;have c:=dO b;exact er (Nat.mul_lt_mul'' h1 c) (Nat.le_refl _)
theorem av {a b k:Nat}(h:a<=b)(c:(wds b).length<=k):(wds a).length<=k:=ep (dr h) c
theorem Cs (a w h)(g:G w h):CV 56 #[.bool false,nv a] w h (iv (bD false a)):=by
 have c:=sS g;refine go Tryz.func56 [(0,qF),(1,nv a)] rfl (aA (lA 3 44 (nc a) c (fun l w2 o c=>lA 4 46 ([qF,uV 0,eS]) c (fun d p j c=>ag (cR 8 [] mixed c ao ?_)))));exact eV 0 5 qF (eV 1 6 qF (eG 2 7 (eG 3 8 (eG 4 9 (eV 5 10 qF (eO 6 11 [(1,0,2)] (nv a) c (eV 7 12 (wX qF a) (bM c (fun i f c=>tP 8 0 0 (wC qF a) c (fun e c=>tN (kX (c.ret [(0,0,3)] (wX qF a) (kU (by rw[kw];rfl) (fH _ _))))))))))))))
theorem Im (p:(wds 0).length<=(10^9))(w h)(g:G w h):CV 56 #[.bool true,nv 0] w h (iv (bD true 0)):=by
 have a:=sS g;have c:nb 0=0:=rfl;refine go Tryz.func56 [(0,qT),(1,nv 0)] rfl (aA (lA 3 44 (nc 0) a (fun o w2 u a=>lA 4 46 ([qF,uV 0,eS]) a (fun d x l a=>ag (cR 8 [] mixed a ao ?_)))));refine eV 0 5 qT (eV 1 6 qT (eO 2 7 [(1,0,2)] (nv 0) a (eO 6 11 [(1,0,2)] (nv 0) a (au 3 8 a (fun _ _ a=>gl 0 aM _ _ a.g) (fun j i a=>eV 4 9 qF ?_ (hv:=fun _=>rb (e:=decide ((0:Int)<((nb 0:Nat):Int))) kR (decide_eq_false oM)))))));exact eV 5 10 qF (eV 7 12 (wX qF 0) (bM a (fun f _ a=>tP 8 0 0 (wC qF 0) a (fun _ a=>tN (kX (a.ret [(0,0,3)] (wX qF 0) (kU (by rw[kw];rfl) (fH _ _))))))))
theorem G2 (a)(ha:0<a)(u:(wds a).length<=(10^9))(w h)(g:G w h):CV 56 #[.bool true,nv a] w h (iv (bD true a)):=by
 have c:=sS g;have d:=(cI ha).2.2;refine go Tryz.func56 [(0,qT),(1,nv a)] rfl (aA (lA 3 44 (nc a) c (fun p w2 x c=>lA 4 46 ([qF,uV 0,eS]) c (fun f y o c=>ag (cR 8 [] mixed c ao ?_)))));refine eV 0 5 qT (eV 1 6 qT (eO 2 7 [(1,0,2)] (nv a) c (eO 6 11 [(1,0,2)] (nv a) c (au 3 8 c (fun _ _ c=>gl a aM _ _ c.g) (fun l j c=>eV 4 9 qT ?_ (hv:=fun _=>rb (e:=decide ((0:Int)<((nb a:Nat):Int))) kR (decide_eq_true oM)))))));exact eV 5 10 qT (eV 7 12 (wX qT a) (bM c (fun i _ c=>tP 8 0 0 (wC qT a) c (fun _ c=>tN (kX (c.ret [(0,0,3)] (wX qT a) (kU (by rw[kw];simpa using ha) (fH _ _))))))))
theorem gE (b:Bool)(a)(c:(wds a).length<=(10^9))(w h)(g:G w h):CV 56 #[.bool b,nv a] w h (iv (bD b a)):=by
 cases b;·exact Cs a w h g
 ·rcases B2 a with h0|h0
  ·subst h0;exact Im c w h g
  ·exact G2 a h0 c w h g
theorem Lh (z)(h0 : -(2^63)<=z)(hz:z<0)(w h)(g:G w h):CV 50 #[iV z] w h (iv z):=by
 have a:=sS g;have e:ab z<=(2^63):=by unfold ab;omega
 refine go Tryz.func50 [(0,iV z)] rfl (aA (lA 2 46 ([qF,uV 0,eS]) a (fun o w2 i a=>ag (aa a ac ?_))));have ⟨c,d⟩:=dT (p:=(z:Int)<(0:Int)) oM;refine lB 4 c (ak (aa a ac (lV 6 (mV ((2^64)-ab z)) ?_ (hr:=rU (z) kR (by rw[IntKind.wrap_u64];unfold ab;omega)))));refine lV 7 (mV (ab z)) ?_ (hr:=rU ((0-(((2^64)-ab z:Nat):Int))) kR (by rw[IntKind.wrap_u64];omega));exact ar 8 a (La (ab z) oM _ _ a.g) (fun j l a=>lL a [.v (wX qT (ab z))] (lP 0 0 (wC qT (ab z)) a (fun f a=>ae a [(0,0,3)] (wX qT (ab z)) (kU (by simp[af,hz]) rfl))))
theorem LJ (n)(h1:n<(2^63))(w h)(g:G w h):CV 50 #[nV n] w h (iv (n:Int)):=by
 have a:=sS g;refine go Tryz.func50 [(0,nV n)] rfl (aA (lA 2 46 ([qF,uV 0,eS]) a (fun l w2 f a=>ag (aa a ac ?_))));have ⟨c,d⟩:=dF (p:=(n:Int)<(0:Int)) oM;refine lB 4 c (ah (cK (aa a ac (lV 11 (mV n) ?_ (hr:=rU ((n:Int)) kR (bh oM oM))))));exact ar 12 a (La n oM _ _ a.g) (fun i j a=>lL a [.v (wX qF n)] (lP 0 0 (wC qF n) a (fun e a=>ae a [(0,0,3)] (wX qF n) (kU (by simp[af]) (by simp[ab])))))
theorem MF (z)(h0 : -(2^63)<=z)(h1:z<=(2^63-1))(w h)(g:G w h):CV 50 #[iV z] w h (iv z):=by
 rcases Int.lt_or_le z 0 with hz|hz
 ·exact Lh z h0 hz w h g
 ·obtain ⟨n,rfl⟩:=N7 hz
  exact LJ n oM w h g
def eZ(x y:Int):Int:=if x<y then -1 else if y<x then 1 else 0
theorem D5 {x y:Int}(h:x<y):eZ x y = -1:=by simp[eZ,h]
theorem Ep {x y:Int}(h:y<x):eZ x y=1:=by unfold eZ;rw[if_neg oM,if_pos h]
theorem D7 {x y:Int}(e:0<=x)(d:0<=y):eZ x y=bY (ab x) (ab y):=by
 unfold eZ bY ab;have a:(x<y)=(x.natAbs<y.natAbs):=by apply propext;omega
 have c:(y<x)=(y.natAbs<x.natAbs):=by apply propext;omega
 simp only[a,c]
theorem EP {x y:Int}(e:x<0)(d:y<0):eZ x y=bY (ab y) (ab x):=by
 unfold eZ bY ab;have a:(x<y)=(y.natAbs<x.natAbs):=by apply propext;omega
 have c:(y<x)=(x.natAbs<y.natAbs):=by apply propext;omega
 simp only[a,c]
theorem Dc (z w h)(g:G w h):CV 105 #[iv z] w h (nv (ab z)):=by
 have a:=sS g;exact go Tryz.func105 [(0,iv z)] rfl (aA (lA 1 46 (ic z) a (fun c w2 i a=>lA 2 44 ([uV 0,eS]) a (fun d j f a=>aG (lL a [.v (qP c 1),.o (nv (ab z)) 1 1 2] (lP 0 0 (nc (ab z)) a (fun e a=>ae a [(0,0,2)] (nv (ab z)) rfl)))))))
theorem Ii (z)(hz:af z=true)(w h)(g:G w h):CV 104 #[wX (.bool true) (ab z)] w h (iV z.sign):=by
 have a:=sS g;exact go Tryz.func104 [(0,wX qT (ab z))] rfl (aA (lA 1 46 (wC qT (ab z)) a (fun d w2 e a=>lL a ac (ag (kZ (aa a [.v (pB d),.o qT 0 0 1,.c] (ak (aa a ac (ae a [] (iV (-1)) (by rw[Int.sign_eq_neg_one_of_neg (bx hz)]))))))))))
theorem G0 (z)(u:(wds (ab z)).length<=(10^9))(hz:af z=false)(h0:0<ab z)(w h)(g:G w h):CV 104 #[wX (.bool false) (ab z)] w h (iV z.sign):=by
 have a:=sS g;have i:=(cI h0).2.2;refine go Tryz.func104 [(0,wX qF (ab z))] rfl (aA (lA 1 46 (wC qF (ab z)) a (fun f w2 x a=>lL a ac (ag (kZ (aa a [.v (pB f),.o qF 0 0 1,.c] (ah (aa a [.v (qP f 1),.o (nv (ab z)) 0 1 2] (ar 9 a (gl (ab z) aM _ _ a.g) (fun j l a=>?_))))))))));have ⟨d,e⟩:=dT (p:=(0:Int)<((nb (ab z):Nat):Int)) oM;exact lB 10 d (lL a ac (ak (aa a ac (ae a [] (iV 1) (by rw[Int.sign_eq_one_of_pos (by have:=be hz;unfold ab at h0;omega)])))))
theorem IB (u:(wds (ab 0)).length<=(10^9))(w h)(g:G w h):CV 104 #[wX (.bool false) (ab 0)] w h (iV 0):=by
 have a:=sS g;have i:nb (ab 0)=0:=rfl;refine go Tryz.func104 [(0,wX qF (ab 0))] rfl (aA (lA 1 46 (wC qF (ab 0)) a (fun f w2 x a=>lL a ac (ag (kZ (aa a [.v (pB f),.o qF 0 0 1,.c] (ah (aa a [.v (qP f 1),.o (nv (ab 0)) 0 1 2] (ar 9 a (gl (ab 0) aM _ _ a.g) (fun j l a=>?_))))))))));have ⟨d,e⟩:=dF (p:=(0:Int)<((nb (ab 0):Nat):Int)) oM;exact lB 10 d (lL a ac (ah (cK (aa a ac (ae a [] (iV 0) rfl)))))
theorem ne (z)(a:(wds (ab z)).length<=(10^9))(w h)(g:G w h):CV 104 #[iv z] w h (iV z.sign):=by
 rcases hz:af z with _|_
 ·rw[ki hz]
  rcases B2 (ab z) with h0|h0
  ·have:z=0:=by unfold ab at h0;omega
   subst this;exact IB a w h g
  ·exact G0 z a hz h0 w h g
 ·rw[ki hz];exact Ii z hz w h g
theorem Kd (z)(p:(wds (ab z)).length<=(10^9))(hz:af z=false)(w h)(g:G w h):CV 98 #[wX (.bool false) (ab z)] w h (iv (-z)):=by
 have a:=sS g;exact go Tryz.func98 [(0,wX qF (ab z))] rfl (aA (lA 1 46 (wC qF (ab z)) a (fun c w2 u a=>lA 2 46 ([qF,uV 0,eS]) a (fun d x l a=>aG (lL a [.v (pB c),.o qF 1 0 1,.v qT,.v (qP c 1),.o (nv (ab z)) 1 1 2] (ar 8 a (gE true (ab z) aM _ _ a.g) (fun j f a=>lP 0 0 (ic (bD true (ab z))) a (fun i a=>ae a [(0,0,3)] (iv (bD true (ab z))) (by have e:=mt z;rw[hz] at e;exact congrArg iv e)))))))))
theorem JI (z)(p:(wds (ab z)).length<=(10^9))(hz:af z=true)(w h)(g:G w h):CV 98 #[wX (.bool true) (ab z)] w h (iv (-z)):=by
 have a:=sS g;exact go Tryz.func98 [(0,wX qT (ab z))] rfl (aA (lA 1 46 (wC qT (ab z)) a (fun c w2 u a=>lA 2 46 ([qF,uV 0,eS]) a (fun d x l a=>aG (lL a [.v (pB c),.o qT 1 0 1,.v qF,.v (qP c 1),.o (nv (ab z)) 1 1 2] (ar 8 a (gE false (ab z) aM _ _ a.g) (fun j f a=>lP 0 0 (ic (bD false (ab z))) a (fun i a=>ae a [(0,0,3)] (iv (bD false (ab z))) (by have e:=mt z;rw[hz] at e;exact congrArg iv e)))))))))
theorem KS (z)(a:(wds (ab z)).length<=(10^9))(w h)(g:G w h):CV 98 #[iv z] w h (iv (-z)):=by
 rcases hz:af z with _|_<;>rw[ki hz]
 ·exact Kd z a hz w h g
 ·exact JI z a hz w h g
theorem Hb (x y)(i:(wds (ab x)).length<=(10^9))(l:(wds (ab y)).length<=(10^9))(j:af x=false)(f:af y=false)(w h)(g:G w h):CV 185 #[wX (.bool false) (ab x),wX (.bool false) (ab y)] w h (iV (eZ x y)):=by
 have a:=sS g;refine go Tryz.func185 [(0,wX qF (ab x)),(1,wX qF (ab y))] rfl (aA (lA 2 46 (wC qF (ab x)) a (fun d w2 C a=>lA 3 46 (wC qF (ab y)) a (fun e z B a=>lL a ac (ag (kZ (aa a [.v (pB d),.o qF 1 0 1,.c] (lG 9 ?_))))))));exact lG 10 (lL a [.v qF,.c] (ah (aa a [.v (pB d),.o qF 1 0 1,.c] (ah (aa a [.v (pB e),.o qF 0 0 1,.c] (ah (cK (aa a [.v (qP d 1),.o (nv (ab x)) 1 1 2,.v (qP e 1),.o (nv (ab y)) 0 1 2] (ar 27 a (mM (ab x) (ab y) aM aM _ _ a.g) (fun u p a=>lL a ac (ae a [] (iV (bY (ab x) (ab y))) (by rw[D7 (be j) (be f)]))))))))))))
theorem Iv (x y)(i:(wds (ab x)).length<=(10^9))(l:(wds (ab y)).length<=(10^9))(j:af x=false)(f:af y=true)(w h)(g:G w h):CV 185 #[wX (.bool false) (ab x),wX (.bool true) (ab y)] w h (iV (eZ x y)):=by
 have a:=sS g;refine go Tryz.func185 [(0,wX qF (ab x)),(1,wX qT (ab y))] rfl (aA (lA 2 46 (wC qF (ab x)) a (fun d w2 u a=>lA 3 46 (wC qT (ab y)) a (fun e z p a=>lL a ac (ag (kZ (aa a [.v (pB d),.o qF 1 0 1,.c] (lG 9 ?_))))))));exact lG 10 (lL a [.v qF,.c] (ah (aa a [.v (pB d),.o qF 1 0 1,.c] (ah (aa a [.v (pB e),.o qT 0 0 1,.c] (ak (aa a ac (ae a [] (iV 1) (by rw[Ep (by have:=be j;have:=bx f;omega)])))))))))
theorem IE (x y)(i:(wds (ab x)).length<=(10^9))(l:(wds (ab y)).length<=(10^9))(j:af x=true)(f:af y=false)(w h)(g:G w h):CV 185 #[wX (.bool true) (ab x),wX (.bool false) (ab y)] w h (iV (eZ x y)):=by
 have a:=sS g;exact go Tryz.func185 [(0,wX qT (ab x)),(1,wX qF (ab y))] rfl (aA (lA 2 46 (wC qT (ab x)) a (fun d w2 u a=>lA 3 46 (wC qF (ab y)) a (fun e z p a=>lL a ac (ag (kZ (aa a [.v (pB d),.o qT 1 0 1,.c,.v (pB e),.o qF 0 0 1,.v qF,.c] (ah (aa a [.v (pB d),.o qT 1 0 1,.c] (ak (aa a ac (ae a [] (iV (-1)) (by rw[D5 (by have:=bx j;have:=be f;omega)])))))))))))))
theorem Iq (x y)(i:(wds (ab x)).length<=(10^9))(l:(wds (ab y)).length<=(10^9))(j:af x=true)(f:af y=true)(w h)(g:G w h):CV 185 #[wX (.bool true) (ab x),wX (.bool true) (ab y)] w h (iV (eZ x y)):=by
 have a:=sS g;exact go Tryz.func185 [(0,wX qT (ab x)),(1,wX qT (ab y))] rfl (aA (lA 2 46 (wC qT (ab x)) a (fun e w2 C a=>lA 3 46 (wC qT (ab y)) a (fun d z B a=>lL a ac (ag (kZ (aa a [.v (pB e),.o qT 1 0 1,.c,.v (pB d),.o qT 0 0 1,.v qT,.c] (ak (aa a [.v (qP d 1),.o (nv (ab y)) 0 1 2,.v (qP e 1),.o (nv (ab x)) 1 1 2] (ar 16 a (mM (ab y) (ab x) aM aM _ _ a.g) (fun u p a=>lL a ac (ae a [] (iV (bY (ab y) (ab x))) (by rw[EP (bx j) (bx f)])))))))))))))
theorem AP (x y)(a:(wds (ab x)).length<=(10^9))(c:(wds (ab y)).length<=(10^9))(w h)(g:G w h):CV 185 #[iv x,iv y] w h (iV (eZ x y)):=by
 rcases hx:af x with _|_<;>rcases hy:af y with _|_<;>rw[ki hx,ki hy]
 ·exact Hb x y a c hx hy w h g
 ·exact Iv x y a c hx hy w h g
 ·exact IE x y a c hx hy w h g
 ·exact Iq x y a c hx hy w h g
theorem HV (x y)(f:(wds (ab x)).length<=(10^9))(j:(wds (ab y)).length<=(10^9))(e:(wds (ab x+ab y)).length<=(10^9))(i:af x=false)(u:af y=false)(w h)(g:G w h):CV 96 #[wX (.bool false) (ab x),wX (.bool false) (ab y)] w h (iv (x+y)):=by
 have a:=sS g;have l:=be i;have p:=be u;refine go Tryz.func96 [(0,wX qF (ab x)),(1,wX qF (ab y))] rfl (aA (lA 2 46 (wC qF (ab x)) a (fun c w2 C a=>lA 3 46 (wC qF (ab y)) a (fun d D B a=>lA 4 46 ([qF,uV 0,eS]) a (fun F H z a=>ag (aa a [.v (pB c),.o qF 2 0 1,.v (pB d),.o qF 1 0 1,.v qT] (ak (cQ (cR 8 [] mixed a ao ?_)))))))));exact eV 0 14 (pB c) (eO 1 15 [(2,0,1)] qF a (eV 2 16 (qP c 1) (eO 3 17 [(2,1,2)] (nv (ab x)) a (eV 4 18 (qP d 1) (eO 5 19 [(1,1,2)] (nv (ab y)) a (au 6 20 a (fun _ _ a=>Ks (ab x) (ab y) aM aM _ _ a.g) (fun _ _ a=>au 7 21 a (fun _ _ a=>gE false ((ab x)+(ab y)) (by first|assumption|exact av (Ob _ _) aM) _ _ a.g) (fun _ _ a=>bM a (fun _ _ a=>tP 8 0 0 (ic (bD false ((ab x)+(ab y)))) a (fun _ a=>tN (kX (a.ret [(0,0,3)] (iv (bD false ((ab x)+(ab y)))) (congrArg iv (by unfold bD ab at *;simp;omega))))))))))))))
theorem E1 (x y)(j:(wds (ab x)).length<=(10^9))(p:(wds (ab y)).length<=(10^9))(i:(wds (ab x+ab y)).length<=(10^9))(l:af x=false)(C:af y=true)(B:ab y<=ab x)(w h)(g:G w h):CV 96 #[wX (.bool false) (ab x),wX (.bool true) (ab y)] w h (iv (x+y)):=by
 have a:=sS g;have u:=be l;have z:=bx C;exact go Tryz.func96 [(0,wX qF (ab x)),(1,wX qT (ab y))] rfl (aA (lA 2 46 (wC qF (ab x)) a (fun d w2 H a=>lA 3 46 (wC qT (ab y)) a (fun e I F a=>lA 4 46 ([qF,uV 0,eS]) a (fun J K D a=>ag (aa a [.v (pB d),.o qF 2 0 1,.v (pB e),.o qT 1 0 1,.v qF] (ah (cK (cQ (aa a [.v (qP d 1),.o (nv (ab x)) 2 1 2,.v (qP e 1),.o (nv (ab y)) 1 1 2] (ar 27 a (D4 (ab x) (ab y) oM aM aM _ _ a.g) (fun _ _ a=>lL a [.c,.v (nv ((ab x)-(ab y))),.v qT] (lA 5 44 ([uV 0,eS]) a (fun f _ _ a=>lP 0 0 (nc ((ab x)-(ab y))) a (fun _ a=>lL a ac (aG (lL a ac (ak (aa a [.v (pB d),.o qF 3 0 1,.o (nv ((ab x)-(ab y))) 0 0 2] (ar 34 a (gE false ((ab x)-(ab y)) (by first|assumption|exact av (Ob _ _) aM) _ _ a.g) (fun _ _ a=>lP 1 0 (ic (bD false ((ab x)-(ab y)))) a (fun _ a=>ae a [(1,0,3)] (iv (bD false ((ab x)-(ab y)))) (congrArg iv (by unfold bD ab at *;simp;omega))))))))))))))))))))))))
theorem ED (x y)(l:(wds (ab x)).length<=(10^9))(u:(wds (ab y)).length<=(10^9))(i:(wds (ab x+ab y)).length<=(10^9))(p:af x=false)(D:af y=true)(C:ab x<ab y)(w h)(g:G w h):CV 96 #[wX (.bool false) (ab x),wX (.bool true) (ab y)] w h (iv (x+y)):=by
 have a:=sS g;have z:=be p;have B:=bx D;exact go Tryz.func96 [(0,wX qF (ab x)),(1,wX qT (ab y))] rfl (aA (lA 2 46 (wC qF (ab x)) a (fun e w2 I a=>lA 3 46 (wC qT (ab y)) a (fun d J H a=>lA 4 46 ([qF,uV 0,eS]) a (fun K L F a=>ag (aa a [.v (pB e),.o qF 2 0 1,.v (pB d),.o qT 1 0 1,.v qF] (ah (cK (cQ (aa a [.v (qP e 1),.o (nv (ab x)) 2 1 2,.v (qP d 1),.o (nv (ab y)) 1 1 2] (ar 27 a (GN (ab x) (ab y) oM aM aM _ _ a.g) (fun _ _ a=>lL a [.c,.v (nv 0),.v qF] (lA 5 44 ([uV 0,eS]) a (fun f _ _ a=>lP 0 0 (nc 0) a (fun _ a=>lL a ac (aG (lL a ac (ah (cK (aa a [.v (qP d 1),.o (nv (ab y)) 2 1 2,.v (qP e 1),.o (nv (ab x)) 3 1 2] (ar 40 a (D4 (ab y) (ab x) oM aM aM _ _ a.g) (fun _ _ a=>lL a [.c,.v (nv ((ab y)-(ab x))),.v qT] (lA 7 44 ([uV 0,eS]) a (fun j _ _ a=>lP 0 0 (nc ((ab y)-(ab x))) a (fun _ a=>lL a ac (aG (lL a [.v (pB d),.o qT 3 0 1,.o (nv ((ab y)-(ab x))) 0 0 2] (ar 46 a (gE true ((ab y)-(ab x)) (by first|assumption|exact av (Ob _ _) aM) _ _ a.g) (fun _ _ a=>lP 2 0 (ic (bD true ((ab y)-(ab x)))) a (fun _ a=>ae a [(2,0,3)] (iv (bD true ((ab y)-(ab x)))) (congrArg iv (by unfold bD ab at *;simp;omega))))))))))))))))))))))))))))))))
theorem DJ (x y)(j:(wds (ab x)).length<=(10^9))(p:(wds (ab y)).length<=(10^9))(i:(wds (ab x+ab y)).length<=(10^9))(l:af x=true)(C:af y=false)(B:ab y<=ab x)(w h)(g:G w h):CV 96 #[wX (.bool true) (ab x),wX (.bool false) (ab y)] w h (iv (x+y)):=by
 have a:=sS g;have u:=bx l;have z:=be C;exact go Tryz.func96 [(0,wX qT (ab x)),(1,wX qF (ab y))] rfl (aA (lA 2 46 (wC qT (ab x)) a (fun d w2 H a=>lA 3 46 (wC qF (ab y)) a (fun e I F a=>lA 4 46 ([qF,uV 0,eS]) a (fun J K D a=>ag (aa a [.v (pB d),.o qT 2 0 1,.v (pB e),.o qF 1 0 1,.v qF] (ah (cK (cQ (aa a [.v (qP d 1),.o (nv (ab x)) 2 1 2,.v (qP e 1),.o (nv (ab y)) 1 1 2] (ar 27 a (D4 (ab x) (ab y) oM aM aM _ _ a.g) (fun _ _ a=>lL a [.c,.v (nv ((ab x)-(ab y))),.v qT] (lA 5 44 ([uV 0,eS]) a (fun f _ _ a=>lP 0 0 (nc ((ab x)-(ab y))) a (fun _ a=>lL a ac (aG (lL a ac (ak (aa a [.v (pB d),.o qT 3 0 1,.o (nv ((ab x)-(ab y))) 0 0 2] (ar 34 a (gE true ((ab x)-(ab y)) (by first|assumption|exact av (Ob _ _) aM) _ _ a.g) (fun _ _ a=>lP 1 0 (ic (bD true ((ab x)-(ab y)))) a (fun _ a=>ae a [(1,0,3)] (iv (bD true ((ab x)-(ab y)))) (congrArg iv (by unfold bD ab at *;simp;omega))))))))))))))))))))))))
theorem DK (x y)(l:(wds (ab x)).length<=(10^9))(u:(wds (ab y)).length<=(10^9))(i:(wds (ab x+ab y)).length<=(10^9))(p:af x=true)(D:af y=false)(C:ab x<ab y)(w h)(g:G w h):CV 96 #[wX (.bool true) (ab x),wX (.bool false) (ab y)] w h (iv (x+y)):=by
 have a:=sS g;have z:=bx p;have B:=be D;exact go Tryz.func96 [(0,wX qT (ab x)),(1,wX qF (ab y))] rfl (aA (lA 2 46 (wC qT (ab x)) a (fun e w2 I a=>lA 3 46 (wC qF (ab y)) a (fun d J H a=>lA 4 46 ([qF,uV 0,eS]) a (fun K L F a=>ag (aa a [.v (pB e),.o qT 2 0 1,.v (pB d),.o qF 1 0 1,.v qF] (ah (cK (cQ (aa a [.v (qP e 1),.o (nv (ab x)) 2 1 2,.v (qP d 1),.o (nv (ab y)) 1 1 2] (ar 27 a (GN (ab x) (ab y) oM aM aM _ _ a.g) (fun _ _ a=>lL a [.c,.v (nv 0),.v qF] (lA 5 44 ([uV 0,eS]) a (fun f _ _ a=>lP 0 0 (nc 0) a (fun _ a=>lL a ac (aG (lL a ac (ah (cK (aa a [.v (qP d 1),.o (nv (ab y)) 2 1 2,.v (qP e 1),.o (nv (ab x)) 3 1 2] (ar 40 a (D4 (ab y) (ab x) oM aM aM _ _ a.g) (fun _ _ a=>lL a [.c,.v (nv ((ab y)-(ab x))),.v qT] (lA 7 44 ([uV 0,eS]) a (fun j _ _ a=>lP 0 0 (nc ((ab y)-(ab x))) a (fun _ a=>lL a ac (aG (lL a [.v (pB d),.o qF 3 0 1,.o (nv ((ab y)-(ab x))) 0 0 2] (ar 46 a (gE false ((ab y)-(ab x)) (by first|assumption|exact av (Ob _ _) aM) _ _ a.g) (fun _ _ a=>lP 2 0 (ic (bD false ((ab y)-(ab x)))) a (fun _ a=>ae a [(2,0,3)] (iv (bD false ((ab y)-(ab x)))) (congrArg iv (by unfold bD ab at *;simp;omega))))))))))))))))))))))))))))))))
theorem GQ (x y)(f:(wds (ab x)).length<=(10^9))(j:(wds (ab y)).length<=(10^9))(e:(wds (ab x+ab y)).length<=(10^9))(i:af x=true)(u:af y=true)(w h)(g:G w h):CV 96 #[wX (.bool true) (ab x),wX (.bool true) (ab y)] w h (iv (x+y)):=by
 have a:=sS g;have l:=bx i;have p:=bx u;refine go Tryz.func96 [(0,wX qT (ab x)),(1,wX qT (ab y))] rfl (aA (lA 2 46 (wC qT (ab x)) a (fun c w2 C a=>lA 3 46 (wC qT (ab y)) a (fun d D B a=>lA 4 46 ([qF,uV 0,eS]) a (fun F H z a=>ag (aa a [.v (pB c),.o qT 2 0 1,.v (pB d),.o qT 1 0 1,.v qT] (ak (cQ (cR 8 [] mixed a ao ?_)))))))));exact eV 0 14 (pB c) (eO 1 15 [(2,0,1)] qT a (eV 2 16 (qP c 1) (eO 3 17 [(2,1,2)] (nv (ab x)) a (eV 4 18 (qP d 1) (eO 5 19 [(1,1,2)] (nv (ab y)) a (au 6 20 a (fun _ _ a=>Ks (ab x) (ab y) aM aM _ _ a.g) (fun _ _ a=>au 7 21 a (fun _ _ a=>gE true ((ab x)+(ab y)) (by first|assumption|exact av (Ob _ _) aM) _ _ a.g) (fun _ _ a=>bM a (fun _ _ a=>tP 8 0 0 (ic (bD true ((ab x)+(ab y)))) a (fun _ a=>tN (kX (a.ret [(0,0,3)] (iv (bD true ((ab x)+(ab y)))) (congrArg iv (by unfold bD ab at *;simp;omega))))))))))))))
theorem Ha (x y)(j:(wds (ab x)).length<=(10^9))(l:(wds (ab y)).length<=(10^9))(i:(wds (ab x*ab y)).length<=(10^9))(d:af x=false)(f:af y=false)(w h)(g:G w h):CV 54 #[wX (.bool false) (ab x),wX (.bool false) (ab y)] w h (iv (x*y)):=by
 have a:=sS g;have o:=be d;have p:=be f;refine go Tryz.func54 [(0,wX qF (ab x)),(1,wX qF (ab y))] rfl (aA (lA 2 46 (wC qF (ab x)) a (fun e w2 B a=>lA 3 46 (wC qF (ab y)) a (fun c C z a=>lA 4 46 ([qF,uV 0,eS]) a (fun D F u a=>ag (cR 11 [] mixed a ao ?_))))));exact eV 0 5 (pB e) (eO 1 6 [(2,0,1)] qF a (eV 2 7 (pB c) (eO 3 8 [(1,0,1)] qF a (eV 4 9 qF (eV 5 10 (qP e 1) (eO 6 11 [(2,1,2)] (nv (ab x)) a (eV 7 12 (qP c 1) (eO 8 13 [(1,1,2)] (nv (ab y)) a (au 9 14 a (fun _ _ a=>qU (ab x) (ab y) aM aM _ _ a.g) (fun _ _ a=>au 10 15 a (fun _ _ a=>gE false ((ab x)*(ab y)) aM _ _ a.g) (fun _ _ a=>bM a (fun _ _ a=>tP 11 0 0 (ic (bD false ((ab x)*(ab y)))) a (fun _ a=>tN (kX (a.ret [(0,0,3)] (iv (bD false ((ab x)*(ab y)))) (by rw[<-nq x y,d,f];rfl))))))))))))))))
theorem HZ (x y)(j:(wds (ab x)).length<=(10^9))(l:(wds (ab y)).length<=(10^9))(i:(wds (ab x*ab y)).length<=(10^9))(d:af x=false)(f:af y=true)(w h)(g:G w h):CV 54 #[wX (.bool false) (ab x),wX (.bool true) (ab y)] w h (iv (x*y)):=by
 have a:=sS g;have o:=be d;have p:=bx f;refine go Tryz.func54 [(0,wX qF (ab x)),(1,wX qT (ab y))] rfl (aA (lA 2 46 (wC qF (ab x)) a (fun e w2 B a=>lA 3 46 (wC qT (ab y)) a (fun c C z a=>lA 4 46 ([qF,uV 0,eS]) a (fun D F u a=>ag (cR 11 [] mixed a ao ?_))))));exact eV 0 5 (pB e) (eO 1 6 [(2,0,1)] qF a (eV 2 7 (pB c) (eO 3 8 [(1,0,1)] qT a (eV 4 9 qT (eV 5 10 (qP e 1) (eO 6 11 [(2,1,2)] (nv (ab x)) a (eV 7 12 (qP c 1) (eO 8 13 [(1,1,2)] (nv (ab y)) a (au 9 14 a (fun _ _ a=>qU (ab x) (ab y) aM aM _ _ a.g) (fun _ _ a=>au 10 15 a (fun _ _ a=>gE true ((ab x)*(ab y)) aM _ _ a.g) (fun _ _ a=>bM a (fun _ _ a=>tP 11 0 0 (ic (bD true ((ab x)*(ab y)))) a (fun _ a=>tN (kX (a.ret [(0,0,3)] (iv (bD true ((ab x)*(ab y)))) (by rw[<-nq x y,d,f];rfl))))))))))))))))
theorem Id (x y)(j:(wds (ab x)).length<=(10^9))(l:(wds (ab y)).length<=(10^9))(i:(wds (ab x*ab y)).length<=(10^9))(d:af x=true)(f:af y=false)(w h)(g:G w h):CV 54 #[wX (.bool true) (ab x),wX (.bool false) (ab y)] w h (iv (x*y)):=by
 have a:=sS g;have o:=bx d;have p:=be f;refine go Tryz.func54 [(0,wX qT (ab x)),(1,wX qF (ab y))] rfl (aA (lA 2 46 (wC qT (ab x)) a (fun e w2 B a=>lA 3 46 (wC qF (ab y)) a (fun c C z a=>lA 4 46 ([qF,uV 0,eS]) a (fun D F u a=>ag (cR 11 [] mixed a ao ?_))))));exact eV 0 5 (pB e) (eO 1 6 [(2,0,1)] qT a (eV 2 7 (pB c) (eO 3 8 [(1,0,1)] qF a (eV 4 9 qT (eV 5 10 (qP e 1) (eO 6 11 [(2,1,2)] (nv (ab x)) a (eV 7 12 (qP c 1) (eO 8 13 [(1,1,2)] (nv (ab y)) a (au 9 14 a (fun _ _ a=>qU (ab x) (ab y) aM aM _ _ a.g) (fun _ _ a=>au 10 15 a (fun _ _ a=>gE true ((ab x)*(ab y)) aM _ _ a.g) (fun _ _ a=>bM a (fun _ _ a=>tP 11 0 0 (ic (bD true ((ab x)*(ab y)))) a (fun _ a=>tN (kX (a.ret [(0,0,3)] (iv (bD true ((ab x)*(ab y)))) (by rw[<-nq x y,d,f];rfl))))))))))))))))
theorem Ik (x y)(j:(wds (ab x)).length<=(10^9))(l:(wds (ab y)).length<=(10^9))(i:(wds (ab x*ab y)).length<=(10^9))(d:af x=true)(f:af y=true)(w h)(g:G w h):CV 54 #[wX (.bool true) (ab x),wX (.bool true) (ab y)] w h (iv (x*y)):=by
 have a:=sS g;have o:=bx d;have p:=bx f;refine go Tryz.func54 [(0,wX qT (ab x)),(1,wX qT (ab y))] rfl (aA (lA 2 46 (wC qT (ab x)) a (fun e w2 B a=>lA 3 46 (wC qT (ab y)) a (fun c C z a=>lA 4 46 ([qF,uV 0,eS]) a (fun D F u a=>ag (cR 11 [] mixed a ao ?_))))));exact eV 0 5 (pB e) (eO 1 6 [(2,0,1)] qT a (eV 2 7 (pB c) (eO 3 8 [(1,0,1)] qT a (eV 4 9 qF (eV 5 10 (qP e 1) (eO 6 11 [(2,1,2)] (nv (ab x)) a (eV 7 12 (qP c 1) (eO 8 13 [(1,1,2)] (nv (ab y)) a (au 9 14 a (fun _ _ a=>qU (ab x) (ab y) aM aM _ _ a.g) (fun _ _ a=>au 10 15 a (fun _ _ a=>gE false ((ab x)*(ab y)) aM _ _ a.g) (fun _ _ a=>bM a (fun _ _ a=>tP 11 0 0 (ic (bD false ((ab x)*(ab y)))) a (fun _ a=>tN (kX (a.ret [(0,0,3)] (iv (bD false ((ab x)*(ab y)))) (by rw[<-nq x y,d,f];rfl))))))))))))))))
theorem KD (x y)(c:(wds (ab x)).length+(wds (ab y)).length<=999999999)(w h)(g:G w h):CV 96 #[iv x,iv y] w h (iv (x+y)):=by
 have a:(wds (ab x+ab y)).length<=(10^9):=ep lw oM
 rcases hx:af x with _|_<;>rcases hy:af y with _|_<;>rw[ki hx,ki hy]
 ·exact HV x y oM oM a hx hy w h g
 ·rcases ea (ab x) (ab y) with hc|hc
  ·exact ED x y oM oM a hx hy hc w h g
  ·exact E1 x y oM oM a hx hy hc w h g
 ·rcases ea (ab x) (ab y) with hc|hc
  ·exact DK x y oM oM a hx hy hc w h g
  ·exact DJ x y oM oM a hx hy hc w h g
 ·exact GQ x y oM oM a hx hy w h g
theorem Ef (x y)(c:(wds (ab x)).length+(wds (ab y)).length<=(10^9))(w h)(g:G w h):CV 54 #[iv x,iv y] w h (iv (x*y)):=by
 have a:(wds (ab x*ab y)).length<=(10^9):=ep dL oM
 rcases hx:af x with _|_<;>rcases hy:af y with _|_<;>rw[ki hx,ki hy]
 ·exact Ha x y oM oM a hx hy w h g
 ·exact HZ x y oM oM a hx hy w h g
 ·exact Id x y oM oM a hx hy w h g
 ·exact Ik x y oM oM a hx hy w h g
theorem Cz (n)(hl:(wds n).length<=(10^9))(w h)(g:G w h):CR 192 #[nv n] w h (fun v h1=>∃ A,v=.slice A ((nb n+7)/8) ((nb n+7)/8)/\SlO 1 oe 0 h1 A (gt n ((nb n+7)/8))):=by
 have c:=sS g;have W:=mZ n;have hwl:=nO n;refine go Tryz.func192 [(0,nv n)] rfl (aA (lA 1 44 (nc n) c (fun K w2 h3 c=>lL c ac (aG (lL c [.o (nv n) 0 0 2] (ar 8 c (gl n hl _ _ c.g) (fun w4 h5 c=>bw 9 ((nb n:Nat)+7) ((nb n)+7) (lV 10 (nV (((nb n)+7)/8)) ?_ (hr:=aK (dU (t:=3) (u:=3) (x:=.tmp 9) (y:=.const (iV 8)) (k:=.i64) (a:=(((nb n)+7:Nat):Int)) (b:=(8:Int)) kR kR kR oM _) (dN ((nb n)+7) 8 oM))))))))));refine lL c ac (aG (lL c ac (lK 12 5 (((nb n)+7)/8:Nat) 1 1 (.int .u8 0) oe 0 c (fun z w7 h8 c=>?_))));have F:(Af (((nb n)+7)/8:Nat) 0).length=(((nb n)+7)/8:Nat):=by simp
 refine lL c ac (aG (lL c [.o (nv n) 1 0 2] (lC 14 c (gL n oM _ _ c.g) ?_)));rintro _ _ zd c ⟨e,B,rfl,Q,H⟩;replace c:=c.aS H;refine lL c ac (ag (aa c ax (aZ ?_)));refine bH _ (CG.loop (fun I Γ w_=>∃ (i:Nat)(l:List Nat)(L:Hp),I=((nb n+7)/8)-i/\Γ=[(2,sZ),(3,nV (((nb n)+7)/8)),(4,qS (sB z) (((nb n)+7)/8:Nat) (((nb n)+7)/8:Nat)),(5,qS e ((wds n).length) B),(15,nV (((nb n)+7)/8)),(16,nV i)]/\SS w h w_ L [⟨z,5,(l).flatMap oe⟩,⟨K,44,nc n⟩] [] [fun L=>SlO 1 aq 0 L e (wds n)]/\i<=((nb n+7)/8)/\l.length=((nb n+7)/8)/\(∀ j,j<i->l.getD (((nb n+7)/8)-1-j) 0=n/256^j%256)) _ ⟨0,Af (((nb n)+7)/8:Nat) 0,zd,rfl,rfl,c.to _ _,NY _,F,(fun j S=>absurd S oM)⟩ ?_);rintro _ _ _ ⟨i,l,Y,U,rfl,c,hi,p,V⟩;have hwi:=p8 n (i/8);refine aA ?_;cases D:(decide ((i:Int)<((((nb n)+7)/8:Nat):Int)))
 .
  have zb:=oF D;refine lB 17 D (ag (dE (CG.exit ?_)))
  show CG _ _ _ _ _ _ _ _
  refine aa c ax (lN (kX ?_));have Z:i=((nb n+7)/8):=by omega
  have J:l=gt n ((nb n+7)/8):=tE p (fun j S=>V j oM);rw[J] at c
  obtain ⟨_,c,C,M,O⟩:=c.pub 0;replace c:=(c.to [⟨K,44,nc n⟩] []).aS (SlO.of_flat (sz:=1) (f:=oe) (d:=0) (b:=z) (o:=0) (l:=gt n ((nb n+7)/8)) (fun _=>rfl) C);exact c.ret [] (qS (sB z) (((nb n)+7)/8:Nat) (((nb n)+7)/8:Nat)) (⟨sB z,rfl,c.f.1⟩)
 have zb:=oT D;refine lB 17 D (ag (ck (cK (cQ (kZ (aa c ax (lN (kQ (lL c ax (bw 21 ((((nb n)+7)/8:Nat)-1) ((((nb n)+7)/8:Nat)-1) ?_))))))))));refine lL c ac (bw 23 (((((nb n)+7)/8:Nat)-1:Nat)-(i:Nat)) (((((nb n)+7)/8:Nat)-1:Nat)-i) ?_);refine lL c ax (lV 26 (nV (i/8)) ?_ (hr:=aK (dU (t:=3) (u:=3) (x:=.tmp 25) (y:=.const (iV 8)) (k:=.i64) (a:=(i:Int)) (b:=(8:Int)) kR kR kR oM _) (dN i 8 oM)));refine lX 27 e ((wds n).length) B 1 (i/8:Nat) (i/8) ((c.f.1).ok oM) (lH 28 (mV ((wds n).getD (i/8) 0)) c ((c.f.1).el (i/8) oM) (lL c ac (lV 30 (nV (i%8)) ?_ (hr:=aK (fP (t:=3) (u:=3) (x:=.tmp 29) (y:=.const (iV 8)) (k:=.i64) (a:=(i:Int)) (b:=(8:Int)) kR kR kR oM _) (dH i 8)))));refine bw 31 (8*(i%8:Nat)) (8*(i%8)) (lV 32 (mV (((wds n).getD (i/8) 0)/2^(8*(i%8)))) ?_ (hr:=gY (t:=42) (u:=3) (x:=.tmp 28) (y:=.tmp 31) (ky:=.i64) (a:=((wds n).getD (i/8) 0)) (n:=(8*(i%8))) kR kR kR oM _));refine lV 33 (.int .u8 ((wds n).getD (i/8) 0/2^(8*(i%8))%256:Nat)) ?_ (hr:=aK (n:=IntKind.wrap .u8 (((wds n).getD (i/8) 0/2^(8*(i%8)):Nat):Int)) kR (DW _));refine lX 34 (sB z) (((nb n)+7)/8:Nat) (((nb n)+7)/8:Nat) 1 (((((nb n)+7)/8:Nat)-1:Nat)-i:Nat) (((((nb n)+7)/8:Nat)-1:Nat)-i:Nat) rfl (lW 0 l oe 1 (((((nb n)+7)/8:Nat)-1:Nat)-i:Nat) ((wds n).getD (i/8) 0/2^(8*(i%8))%256:Nat) c oM (fun _ c=>?_));have X:((l).set (((((nb n)+7)/8:Nat)-1:Nat)-i:Nat) ((wds n).getD (i/8) 0/2^(8*(i%8))%256:Nat)).length=(((nb n)+7)/8:Nat):=by rw[NI];exact p
 replace c:=c.to [⟨z,5,((l).set (((((nb n)+7)/8:Nat)-1:Nat)-i:Nat) ((wds n).getD (i/8) 0/2^(8*(i%8))%256:Nat)).flatMap oe⟩,⟨K,44,nc n⟩] [];refine lN (kQ (bw 35 ((i:Nat)+1) (i+1) ?_));refine lL c ac (lD ?_);intro a_ ka;refine ⟨_,_,?_,⟨i+1,(l).set (((((nb n)+7)/8:Nat)-1:Nat)-i:Nat) ((wds n).getD (i/8) 0/2^(8*(i%8))%256:Nat),Y,rfl,rfl,c.to _ _,oM,X,(iC p oM V (BA n i))⟩,ka.to _ kR⟩
 omega
theorem Cv (n m A c)(hc:m<=c)(hm:m<=10000000000)(hn:n<256^m)(w h)(g:G w h)(hA:SlO 1 oe 0 h A (gt n m)):CV 111 #[.slice A m c] w h (nv n):=by
 have e:=((sS g).aS hA);have hbl:=kv n m;refine go Tryz.func111 [(0,qS A m c)] rfl (aA (lA 2 44 ([uV 0,eS]) e (fun B w2 h3 e=>aG (lL e [.c,.v (nV m)] (bw 7 ((m:Nat)+7) (m+7) ?_)))));refine lV 8 (nV ((m+7)/8)) ?_ (hr:=aK (dU (t:=3) (u:=3) (x:=.tmp 7) (y:=.const (iV 8)) (k:=.i64) (a:=((m+7:Nat):Int)) (b:=(8:Int)) kR kR kR oM _) (dN (m+7) 8 oM));refine lK 9 42 ((m+7)/8) 1 8 (uV 0) aq 0 e (fun j w5 Z e=>?_);have M:(Af ((m+7)/8) 0).length=((m+7)/8):=by simp
 refine lL e ac (ag (aa e [.c,.v (nV m),.c] (aZ ?_)));refine bH _ (CG.loop (fun J Γ X=>∃ (i:Nat)(l:List Nat)(L:Hp),J=m-i/\Γ=[(0,qS A m c),(2,pB B),(3,qS (sB j) ((m+7)/8) ((m+7)/8)),(11,nV m),(12,nV i)]/\SS w h X L [⟨j,42,(l).flatMap aq⟩,⟨B,44,[uV 0,eS]⟩] [] [fun L=>SlO 1 oe 0 L A (gt n m)]/\i<=m/\l.length=(m+7)/8/\Wd l/\aD l=n%256^i) _ ⟨0,Af ((m+7)/8) 0,Z,rfl,rfl,e.to _ _,NY _,M,Wd.rep _,(by show ai _ _=_;rw[dQ,NZ,Nat.mod_one])⟩ ?_);rintro _ _ w8 ⟨i,l,h9,S,rfl,e,hi,K,H,inv⟩;have hbi:=lr n m (m-1-i);refine aA ?_;cases z:(decide ((i:Int)<(m:Int)))
 .
  have zb:=oF z;refine lB 13 z (ag (dE (CG.exit ?_)))
  show CG _ _ _ _ _ _ _ _
  refine aA ?_;have C:i=m:=by omega
  have Y:aD l=n:=by rw[inv,C];exact Am hn
  obtain ⟨_,e,p,O,Q⟩:=e.pub 0;replace e:=(e.to [⟨B,44,[uV 0,eS]⟩] []).aS (SlO.of_flat (sz:=1) (f:=aq) (d:=0) (b:=j) (o:=0) (l:=l) (fun _=>rfl) p);exact lL e ac (ar 37 e (dM (sB j) ((m+7)/8) (l) ((m+7)/8) (n) (by first|rfl|assumption|(simp;done)|(simp;omega)|omega) (H) (Y) sM sM _ _ e.g e.f.1) (fun _ _ e=>lP 0 0 (nc n) e (fun _ e=>ae e [(0,0,2)] (nv n) rfl)))
 have zb:=oT z;refine lB 13 z (ag (ck (cK (cQ (kZ (aa e ax (lN (cR 19 [] mixed e ao ?_))))))));refine eV 0 15 (qS (sB j) ((m+7)/8) ((m+7)/8)) (eV 1 16 (nV i) (eV 2 17 (nV (i/8)) ?_ (hv:=fun _=>aK (dU (t:=3) (u:=3) (x:=.tmp 16) (y:=.const (iV 8)) (k:=.i64) (a:=(i:Int)) (b:=(8:Int)) kR kR kR oM _) (dN i 8 oM))));refine eX 3 18 (sB j) ((m+7)/8) ((m+7)/8) 1 (i/8:Nat) (i/8) rfl (eQ 4 19 0 l aq 1 0 (i/8) (mV ((l).getD (i/8) 0)) e oM (eV 5 20 (qS A m c) (eV 6 21 (qS A m c) (eV 7 22 (nV m) (kL 8 23 ((m:Nat)-1) (m-1) (eV 9 24 (nV i) (kL 10 25 ((m-1:Nat)-(i:Nat)) ((m-1)-i) (eX 11 26 A m c 1 ((m-1)-i:Nat) ((m-1)-i) ((e.f.1).ok oM) (eH 12 27 (.int .u8 ((gt n m).getD ((m-1)-i) 0:Nat)) e ((e.f.1).el ((m-1)-i) oM) (eV 13 28 (mV ((gt n m).getD ((m-1)-i) 0)) ?_ (hv:=fun _=>rU ((((gt n m).getD ((m-1)-i) 0:Nat):Int)) kR (bh oM oM))))))))))));refine eV 14 29 (nV i) (eV 15 30 (nV (i%8)) ?_ (hv:=fun _=>aK (fP (t:=3) (u:=3) (x:=.tmp 29) (y:=.const (iV 8)) (k:=.i64) (a:=(i:Int)) (b:=(8:Int)) kR kR kR oM _) (dH i 8)));refine kL 16 31 (8*(i%8:Nat)) (8*(i%8)) (eV 17 32 (mV (((gt n m).getD ((m-1)-i) 0:Nat)*2^(8*(i%8))%(2^64))) ?_ (hv:=fun _=>iq (t:=42) (u:=3) (x:=.tmp 28) (y:=.tmp 31) (ky:=.i64) (a:=((gt n m).getD ((m-1)-i) 0:Nat)) (n:=(8*(i%8))) kR kR kR _));obtain ⟨D,I,F⟩:=uY oM inv (show (gt n m).getD (m-1-i) 0=n/256^i%256 by rw[jA n m _ oM,show m-1-(m-1-i)=i by omega]);have hlg:=H.get (i/8);refine eV 18 33 (mV (l.getD (i/8) 0+(gt n m).getD (m-1-i) 0*2^(8*(i%8)))) ?_ (hv:=fun _=>aK (iO (t:=42) (u:=42) (x:=.tmp 19) (y:=.tmp 32) (a:=((l).getD (i/8) 0)) (b:=(((gt n m).getD ((m-1)-i) 0:Nat)*2^(8*(i%8))%(2^64):Nat)) kR kR kR oM oM _) (by rw[D]));refine bM e (fun _ V e=>tX 19 34 (sB j) ((m+7)/8) ((m+7)/8) 1 (i/8:Nat) (i/8) rfl (tW 20 0 l aq 1 (i/8) (l.getD (i/8) 0+(gt n m).getD (m-1-i) 0*2^(8*(i%8)):Nat) e oM (fun _ e=>?_)));have U:((l).set (i/8) (l.getD (i/8) 0+(gt n m).getD (m-1-i) 0*2^(8*(i%8)):Nat)).length=((m+7)/8):=by rw[NI];exact K
 replace e:=e.to [⟨j,42,((l).set (i/8) (l.getD (i/8) 0+(gt n m).getD (m-1-i) 0*2^(8*(i%8)):Nat)).flatMap aq⟩,⟨B,44,[uV 0,eS]⟩] [];refine tN (kQ (bw 35 ((i:Nat)+1) (i+1) ?_));refine lL e ac (lD ?_);intro a_ W;refine ⟨_,_,?_,⟨i+1,(l).set (i/8) (l.getD (i/8) 0+(gt n m).getD (m-1-i) 0*2^(8*(i%8)):Nat),V,rfl,rfl,e.to _ _,oM,U,(H.set _ I),F⟩,W.to _ kR⟩
 omega
theorem Hf (n k)(D:(wds n).length<=(10^9))(hk:k<=65536)(w h)(g:G w h):CV 160 #[nv n,nV k] w h (nv (n*2^k)):=by
 have a:=sS g;refine go Tryz.func160 [(0,nv n),(1,nV k)] rfl (aA (lA 2 44 (nc n) a (fun M w2 K a=>lA 4 44 ([uV 0,eS]) a (fun H L J a=>aG (lL a ac (lV 6 (nV k) ?_ (hr:=aK (n:=if (65536:Int)<(k:Int) then (65536:Int) else (k:Int)) kR (if_neg oM))))))));refine lV 7 (nV k) ?_ (hr:=aK (n:=if (k:Int)>(-65536:Int) then (k:Int) else (-65536:Int)) kR (if_pos oM));refine lL a ac (ag (aa a ac ?_));have ⟨l,x⟩:=dF (p:=(k:Int)<(0:Int)) oM;refine lB 9 l (ah (cK (aa a [.o (nv n) 1 0 2] (lC 17 a (gL n oM _ _ a.g) ?_))));rintro _ O I a ⟨j,d,rfl,u,e⟩;replace a:=a.aS e;refine lL a ac (lC 19 a (Bt j d (wds n) (Wd.wds n) D k oM _ _ a.g a.f.1) ?_);rintro _ _ _ a ⟨B,y,z,rfl,F,C,c,i,hz⟩;replace a:=a.aS hz;exact ar 20 a (dM B y (z) z.length ((n*2^k)) (by first|rfl|assumption|(simp;done)|(simp;omega)|omega) (c) (by rw[i,a7]) sM sM _ _ a.g a.f.1) (fun _ _ a=>lP 0 0 (nc (n*2^k)) a (fun _ a=>ae a [(0,0,2)] (nv (n*2^k)) rfl))
section
variable {P:Program}{Γ:cC}{o:Oper}
theorem Jt {t e:TypeId}{x ix:Operand}{b off sz len:Nat}{i:Int}{kk:IntKind}(k:Nat)(l:o.op=.indexAddr t x ix)(p:ev Γ x=.pointer (some ⟨b,off,none⟩))(hi:ev Γ ix=.int kk i)
    (h:P.underlying t=some (.array len e))(f:(P.info? e).map (·.size)=some sz)(hk:i=k)(u:k<len)(w:World) :
    (execOp (ev Γ) o).run P w=.ok (.value (.pointer (some ⟨b,off+k*sz,none⟩))) w:=by
  subst hk;unfold execOp;simp only[l];rw[p,hi];have c:P.elem t=e:=by unfold Program.elem;rw[h]
  have d:P.arrayLen t=len:=by unfold Program.arrayLen;rw[h]
  have h1:=run_indexAt_array (P:=P) w t ⟨b,off,none⟩ kk (k:Int) (by rw[c,d];exact h);rw[d,if_pos ⟨by omega,by omega⟩,c] at h1
  have j:(sizeOf e).run P w=.ok sz w:=by
    cases a:P.info? e with
    | none=>rw[a] at f;cases f
    | some i =>
      rw[a] at f;simp at f;simp[sizeOf,typeInfo,a,f]
  rw[j] at h1;simp[h1,Result.andThen,Addr.add]
end
def Tz (n k m:Nat):Prop:=n=2^k*m/\m%2=1
theorem Hz {x:Nat}(h0:x≠0)(h:x<(2^64)):∃ m,Tz x (Lib.ctz 64 x) m/\Lib.ctz 64 x<64:=by
 unfold Lib.ctz;rw[if_neg h0];obtain ⟨m,e,a⟩:=Lib.ctzFrom_spec 64 x oM h;exact ⟨2*m+1,⟨e,by omega⟩,a⟩
theorem Tz.odd_pos {n k m:Nat}(h:Tz n k m):0<m:=by have:=h.2;omega
theorem Tz.word {n i x k m r:Nat}(e:n=(2^64)^i*(x+(2^64)*r))(t:Tz x k m)(hk:k<64):Tz n (64*i+k) (m+2^(64-k)*r):=by
 obtain ⟨d,f⟩:=t;refine ⟨?_,?_⟩
 ·have a:((2^64):Nat)=2^k*2^(64-k):=by rw[<-M4,show k+(64-k)=64 by omega]
  have c:((2^64):Nat)^i=2^(64*i):=by rw[M7]
  rw[e,c,d];conv=>lhs;rw[a]
  rw[M4,MT (2^k),<-MS,<-MT]
 ·obtain ⟨j,hj⟩:∃ j,64-k=j+1:=⟨63-k,by omega⟩
  rw[hj,MP,MQ (2^j) 2,MT]
  omega
theorem Tz.uniq {n k m c f:Nat}(a:Tz n k m)(b:Tz n c f):k=c/\m=f:=by
 obtain ⟨i,p⟩:=a;obtain ⟨j,l⟩:=b
 have key:∀ {k m c f:Nat},2^k*m=2^c*f->m%2=1->c<=k:=fun {k m c f} e u=>by
  rcases ea k c with h|h
  ·exfalso
   obtain ⟨d,rfl⟩:∃ d,c=k+(d+1):=⟨c-k-1,by omega⟩;rw[M4,MT] at e
   have o:=Oc (M0 k) e;rw[MP,MQ (2^d) 2,MT] at o
   omega
  ·exact h
 have h1:=key (i.symm.trans j) p;have y:=key (j.symm.trans i) l;have x:k=c:=by omega
 subst x;exact ⟨rfl,Oc (M0 k) (i.symm.trans j)⟩
theorem pO {x y:Nat}(c:y%2=1):N1 (2*x) y=N1 x y:=by
 have a:Nat.Coprime 2 y:=by
  unfold Nat.Coprime;rw[Nat.gcd_rec,c];rfl
 exact a.gcd_mul_left_cancel x
theorem fz {x y:Nat}(a:y%2=1):∀ k,N1 (2^k*x) y=N1 x y
  | 0=>by simp
  | k+1=>by
    rw[MP,MQ (2^k) 2,MT,pO a];exact fz a k
theorem Df {x y k l m n:Nat}(a:Tz x k m)(b:Tz y l n):N1 x y=N1 m n*2^min k l:=by
 obtain ⟨f,c⟩:=a;obtain ⟨i,e⟩:=b;subst f i
 rcases Od k l with h|h
 ·rw[MW h]
  obtain ⟨d,rfl⟩:∃ d,l=k+d:=⟨l-k,by omega⟩;rw[M4,MT,Oe,N2 m,fz c,N2 n,MQ]
 ·rw[Nm h]
  obtain ⟨d,rfl⟩:∃ d,k=l+d:=⟨k-l,by omega⟩;rw[M4,MT,Oe,fz e,MQ]
theorem wk {x y k m:Nat}(a:y<x)(c:y%2=1)(t:Tz (x-y) k m):N1 m y=N1 x y:=by
 rw[<-fz c k,<-t.1];have e:=Nat.gcd_add_self_left (m:=y) (n:=x-y);rw[show x-y+y=x by omega] at e
 exact e.symm
theorem SlO.win {α:Type}{f:α->List Value}{d:α}{h:Hp}{b:Nat}{l:List α}(hf:∀ x,(f x).length=1)(i:Seg h b 0 (l.flatMap f))(o n):SlO 1 f d h (some ⟨b,o,none⟩) ((l.drop o).take n):=by
  have a:=i.part o ((l.drop o).take n).length;rw[z6] at a
  have e:∀ (l:List α) (o n:Nat),((l.flatMap f).drop o).take ((l.drop o).take n).length=((l.drop o).take n).flatMap f:=by
    have j:∀ (l:List α),(l.flatMap f).length=l.length:=fun l=>by
      induction l with
      | nil=>rfl
      | cons x l ih=>rw[y4,List.length_append,hf,ih,List.length_cons];omega
    have c:∀ (l:List α) (o:Nat),(l.flatMap f).drop o=(l.drop o).flatMap f:=fun l=>by
      induction l with
      | nil=>intro o;simp
      | cons x l ih =>
        intro o;cases o with
        | zero=>rfl
        | succ o =>
          rw[y4,List.drop_append,hf,NR (by rw[hf];omega),List.nil_append,List.drop_succ_cons,Nz];exact ih o
    have et:∀ (l:List α) (n:Nat),(l.flatMap f).take n=(l.take n).flatMap f:=fun l=>by
      induction l with
      | nil=>intro n;simp
      | cons x l ih =>
        intro n;cases n with
        | zero=>rfl
        | succ n =>
          rw[y4,List.take_append,hf,Nj (by rw[hf];omega),List.take_succ_cons,y4,Nz,ih n]
    intro l o n;rw[c,et,MV];congr 1
    rcases Od n (l.drop o).length with h|h
    . rw[MW h]
    . rw[Nm h,y8,Nj h]
  rw[e] at a;exact SlO.of_flat hf a
def Tab (h:Hp):Prop:=Seg h 2 0 (Lib.deBruijn64tab.map fun k=>Value.int .u8 ((k:Nat):Int))
theorem Tab.gw {h a:Hp}(t:Tab h)(u:Gw h a):Tab a:=Seg.gw t u
theorem SS.aWt {w0 w:World}{h0 h:Hp}{B:List Bx}{R:List Rw}{F:List (Hp->Prop)}(s:SS w0 h0 w h B R F)(p:Tab h):SS w0 h0 w h B R ((fun h=>Tab h)::F):=s.add (K:=fun h=>Tab h) p
theorem Tab.at {h:Hp}(t:Tab h){k i:Nat}(e:i<64/\Lib.deBruijn64tab.getD i 0=k):Seg h 2 i [.int .u8 ((k:Nat):Int)]:=by
 have a:=Seg.part t i 1;obtain ⟨hi,rfl⟩:=e;rw[z6] at a
 have c:i<Lib.deBruijn64tab.length:=by show i<64;exact hi
 have d:((Lib.deBruijn64tab.map fun k=>Value.int .u8 ((k:Nat):Int)).drop i).take 1=[.int .u8 ((Lib.deBruijn64tab.getD i 0:Nat):Int)]:=by
  rw[List.drop_eq_getElem_cons (by simpa using c)]
  simp[c]
 rw[d] at a;exact a
theorem Ls {s:Result Next}{b z:Nat}{w:World}(h:s=.ok (.value (.pointer (some ⟨b,0+z*1,none⟩))) w):s=.ok (.value (.pointer (some ⟨b,z,none⟩))) w:=by rw[h,Ng,z6]
theorem B7 {l:List Nat}(a:Wd l)(d:l.length<=(wds (aD l)).length):wds (aD l)=l:=by
 have e:=pD a;have h1:(wds (aD l)).length=min (tl l l.length) l.length:=by rw[e,MV]
 have c:=iN l l.length;rw[e,Nj oM]
theorem Lt {l:List Nat}(a:Wd l):aD l<256^(8*l.length):=by
 have:=bQ a;rw[M7];exact this
theorem Ht {a b:Nat}(h:wds a=wds b):a=b:=by rw[<-a7 a,<-a7 b,h]
theorem B9 {l:List Nat}{i:Nat}(h:i<l.length)(h0:l.getD i 0=0){n:Nat}(inv:n=18446744073709551616^i*ai 18446744073709551616 (l.drop i)):n=18446744073709551616^(i+1)*ai 18446744073709551616 (l.drop (i+1)):=by
 rw[inv,ge _ h,h0,z6,MP,MT]
theorem JR (x:Nat)(o:x≠0)(C:x<(2^64))(w:World)(h:Hp)(g:G w h)(F:Tab h):CV 193 #[mV x] w h (nV (Lib.ctz 64 x)):=by
 have d:=((sS g).add (K:=fun D=>Tab D) F);obtain ⟨j,hk⟩:=Lib.lowest_bit 64 x o C;have c:=Lib.deBruijn64_at _ hk
 generalize Lib.ctz 64 x=k at *
 generalize hp:2^k=p at *
 obtain ⟨y,hy⟩:∃ y,p*285870213051353865%(2^64)=y:=⟨_,rfl⟩;rw[hy] at c
 obtain ⟨z,hz⟩:∃ z,y/288230376151711744=z:=⟨_,rfl⟩;rw[hz] at c
 refine go Tryz.func193 [(0,mV x)] rfl (aa d ac (ag (aa d ac ?_)));have l:((x:Int) == (0:Int))=false:=fB oM;have B:=aj l;refine lB 4 l (ah (cK (aa d ax (lV 7 (mV ((2^64)-x)) ?_ (hr:=rU ((0-(x:Int))) kR (by rw[IntKind.wrap_u64];omega))))));refine lV 8 (mV p) ?_ (hr:=aK (n:=bits .and .u64 (x:Int) (((2^64)-x:Nat):Int)) kR (by rw[bits_and_u64_nat _ _ C oM];exact congrArg _ j));refine lV 9 (mV y) ?_ (hr:=rU (((p:Int)*285870213051353865)) kR ((kf p 285870213051353865).trans (congrArg _ hy)));refine lV 10 (mV z) ?_ (hr:=aK (gY (t:=42) (u:=154) (x:=.tmp 9) (y:=.const (uV 58)) (ky:=.u64) (a:=y) (n:=58) kR kR kR oM _) (congrArg _ (by rw[show (2:Nat)^58=288230376151711744 from rfl];exact hz)));refine lV 11 (qP 2 z) ?_ (hr:=Ls (Jt (t:=273) (e:=5) (x:=.global 2) (ix:=.tmp 10) (b:=2) (off:=0) (sz:=1) (len:=64) (kk:=.u64) (i:=(z:Int)) z kR kR kR kR kR rfl c.1 _));refine lH 12 (.int .u8 (k:Int)) d (Tab.at d.f.1 c) (lV 13 (nV k) ?_ (hr:=rS ((k:Int)) kR (pn oM oM)));exact lL d ac (ae d [] (nV k) rfl)
theorem tK (A c)(l:List Nat)(n)(hn:l.length=n)(z:Wd l)(Q:0<aD l)(S:l.length<=(10^9))(w h)(g:G w h)(H:Tab h)(I:SlO 1 aq 0 h A l):CR 155 #[.slice A n c] w h (fun v _=>∃ k m:Nat,v=nV k/\Tz (aD l) k m/\k/64<l.length):=by
 have a:=(((sS g).add (K:=fun d=>Tab d) H).aS I);refine go Tryz.func155 [(0,qS A n c)] rfl (aa a ac (aG (lL a ac (ag (kZ ?_)))));refine bH _ (CG.loop (fun u Γ F=>∃ (i:Nat)(d:Hp),u=l.length-i/\Γ=[(0,qS A n c),(2,iV 0),(3,nV i)]/\SS w h F d [] [] [fun d=>SlO 1 aq 0 d A l,fun d=>Tab d]/\i<=l.length/\aD l=(2^64)^i*ai (2^64) (l.drop i)) _ ⟨0,h,rfl,rfl,a.to _ _,NY _,(by show ai _ _=_;rw[NZ,Nk,y6])⟩ ?_);rintro _ _ w1 ⟨i,B,C,rfl,a,hi,inv⟩;have j:i<l.length:=by rcases ea i l.length with d|d;exact d;rw[NR d] at inv;simp[ai] at inv;omega
 refine cQ (aa a ax (lX 6 A n c 1 (i:Nat) i ((a.f.1).ok oM) ?_));refine lH 7 (mV (l.getD i 0)) a ((a.f.1).el i oM) ?_;cases e:(((l.getD i 0:Nat):Int) == (0:Int))
 .
  have p:=aj e;refine lB 8 e (ah (CG.exit ?_))
  show CG _ _ _ _ _ _ _ _
  refine aa a ac (lI 12 (64*(i:Nat)) ?_);refine lL a ax (lX 15 A n c 1 (i:Nat) i ((a.f.1).ok oM) ?_);refine lH 16 (mV (l.getD i 0)) a ((a.f.1).el i oM) (ar 17 a (JR (l.getD i 0) oM (z.get i) _ _ a.g a.f.2.1) (fun O M a=>?_));obtain ⟨L,y,o⟩:=Hz (x:=l.getD i 0) oM (z.get i);exact lI 18 ((64*(i:Nat))+(Lib.ctz 64 (l.getD i 0):Nat)) (lL a ac (ae a [] (iV ((64*(i:Nat))+(Lib.ctz 64 (l.getD i 0):Nat))) (⟨_,_,rfl,Tz.word (by rw[inv,ge _ j]) y o,by omega⟩)))
 have p:=eq_of_beq e;refine lB 8 e (ak (cK (kZ (kQ (lL a ac (bw 10 ((i:Nat)+1) (i+1) ?_))))));refine lL a ac (lD ?_);intro J D;refine ⟨_,_,?_,⟨i+1,B,rfl,rfl,a.to _ _,oM,(B9 j oM inv)⟩,D.to _ kR⟩
 omega
theorem F5 (A c l n)(hn:l.length=n)(I:l.length<=(2^40))(F:l.length<=c)(w h)(g:G w h)(C:SlO 1 aq 0 h A l):CV 194 #[.slice A n c] w h (.slice A (tl l n) c):=by
 have a:=((sS g).aS C);refine go Tryz.func194 [(0,qS A n c)] rfl (aa a ac (ag (kZ ?_)));refine bH _ (CG.loop (fun p Γ B=>∃ (m:Nat)(u:Hp),p=m/\Γ=[(2,sZ),(0,qS A m c)]/\SS w h B u [] [] [fun u=>SlO 1 aq 0 u A l]/\m<=n/\tl l n=tl l m) _ ⟨n,h,rfl,rfl,a.to _ _,nR _,rfl⟩ ?_);rintro _ _ w1 ⟨m,x,y,rfl,a,H,o⟩;refine cQ (aa a [.c,.v (nV m)] ?_);cases d:(decide ((0:Int)<(m:Int)))
 .
  have j:=oF d;refine lB 5 d (lL a ac (lG 7 ?_));refine lG 8 (lG 9 (lG 10 (lG 11 (lG 12 (lG 13 (lL a [.v qF] (ah (CG.exit ?_))))))))
  show CG _ _ _ _ _ _ _ _
  exact aa a ax (ae a [] (qS A m c) (by rw[o,pf oM]))
 have j:=oT d;refine lB 5 d (lL a [.c,.c,.c,.v (nV m)] (bw 10 ((m:Nat)-1) (m-1) ?_));refine lX 11 A m c 1 (m-1:Nat) (m-1) ((a.f.1).ok oM) (lH 12 (mV (l.getD (m-1) 0)) a ((a.f.1).el (m-1) oM) ?_);cases e:(((l.getD (m-1) 0:Nat):Int) == (0:Int))
 .
  have i:=aj e;refine lB 13 e (lL a [.v qF] (ah (CG.exit ?_)))
  show CG _ _ _ _ _ _ _ _
  exact aa a ax (ae a [] (qS A m c) (by rw[o,pf oM]))
 have i:=eq_of_beq e;refine lB 13 e (lL a [.v qT] (ak (cK (kZ (kQ (lL a [.c,.c,.v (nV m)] (bw 18 ((m:Nat)-1) (m-1) ?_)))))));refine lT 19 A m c 1 (m-1:Nat) (m-1) (lL a ac (lD ?_));intro D z;refine ⟨_,_,?_,⟨m-1,x,rfl,rfl,a.to _ _,oM,(by rw[o];exact Bl oM oM)⟩,z.to _ kR⟩
 omega
theorem AB (A c D d x y n i)(hn:(wds x).length=n)(M:(wds y).length=i)(S:(wds x).length<=(10^9))(U:(wds y).length<=(10^9))(w h)(g:G w h)(V:SlO 1 aq 0 h A (wds x))(W:SlO 1 aq 0 h D (wds y)):CV 157 #[.slice A n c,.slice D i d] w h (iV (bY x y)):=by
 have a:=(((sS g).aS V).aS W);refine go Tryz.func157 [(0,qS A n c),(1,qS D i d)] rfl (aa a ac (ag (aa a [.c,.v (nV n),.c,.v (nV i)] ?_)));cases p:((n:Int) != (i:Int))
 .
  have u:=aU p;refine lB 10 p (ah (cK (cQ (aa a [.c,.v (nV n)] (lV 18 (iV ((n:Int)-1)) ?_ (hr:=rS (((n:Nat)-1)) kR ((g5 oM oM).trans oM)))))));refine lL a ac (aZ ?_);refine bH _ (CG.loop (fun I Γ Q=>∃ (m:Nat)(C:Hp),I=m/\Γ=[(0,qS A n c),(1,qS D i d),(5,iV ((m:Int)-1))]/\SS w h Q C [] [] [fun C=>SlO 1 aq 0 C D (wds y),fun C=>SlO 1 aq 0 C A (wds x)]/\m<=n/\(wds x).length=(wds y).length/\(wds x).drop m=(wds y).drop m) _ ⟨n,h,rfl,rfl,a.to _ _,nR _,oM,(by rw[NR oM,NR oM])⟩ ?_);rintro _ _ w2 ⟨m,h3,X,rfl,a,hm,e,j⟩;refine cQ (aa a ac ?_);cases o:(decide ((0:Int)<=((m:Int)-1:Int)))
  .
   have B:=oF o;refine lB 20 o (ah (CG.exit ?_))
   show CG _ _ _ _ _ _ _ _
   exact aa a ac (ae a [] (iV 0) (by rw[jv (Ht (by rw[show m=0 by omega] at j;simpa using j))]))
  have B:=oT o;refine lB 20 o (ak (cK (cQ (kZ (cQ (cR 9 [] mixed a ao ?_))))));refine eV 0 23 (qS A n c) (eV 1 24 (iV ((m:Int)-1)) (eX 2 25 A n c 1 ((m:Int)-1) (m-1) ((a.f.2.1).ok oM) (eH 3 26 (mV ((wds x).getD (m-1) 0)) a ((a.f.2.1).el (m-1) oM) (eV 4 27 (qS D i d) (eV 5 28 (iV ((m:Int)-1)) (eX 6 29 D i d 1 ((m:Int)-1) (m-1) ((a.f.1).ok oM) (eH 7 30 (mV ((wds y).getD (m-1) 0)) a ((a.f.1).el (m-1) oM) ?_)))))));cases l:((((wds x).getD (m-1) 0:Nat):Int) != (((wds y).getD (m-1) 0:Nat):Int))
  .
   have z:=aU l;refine eB 8 31 l (bM a (fun Z K a=>tN (dE (cK (kQ (lL a ac (lV 22 (iV (((m-1:Nat):Int)-1)) ?_ (hr:=rS ((((m:Int)-1)-1)) kR ((g5 oM oM).trans oM)))))))));refine lL a ac (lD ?_);intro Y O;refine ⟨_,_,?_,⟨m-1,K,rfl,rfl,a.to _ _,oM,e,(f4 (k:=m-1) e oM (by rw[show m-1+1=m by omega];exact j) oM)⟩,O.to _ kR⟩
   omega
  have z:=aJ l;refine eB 8 31 l (bM a (fun _ _ a=>tN (ck (cQ (cQ (cR 9 [] mixed a ao ?_))))));refine eV 0 32 (qS A n c) (eV 1 33 (iV ((m:Int)-1)) (eX 2 34 A n c 1 ((m:Int)-1) (m-1) ((a.f.2.1).ok oM) (eH 3 35 (mV ((wds x).getD (m-1) 0)) a ((a.f.2.1).el (m-1) oM) (eV 4 36 (qS D i d) (eV 5 37 (iV ((m:Int)-1)) (eX 6 38 D i d 1 ((m:Int)-1) (m-1) ((a.f.1).ok oM) (eH 7 39 (mV ((wds y).getD (m-1) 0)) a ((a.f.1).el (m-1) oM) ?_)))))));cases F:(decide ((((wds x).getD (m-1) 0:Nat):Int)<(((wds y).getD (m-1) 0:Nat):Int)))
  .
   have J:=oF F;exact eB 8 40 F (bM a (fun _ _ a=>tN (dE (cK (aa a ac (ae a [] (iV 1) (by rw[<-l7 (k:=m-1) e oM (by rw[show m-1+1=m by omega];exact j) oM,f5 oM])))))))
  have J:=oT F;exact eB 8 40 F (bM a (fun _ _ a=>tN (ck (aa a ac (ae a [] (iV (-1)) (by rw[<-l7 (k:=m-1) e oM (by rw[show m-1+1=m by omega];exact j) oM,ei oM]))))))
 have u:=aJ p;refine lB 10 p (ak (cQ (aa a [.c,.v (nV n),.c,.v (nV i)] ?_)));cases H:(decide ((n:Int)<(i:Int)))
 .
  have L:=oF H;exact lB 15 H (ah (cK (aa a ac (ae a [] (iV 1) (by rw[f5 (gR oM)])))))
 have L:=oT H;exact lB 15 H (ak (aa a ac (ae a [] (iV (-1)) (by rw[ei (gR oM)]))))
theorem BM (n)(hn:0<n)(hl:(wds n).length<=(10^9))(w h)(g:G w h):CR 154 #[nv n] w h (fun v h1=>Ei h h1 v (wds n)):=by
 have e:=sS g;have Y:=mZ n;have hwl:=nO n;have hbl:=kv n ((nb n+7)/8);have X:=(cI hn).2.2;refine go Tryz.func154 [(0,nv n)] rfl (aA (lA 1 44 (nc n) e (fun Q w2 h3 e=>lL e ac (aG (lL e [.o (nv n) 0 0 2] (lC 7 e (Cz n hl _ _ e.g) ?_))))));rintro _ w4 h5 e ⟨B,rfl,hb⟩;replace e:=e.aS hb;refine lL e ac (aG (lL e [.c,.v (nV ((nb n+7)/8))] (bw 10 ((((nb n+7)/8):Nat)+7) ((((nb n+7)/8):Nat)+7) ?_)));refine lV 11 (nV (((((nb n+7)/8):Nat)+7:Nat)/8)) ?_ (hr:=aK (dU (t:=3) (u:=3) (x:=.tmp 10) (y:=.const (iV 8)) (k:=.i64) (a:=(((((nb n+7)/8):Nat)+7:Nat):Int)) (b:=(8:Int)) kR kR kR oM _) (dN ((((nb n+7)/8):Nat)+7:Nat) 8 oM));refine lK 12 42 (((((nb n+7)/8):Nat)+7:Nat)/8:Nat) 1 8 (uV 0) aq 0 e (fun j w7 h8 e=>?_);have K:(Af (((((nb n+7)/8):Nat)+7:Nat)/8:Nat) 0).length=(((((nb n+7)/8):Nat)+7:Nat)/8:Nat):=by simp
 refine lL e ac (ag (aa e [.c,.v (nV ((nb n+7)/8)),.c] (aZ ?_)));refine bH _ (CG.loop (fun O Γ w_=>∃ (i:Nat)(l:List Nat)(S:Hp),O=((nb n+7)/8)-i/\Γ=[(2,sZ),(3,qS B ((nb n+7)/8) ((nb n+7)/8)),(4,qS (sB j) (((((nb n+7)/8):Nat)+7:Nat)/8:Nat) (((((nb n+7)/8):Nat)+7:Nat)/8:Nat)),(14,nV ((nb n+7)/8)),(15,nV i)]/\SS w h w_ S [⟨j,42,(l).flatMap aq⟩,⟨Q,44,nc n⟩] [] [fun S=>SlO 1 oe 0 S B (gt n ((nb n+7)/8))]/\i<=((nb n+7)/8)/\l.length=(((nb n+7)/8)+7)/8/\Wd l/\aD l=n%256^i) _ ⟨0,Af (((((nb n+7)/8):Nat)+7:Nat)/8:Nat) 0,h8,rfl,rfl,e.to _ _,NY _,K,Wd.rep _,(by show ai _ _=_;rw[dQ,NZ,Nat.mod_one])⟩ ?_);rintro _ _ _ ⟨i,l,_,V,rfl,e,hi,D,L,inv⟩;have hbi:=lr n ((nb n+7)/8) (((nb n+7)/8)-1-i);refine aA ?_;cases F:(decide ((i:Int)<((((nb n+7)/8):Nat):Int)))
 .
  have zb:=oF F;refine lB 16 F (ag (dE (CG.exit ?_)))
  show CG _ _ _ _ _ _ _ _
  refine aa e ax (lN (kX ?_));have H:i=((nb n+7)/8):=by omega
  have W:aD l=n:=by rw[inv,H];exact Am (Cp n)
  have U:l=wds n:=by rw[<-W];exact (B7 L (by rw[D,W];omega)).symm
  rw[U] at e;obtain ⟨_,e,C,p,z⟩:=e.pub 0;replace e:=(e.to [⟨Q,44,nc n⟩] []).aS (SlO.of_flat (sz:=1) (f:=aq) (d:=0) (b:=j) (o:=0) (l:=wds n) (fun _=>rfl) C);exact e.ret [] (qS (sB j) (((((nb n+7)/8):Nat)+7:Nat)/8:Nat) (((((nb n+7)/8):Nat)+7:Nat)/8:Nat)) (⟨j,(by rw[show (((nb n+7)/8)+7)/8=(wds n).length by omega]),p,z,e.f.1⟩)
 have zb:=oT F;refine lB 16 F (ag (ck (cK (cQ (kZ (aa e ax (lN (cR 19 [] mixed e ao ?_))))))));refine eV 0 18 (qS (sB j) (((((nb n+7)/8):Nat)+7:Nat)/8:Nat) (((((nb n+7)/8):Nat)+7:Nat)/8:Nat)) (eV 1 19 (nV i) (eV 2 20 (nV (i/8)) ?_ (hv:=fun _=>aK (dU (t:=3) (u:=3) (x:=.tmp 19) (y:=.const (iV 8)) (k:=.i64) (a:=(i:Int)) (b:=(8:Int)) kR kR kR oM _) (dN i 8 oM))));refine eX 3 21 (sB j) (((((nb n+7)/8):Nat)+7:Nat)/8:Nat) (((((nb n+7)/8):Nat)+7:Nat)/8:Nat) 1 (i/8:Nat) (i/8) rfl (eQ 4 22 0 l aq 1 0 (i/8) (mV ((l).getD (i/8) 0)) e oM (eV 5 23 (qS B ((nb n+7)/8) ((nb n+7)/8)) (eV 6 24 (qS B ((nb n+7)/8) ((nb n+7)/8)) (eV 7 25 (nV ((nb n+7)/8)) (kL 8 26 ((((nb n+7)/8):Nat)-1) ((((nb n+7)/8):Nat)-1) (eV 9 27 (nV i) (kL 10 28 (((((nb n+7)/8):Nat)-1:Nat)-(i:Nat)) (((((nb n+7)/8):Nat)-1:Nat)-i) (eX 11 29 B ((nb n+7)/8) ((nb n+7)/8) 1 (((((nb n+7)/8):Nat)-1:Nat)-i:Nat) (((((nb n+7)/8):Nat)-1:Nat)-i:Nat) ((e.f.1).ok oM) (eH 12 30 (.int .u8 ((gt n ((nb n+7)/8)).getD (((((nb n+7)/8):Nat)-1:Nat)-i:Nat) 0:Nat)) e ((e.f.1).el (((((nb n+7)/8):Nat)-1:Nat)-i:Nat) oM) (eV 13 31 (mV ((gt n ((nb n+7)/8)).getD (((((nb n+7)/8):Nat)-1:Nat)-i:Nat) 0)) ?_ (hv:=fun _=>rU ((((gt n ((nb n+7)/8)).getD (((((nb n+7)/8):Nat)-1:Nat)-i:Nat) 0:Nat):Int)) kR (bh oM oM))))))))))));refine eV 14 32 (nV i) (eV 15 33 (nV (i%8)) ?_ (hv:=fun _=>aK (fP (t:=3) (u:=3) (x:=.tmp 32) (y:=.const (iV 8)) (k:=.i64) (a:=(i:Int)) (b:=(8:Int)) kR kR kR oM _) (dH i 8)));refine kL 16 34 (8*(i%8:Nat)) (8*(i%8)) (eV 17 35 (mV (((gt n ((nb n+7)/8)).getD (((((nb n+7)/8):Nat)-1:Nat)-i:Nat) 0:Nat)*2^(8*(i%8))%(2^64))) ?_ (hv:=fun _=>iq (t:=42) (u:=3) (x:=.tmp 31) (y:=.tmp 34) (ky:=.i64) (a:=((gt n ((nb n+7)/8)).getD (((((nb n+7)/8):Nat)-1:Nat)-i:Nat) 0:Nat)) (n:=(8*(i%8))) kR kR kR _));obtain ⟨I,M,J⟩:=uY oM inv (show (gt n ((nb n+7)/8)).getD (((nb n+7)/8)-1-i) 0=n/256^i%256 by rw[jA n ((nb n+7)/8) _ oM,show ((nb n+7)/8)-1-(((nb n+7)/8)-1-i)=i by omega]);have hlg:=L.get (i/8);refine eV 18 36 (mV (l.getD (i/8) 0+(gt n ((nb n+7)/8)).getD (((nb n+7)/8)-1-i) 0*2^(8*(i%8)))) ?_ (hv:=fun _=>aK (iO (t:=42) (u:=42) (x:=.tmp 22) (y:=.tmp 35) (a:=((l).getD (i/8) 0)) (b:=(((gt n ((nb n+7)/8)).getD (((((nb n+7)/8):Nat)-1:Nat)-i:Nat) 0:Nat)*2^(8*(i%8))%(2^64):Nat)) kR kR kR oM oM _) (by rw[I]));refine bM e (fun _ zd e=>tX 19 37 (sB j) (((((nb n+7)/8):Nat)+7:Nat)/8:Nat) (((((nb n+7)/8):Nat)+7:Nat)/8:Nat) 1 (i/8:Nat) (i/8) rfl (tW 20 0 l aq 1 (i/8) (l.getD (i/8) 0+(gt n ((nb n+7)/8)).getD (((nb n+7)/8)-1-i) 0*2^(8*(i%8)):Nat) e oM (fun _ e=>?_)));have Z:((l).set (i/8) (l.getD (i/8) 0+(gt n ((nb n+7)/8)).getD (((nb n+7)/8)-1-i) 0*2^(8*(i%8)):Nat)).length=(((((nb n+7)/8):Nat)+7:Nat)/8:Nat):=by rw[NI];exact D
 replace e:=e.to [⟨j,42,((l).set (i/8) (l.getD (i/8) 0+(gt n ((nb n+7)/8)).getD (((nb n+7)/8)-1-i) 0*2^(8*(i%8)):Nat)).flatMap aq⟩,⟨Q,44,nc n⟩] [];refine tN (kQ (bw 38 ((i:Nat)+1) (i+1) ?_));refine lL e ac (lD ?_);intro a_ ka;refine ⟨_,_,?_,⟨i+1,(l).set (i/8) (l.getD (i/8) 0+(gt n ((nb n+7)/8)).getD (((nb n+7)/8)-1-i) 0*2^(8*(i%8)):Nat),zd,rfl,rfl,e.to _ _,oM,Z,(L.set _ M),J⟩,ka.to _ kR⟩
 omega
theorem DZ (A c l n)(hn:l.length=n)(H:Wd l)(hl:l.length<=(10^9))(w h)(g:G w h)(hA:SlO 1 aq 0 h A l):CV 159 #[.slice A n c] w h (nv (aD l)):=by
 have e:=((sS g).aS hA);refine go Tryz.func159 [(0,qS A n c)] rfl (aA (lA 2 44 ([uV 0,eS]) e (fun F w2 h3 e=>aG (lL e [.c,.v (nV n)] (bw 7 (8*(n:Nat)) (8*n) ?_)))));refine lK 8 5 (8*n) 1 1 (.int .u8 0) oe 0 e (fun B w5 h6 e=>?_);have L:(Af (8*n) 0).length=(8*n):=by simp
 refine lL e ac (ag (aa e [.c,.v (nV (8*n)),.c] (aZ ?_)));refine bH _ (CG.loop (fun I Γ Z=>∃ (i:Nat)(z:List Nat)(K:Hp),I=8*n-i/\Γ=[(0,qS A n c),(2,pB F),(3,qS (sB B) (8*n) (8*n)),(10,nV (8*n)),(11,nV i)]/\SS w h Z K [⟨B,5,(z).flatMap oe⟩,⟨F,44,[uV 0,eS]⟩] [] [fun K=>SlO 1 aq 0 K A l]/\i<=8*n/\z.length=8*n/\(∀ j,j<i->z.getD (8*n-1-j) 0=aD l/256^j%256)) _ ⟨0,Af (8*n) 0,h6,rfl,rfl,e.to _ _,NY _,L,(fun j O=>absurd O oM)⟩ ?_);rintro _ _ w8 ⟨i,z,X,U,rfl,e,hi,p,Q⟩;have hwi:=H.get (i/8);refine aA ?_;cases D:(decide ((i:Int)<(((8*n):Nat):Int)))
 .
  have zb:=oF D;refine lB 12 D (ag (dE (CG.exit ?_)))
  show CG _ _ _ _ _ _ _ _
  refine aa e ac ?_;have W:i=8*n:=by omega
  have J:z=gt (aD l) (8*n):=tE p (fun j O=>Q j oM);rw[J] at e
  obtain ⟨_,e,C,M,S⟩:=e.pub 0;replace e:=(e.to [⟨F,44,[uV 0,eS]⟩] []).aS (SlO.of_flat (sz:=1) (f:=oe) (d:=0) (b:=B) (o:=0) (l:=gt (aD l) (8*n)) (fun _=>rfl) C);exact ar 33 e (Cv (aD l) (8*n) (sB B) (8*n) oM oM (by have:=Lt H;rwa [hn] at this) _ _ e.g e.f.1) (fun _ _ e=>lP 0 0 (nc (aD l)) e (fun _ e=>ae e [(0,0,2)] (nv (aD l)) rfl))
 have zb:=oT D;refine lB 12 D (ag (ck (cK (cQ (kZ (aa e ax (lN (kQ (lL e [.c,.c,.v (nV (8*n))] (bw 17 (((8*n):Nat)-1) ((8*n)-1) ?_))))))))));refine lL e ac (bw 19 (((8*n)-1:Nat)-(i:Nat)) (((8*n)-1)-i) ?_);refine lL e ax (lV 22 (nV (i/8)) ?_ (hr:=aK (dU (t:=3) (u:=3) (x:=.tmp 21) (y:=.const (iV 8)) (k:=.i64) (a:=(i:Int)) (b:=(8:Int)) kR kR kR oM _) (dN i 8 oM)));refine lX 23 A n c 1 (i/8:Nat) (i/8) ((e.f.1).ok oM) (lH 24 (mV (l.getD (i/8) 0)) e ((e.f.1).el (i/8) oM) (lL e ac (lV 26 (nV (i%8)) ?_ (hr:=aK (fP (t:=3) (u:=3) (x:=.tmp 25) (y:=.const (iV 8)) (k:=.i64) (a:=(i:Int)) (b:=(8:Int)) kR kR kR oM _) (dH i 8)))));refine bw 27 (8*(i%8:Nat)) (8*(i%8)) (lV 28 (mV ((l.getD (i/8) 0)/2^(8*(i%8)))) ?_ (hr:=gY (t:=42) (u:=3) (x:=.tmp 24) (y:=.tmp 27) (ky:=.i64) (a:=(l.getD (i/8) 0)) (n:=(8*(i%8))) kR kR kR oM _));refine lV 29 (.int .u8 (l.getD (i/8) 0/2^(8*(i%8))%256:Nat)) ?_ (hr:=aK (n:=IntKind.wrap .u8 ((l.getD (i/8) 0/2^(8*(i%8)):Nat):Int)) kR (DW _));refine lX 30 (sB B) (8*n) (8*n) 1 (((8*n)-1)-i:Nat) (((8*n)-1)-i:Nat) rfl (lW 0 z oe 1 (((8*n)-1)-i:Nat) (l.getD (i/8) 0/2^(8*(i%8))%256:Nat) e oM (fun _ e=>?_));have V:((z).set (((8*n)-1)-i:Nat) (l.getD (i/8) 0/2^(8*(i%8))%256:Nat)).length=(8*n):=by rw[NI];exact p
 replace e:=e.to [⟨B,5,((z).set (((8*n)-1)-i:Nat) (l.getD (i/8) 0/2^(8*(i%8))%256:Nat)).flatMap oe⟩,⟨F,44,[uV 0,eS]⟩] [];refine lN (kQ (bw 31 ((i:Nat)+1) (i+1) ?_));refine lL e ac (lD ?_);intro a_ Y;refine ⟨_,_,?_,⟨i+1,(z).set (((8*n)-1)-i:Nat) (l.getD (i/8) 0/2^(8*(i%8))%256:Nat),X,rfl,rfl,e.to _ _,oM,V,(iC p oM Q (rx H i))⟩,Y.to _ kR⟩
 omega
end Go.Proofs.YtjljjeiejbhegaaGreatDoor
