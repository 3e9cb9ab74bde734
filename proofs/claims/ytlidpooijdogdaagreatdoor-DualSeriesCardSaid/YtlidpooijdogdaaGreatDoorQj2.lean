/- Laws of this claim, part 3. -/
import Derived.Test.YtlidpooijdogdaaGreatDoorQj0
import Derived.Test.YtlidpooijdogdaaGreatDoorQj1
set_option maxRecDepth 100000
set_option maxHeartbeats 4000000
namespace Go.Proofs.YtlidpooijdogdaaGreatDoor
open Int renaming eq_ofNat_of_zero_le -> MF, mul_neg -> MG, neg_mul -> MH, neg_neg -> MI
open List renaming drop_eq_nil_of_le -> Mm, drop_zero -> yy, flatMap_cons -> wj, length_drop -> LU, length_set -> Md, length_take -> Lp, mem_cons -> gs, mem_cons_of_mem -> ME, mem_cons_self -> MD, mem_singleton -> sA, replicate -> zZ, set_set -> MB, take_length -> yY, take_of_length_le -> LO
open Nat renaming add_mul -> LN, add_sub_cancel -> L5, add_zero -> yh, div_add_mod -> LR, div_eq_of_lt -> Hi, div_le_self -> F2, div_mul_le_self -> L1, eq_of_mul_eq_mul_left -> MK, eq_zero_or_pos -> Aw, gcd -> My, gcd_comm -> MA, gcd_mul_left -> MM, le_of_eq -> MC, le_total -> ML, le_trans -> eb, lt_of_lt_of_le -> ek, lt_or_ge -> cD, min_eq_left -> Lq, min_eq_right -> LS, mod_eq_of_lt -> z2, mod_lt -> z6, mul_add -> Lm, mul_assoc -> Ln, mul_comm -> H1, mul_le_mul_left -> Lz, mul_le_mul_right -> zh, mul_lt_mul_of_pos_left -> LK, mul_lt_mul_of_pos_right -> L8, mul_one -> LL, mul_zero -> Ls, one_mul -> LP, pow_add -> Ly, pow_le_pow_right -> Lw, pow_mul -> LB, pow_succ -> HA, pow_zero -> Mw, sub_le -> MJ, succ_pos -> Mx, two_pow_pos -> Lv, zero_add -> y9, zero_le -> Mv, zero_mul -> y6
open Go.RowKit
theorem E5 (A:Z9)(c:Nat)(l:List Nat)(D:l.length<=1099511627776)(F:l.length<=c)(w:World)(h:Hp)(g:G w h)(B:SlO 1 ao 0 h A l):CV 151 #[.slice A l.length c] w h (.slice A (tl l l.length) c):=by
 have a:=((sS g).aS B);refine go Tryz.func151 [(0,qS A l.length c)] rfl (aa a ac (ah (kZ ?_)));refine bH _ (CG.loop (fun o Γ y=>∃ (m:Nat)(u:Hp),o=m/\Γ=[(2,sZ),(0,qS A m c)]/\SS w h y u [] [] [fun u=>SlO 1 ao 0 u A l]/\m<=l.length/\tl l l.length=tl l m) _ ⟨l.length,h,rfl,rfl,a.to _ _,nR _,rfl⟩ ?_);rintro _ _ w1 ⟨m,z,x,rfl,a,H,p⟩;refine cQ (aa a [.c,.v (nV m)] ?_);cases d:(decide ((0:Int)<(m:Int)))
 .
  have i:=oF d;refine lB 5 d (lL a ac (lG 7 ?_));refine lG 8 (lG 9 (lG 10 (lG 11 (lG 12 (lG 13 (lL a [.v qF] (ag (CG.exit ?_))))))))
  show CG _ _ _ _ _ _ _ _
  exact aa a ax (ae a [] (qS A m c) (by rw[p,og oM]))
 have i:=oT d;refine lB 5 d (lL a [.c,.c,.c,.v (nV m)] (bv 10 ((m:Nat)-1) (m-1) ?_));refine lX 11 A m c 1 (m-1:Nat) (m-1) ((a.f.1).ok oM) (lH 12 (mV (l.getD (m-1) 0)) a ((a.f.1).el (m-1) oM) ?_);cases e:(((l.getD (m-1) 0:Nat):Int) == (0:Int))
 .
  have j:=aj e;refine lB 13 e (lL a [.v qF] (ag (CG.exit ?_)))
  show CG _ _ _ _ _ _ _ _
  exact aa a ax (ae a [] (qS A m c) (by rw[p,og oM]))
 have j:=eq_of_beq e;refine lB 13 e (lL a [.v qT] (ak (cK (kZ (kQ (lL a [.c,.c,.v (nV m)] (bv 18 ((m:Nat)-1) (m-1) ?_)))))));refine lT 19 A m c 1 (m-1:Nat) (m-1) (lL a ac (lD ?_));intro I C;refine ⟨_,_,?_,⟨m-1,z,rfl,rfl,a.to _ _,oM,(by rw[p];exact BW oM oM)⟩,C.to _ kR⟩
 omega
theorem qe {l m:List Nat}(c:l.length=m.length)(h:∀ j,j<l.length->l.getD j 0=m.getD j 0):l=m:=by
 apply List.ext_getElem c
 intro i h1 a;have:=h i h1
 simpa [h1,a] using this
theorem pF {l m:List Nat}{i x:Nat}(hi:i<l.length)(h:∀ j,j<i->l.getD j 0=m.getD j 0)(a:x=m.getD i 0):∀ j,j<i+1->(l.set i x).getD j 0=m.getD j 0:=fun j c=>by
 rw[bC hi]
 split
 ·rename_i e;rw[<-e];exact a
 ·exact h j oM
def C5 (h h1:Hp)(v:Value)(l:List Nat):Prop:=∃ b,v=.slice (some ⟨b,0,none⟩) l.length l.length/\h.size<=b/\h1[b]?=some (.cells (l.flatMap ao).toArray 43 (0,0))/\SlO 1 ao 0 h1 (some ⟨b,0,none⟩) l
theorem kT  (w:World)(h:Hp)(g:G w h):CV 163 #[nv 0] w h sZ:=by
 have a:=sS g;exact go Tryz.func163 [(0,nv 0)] rfl (aD (lA 1 45 ([uV 0,eS]) a (fun d w2 e a=>lL a ac (ah (aa a [.v (qP d 1),.o (eS) 0 1 1,.v qT,.c,.v (pB d),.o (uV 0) 0 0 1,.v qT,.v qT] (ak (aa a ac (ae a [] (sZ) rfl))))))))
theorem iM (s:ByteArray)(k:Nat):(s.extract k s.size).size=s.size-k:=by
 simp[ByteArray.size_extract]
theorem pZ {n L:Nat}(a:0<L):∀ j,j<1->((zZ L 0).set 0 (n%18446744073709551616)).getD j 0=(wds n).getD j 0:=fun j c=>by
 have:j=0:=by omega
 subst this;rw[bC (by simpa using a),if_pos rfl];have:=rx n
 unfold lo at this
 exact Int.ofNat.inj this
theorem DC (n:Nat)(hn:0<n)(hl:(wds n).length<=1000000000)(B:n<18446744073709551616)(w:World)(h:Hp)(g:G w h):CR 163 #[nv n] w h (fun v h1=>C5 h h1 v (wds n)):=by
 have e:=sS g;have hz:=iZ n;have hp:=kz.2 hn;have W:=mm B;have O:=congrArg List.length (kj hn B)
 simp only[List.length_singleton] at O
 refine go Tryz.func163 [(0,nv n)] rfl (aD (lA 1 45 (nc n) e (fun p w2 h3 e=>lL e ac (ah (aa e [.v (qP p 1),.o (.string (hi n)) 0 1 1] (lV 7 qT ?_ (hr:=rb kR (j8 (ff B)))))))));refine lL e [.c,.v (pB p),.o (mV (n%18446744073709551616)) 0 0 1] ?_;have C:(((n%18446744073709551616:Nat):Int) == (0:Int))=false:=fh oM;have Q:=aj C;refine lB 11 C (lL e [.v qF] (ag (cK (aa e [.v (qP p 1),.o (.string (hi n)) 0 1 1,.v (nV ((hi n).size))] (lV 16 (nV (((hi n).size)/8)) ?_ (hr:=aI (dD (t:=3) (u:=3) (x:=.tmp 15) (y:=.const (iV 8)) (k:=.i64) (a:=(((hi n).size:Nat):Int)) (b:=(8:Int)) kR kR kR oM _) (dI ((hi n).size) 8 oM)))))));refine bv 17 (1+(((hi n).size)/8:Nat)) ((wds n).length) (lK 18 43 ((wds n).length) 1 8 (uV 0) ao 0 e (fun z w6 Z e=>?_));have M:(zZ ((wds n).length) 0).length=((wds n).length):=by simp
 refine lL e ac (aG (lL e [.c,.v (pB p),.o (mV (n%18446744073709551616)) 1 0 1] (lX 22 (sB z) ((wds n).length) ((wds n).length) 1 0 0 rfl ?_)));refine lW 0 (zZ ((wds n).length) 0) ao 1 0 (n%18446744073709551616) e oM (fun w9 e=>?_);have zc:((zZ ((wds n).length) 0).set 0 (n%18446744073709551616)).length=((wds n).length):=by rw[Md];exact M
 replace e:=e.to [⟨z,43,((zZ ((wds n).length) 0).set 0 (n%18446744073709551616)).flatMap ao⟩,⟨p,45,nc n⟩] [];refine ah (aa e ac (aZ ?_));refine bH _ (CG.loop (fun J Γ Y=>∃ (i:Nat)(l:List Nat)(h_:Hp),J=(wds n).length-i/\Γ=[(1,pB p),(2,sZ),(3,qS (sB z) ((wds n).length) ((wds n).length)),(4,nV i)]/\SS w h Y h_ [⟨z,43,(l).flatMap ao⟩,⟨p,45,nc n⟩] [] []/\1<=i/\i<=(wds n).length/\l.length=(wds n).length/\(∀ j,j<i->l.getD j 0=(wds n).getD j 0)) _ ⟨1,(zZ ((wds n).length) 0).set 0 (n%18446744073709551616),Z,rfl,rfl,e.to _ _,nR _,by omega,zc,pZ oM⟩ ?_);rintro _ _ _ ⟨i,l,_,S,rfl,e,X,V,K,U⟩;refine cQ (aa e [.c,.c,.v (nV ((wds n).length))] ?_);cases I:(decide ((i:Int)<((((wds n).length):Nat):Int)))
 .
  have zb:=oF I;refine lB 26 I (ag (CG.exit ?_))
  show CG _ _ _ _ _ _ _ _
  refine aa e ax (lN (kX ?_));have hiL:i=(wds n).length:=by omega
  have L:l=wds n:=qe oM (fun j hj=>U j oM);rw[L] at e
  obtain ⟨_,e,H,F,D⟩:=e.pub 0;replace e:=(e.to [⟨p,45,nc n⟩] []).aS (SlO.of_flat (sz:=1) (f:=ao) (d:=0) (b:=z) (o:=0) (l:=wds n) (fun _=>rfl) H);exact e.ret [] (qS (sB z) ((wds n).length) ((wds n).length)) (⟨z,rfl,F,D,e.f.1⟩)
 have zb:=oT I;refine lB 26 I (ak (cK (cQ (kZ (kQ (lL e [.c,.c,.v (qP p 1),.o (.string (hi n)) 1 1 1,.c] (lI 34 ((i:Nat)-1) ?_)))))));refine bv 35 (8*((i:Nat)-1)) (8*(i-1)) (lV 36 (.string ((hi n).extract (8*(i-1)) (hi n).size)) ?_ (hr:=pU (tx:=9) (x:=.tmp 32) (i:=.tmp 35) (k:=.i64) (s:=hi n) (n:=(8*(i-1))) (j:=((8*(i-1):Nat):Int)) kR kR kR kR oM oM _));refine aq 37 e (rj ((hi n).extract (8*(i-1)) (hi n).size) (by rw[iM];omega) _ _ e.g) (fun _ ze e=>lX 38 (sB z) ((wds n).length) ((wds n).length) 1 (i:Nat) i rfl (lW 0 l ao 1 i (wv ((hi n).extract (8*(i-1)) (hi n).size):Nat) e oM (fun _ e=>?_)));have zd:((l).set i (wv ((hi n).extract (8*(i-1)) (hi n).size):Nat)).length=((wds n).length):=by rw[Md];exact K
 replace e:=e.to [⟨z,43,((l).set i (wv ((hi n).extract (8*(i-1)) (hi n).size):Nat)).flatMap ao⟩,⟨p,45,nc n⟩] [];refine lN (kQ (lL e ac (bv 28 ((i:Nat)+1) (i+1) ?_)));refine lL e ac (lD ?_);intro a_ ka;refine ⟨_,_,?_,⟨i+1,(l).set i (wv ((hi n).extract (8*(i-1)) (hi n).size):Nat),ze,rfl,rfl,e.to _ _,oM,oM,zd,(pF oM U (by rw[jC n (i-1) oM,show i-1+1=i by omega]))⟩,ka.to _ kR⟩
 omega
theorem CI (n:Nat)(hn:0<n)(hl:(wds n).length<=1000000000)(M:18446744073709551616<=n)(w:World)(h:Hp)(g:G w h):CR 163 #[nv n] w h (fun v h1=>C5 h h1 v (wds n)):=by
 have e:=sS g;have hz:=iZ n;have hp:=kz.2 hn;refine go Tryz.func163 [(0,nv n)] rfl (aD (lA 1 45 (nc n) e (fun p w2 h3 e=>lL e ac (ah (aa e [.v (qP p 1),.o (.string (hi n)) 0 1 1] (lV 7 qF ?_ (hr:=rb kR (je (fG M)))))))));refine lL e ac (lG 9 ?_);refine lG 10 (lG 11 (lL e [.v qF] (ag (cK (aa e [.v (qP p 1),.o (.string (hi n)) 0 1 1,.v (nV ((hi n).size))] (lV 16 (nV (((hi n).size)/8)) ?_ (hr:=aI (dD (t:=3) (u:=3) (x:=.tmp 15) (y:=.const (iV 8)) (k:=.i64) (a:=(((hi n).size:Nat):Int)) (b:=(8:Int)) kR kR kR oM _) (dI ((hi n).size) 8 oM))))))));refine bv 17 (1+(((hi n).size)/8:Nat)) ((wds n).length) (lK 18 43 ((wds n).length) 1 8 (uV 0) ao 0 e (fun z w5 S e=>?_));have L:(zZ ((wds n).length) 0).length=((wds n).length):=by simp
 refine lL e ac (aG (lL e [.c,.v (pB p),.o (mV (n%18446744073709551616)) 1 0 1] (lX 22 (sB z) ((wds n).length) ((wds n).length) 1 0 0 rfl ?_)));refine lW 0 (zZ ((wds n).length) 0) ao 1 0 (n%18446744073709551616) e oM (fun w8 e=>?_);have K:((zZ ((wds n).length) 0).set 0 (n%18446744073709551616)).length=((wds n).length):=by rw[Md];exact L
 replace e:=e.to [⟨z,43,((zZ ((wds n).length) 0).set 0 (n%18446744073709551616)).flatMap ao⟩,⟨p,45,nc n⟩] [];refine ah (aa e ac (aZ ?_));refine bH _ (CG.loop (fun H Γ W=>∃ (i:Nat)(l:List Nat)(h_:Hp),H=(wds n).length-i/\Γ=[(1,pB p),(2,sZ),(3,qS (sB z) ((wds n).length) ((wds n).length)),(4,nV i)]/\SS w h W h_ [⟨z,43,(l).flatMap ao⟩,⟨p,45,nc n⟩] [] []/\1<=i/\i<=(wds n).length/\l.length=(wds n).length/\(∀ j,j<i->l.getD j 0=(wds n).getD j 0)) _ ⟨1,(zZ ((wds n).length) 0).set 0 (n%18446744073709551616),S,rfl,rfl,e.to _ _,nR _,by omega,K,pZ oM⟩ ?_);rintro _ _ _ ⟨i,l,_,Q,rfl,e,V,U,I,O⟩;refine cQ (aa e [.c,.c,.v (nV ((wds n).length))] ?_);cases F:(decide ((i:Int)<((((wds n).length):Nat):Int)))
 .
  have Z:=oF F;refine lB 26 F (ag (CG.exit ?_))
  show CG _ _ _ _ _ _ _ _
  refine aa e ax (lN (kX ?_));have hiL:i=(wds n).length:=by omega
  have J:l=wds n:=qe oM (fun j hj=>O j oM);rw[J] at e
  obtain ⟨_,e,B,C,D⟩:=e.pub 0;replace e:=(e.to [⟨p,45,nc n⟩] []).aS (SlO.of_flat (sz:=1) (f:=ao) (d:=0) (b:=z) (o:=0) (l:=wds n) (fun _=>rfl) B);exact e.ret [] (qS (sB z) ((wds n).length) ((wds n).length)) (⟨z,rfl,C,D,e.f.1⟩)
 have Z:=oT F;refine lB 26 F (ak (cK (cQ (kZ (kQ (lL e [.c,.c,.v (qP p 1),.o (.string (hi n)) 1 1 1,.c] (lI 34 ((i:Nat)-1) ?_)))))));refine bv 35 (8*((i:Nat)-1)) (8*(i-1)) (lV 36 (.string ((hi n).extract (8*(i-1)) (hi n).size)) ?_ (hr:=pU (tx:=9) (x:=.tmp 32) (i:=.tmp 35) (k:=.i64) (s:=hi n) (n:=(8*(i-1))) (j:=((8*(i-1):Nat):Int)) kR kR kR kR oM oM _));refine aq 37 e (rj ((hi n).extract (8*(i-1)) (hi n).size) (by rw[iM];omega) _ _ e.g) (fun _ zd e=>lX 38 (sB z) ((wds n).length) ((wds n).length) 1 (i:Nat) i rfl (lW 0 l ao 1 i (wv ((hi n).extract (8*(i-1)) (hi n).size):Nat) e oM (fun _ e=>?_)));have Y:((l).set i (wv ((hi n).extract (8*(i-1)) (hi n).size):Nat)).length=((wds n).length):=by rw[Md];exact I
 replace e:=e.to [⟨z,43,((l).set i (wv ((hi n).extract (8*(i-1)) (hi n).size):Nat)).flatMap ao⟩,⟨p,45,nc n⟩] [];refine lN (kQ (lL e ac (bv 28 ((i:Nat)+1) (i+1) ?_)));refine lL e ac (lD ?_);intro a_ X;refine ⟨_,_,?_,⟨i+1,(l).set i (wv ((hi n).extract (8*(i-1)) (hi n).size):Nat),zd,rfl,rfl,e.to _ _,oM,oM,Y,(pF oM O (by rw[jC n (i-1) oM,show i-1+1=i by omega]))⟩,X.to _ kR⟩
 omega
theorem fY (n:Nat)(hn:0<n)(a:(wds n).length<=1000000000)(w:World)(h:Hp)(g:G w h):CR 163 #[nv n] w h (fun v h1=>C5 h h1 v (wds n)):=by
 rcases cD n 18446744073709551616 with hs|hs
 ·exact DC n hn a hs w h g
 ·exact CI n hn a hs w h g
open Go.RowKit Go.Shelf
def wA:Go.Shelf.Ren:=⟨fun|167=>153|240=>185|276=>211|n=>n,fun|0=>0|4=>4|5=>5|9=>9|20=>20|37=>161|70=>220|72=>222|75=>225|164=>272|80=>227|n=>n,fun n=>n⟩
theorem DK:Go.Proofs.Lays.n167 Tryz.prog wA:={
 mixed:=by kernel_rfl
 f167:=Tryz.func153.trans (congrArg some kR)
 f240:=Tryz.func185.trans (congrArg some kR)
 f276:=Tryz.func211.trans (congrArg some kR)
 t0:=Tryz.underlying0
 a0:=Tryz.isAgg0
 z0:=Tryz.sizeOf0
 v0:=Tryz.zeroValue0
 t4:=Tryz.underlying4
 a4:=Tryz.isAgg4
 z4:=Tryz.sizeOf4
 v4:=Tryz.zeroValue4
 t5:=Tryz.underlying5
 a5:=Tryz.isAgg5
 z5:=Tryz.sizeOf5
 v5:=Tryz.zeroValue5
 t9:=Tryz.underlying9
 a9:=Tryz.isAgg9
 z9:=Tryz.sizeOf9
 v9:=Tryz.zeroValue9
 t20:=Tryz.underlying20
 a20:=Tryz.isAgg20
 z20:=Tryz.sizeOf20
 v20:=Tryz.zeroValue20
 t37:=Tryz.underlying161
 a37:=Tryz.isAgg161
 z37:=Tryz.sizeOf161
 v37:=Tryz.zeroValue161
 t70:=Tryz.underlying220
 a70:=Tryz.isAgg220
 z70:=Tryz.sizeOf220
 v70:=Tryz.zeroValue220
 t72:=Tryz.underlying222
 a72:=Tryz.isAgg222
 z72:=Tryz.sizeOf222
 v72:=Tryz.zeroValue222
 t75:=Tryz.underlying225
 a75:=Tryz.isAgg225
 z75:=Tryz.sizeOf225
 v75:=Tryz.zeroValue225
 t164:=Tryz.underlying272
 a164:=Tryz.isAgg272
 z164:=Tryz.sizeOf272
 v164:=Tryz.zeroValue272 }
theorem x7:Builder.Extra Tryz.prog wA:={
 sizeBuilder:=by kernel_rfl
 liesBuilder:=by kernel_rfl
 t5:=Tryz.underlying5
 a5:=Tryz.isAgg5
 z5:=Tryz.sizeOf5
 v5:=Tryz.zeroValue5
 infoByte:=by kernel_rfl
 cellsByte:=by kernel_rfl
 sizeByte:=by kernel_rfl
 neB5:=by decide }
theorem Fl (A:Z9)(c:Nat)(l:List Nat)(hd:Wd l)(hl:l.length<=1099511627776)(X:l.length<=c)(w:World)(h:Hp)(g:G w h)(hA:SlO 1 ao 0 h A l):CV 123 #[.slice A l.length c] w h (nv (aA l)):=by
 have d:=((sS g).aS hA);have htl:=iq l l.length;have hdl:(l.drop 1).length=l.length-1:=LU;refine go Tryz.func123 [(0,qS A l.length c)] rfl (aD (lA 2 45 ([uV 0,eS]) d (fun O w2 h3 d=>aG (lL d ac (aq 8 d (E5 A c l hl X _ _ d.g d.f.1) (fun e h5 d=>lL d ac (ah (aa d [.c,.v (nV (tl l l.length))] (aZ (aD ?_))))))))));cases F:((((tl l l.length):Nat):Int) == (0:Int))
 .
  have J:=aj F;refine lB 12 F (lL d ac (ag (aD ?_)));cases B:((((tl l l.length):Nat):Int) == (1:Int))
  .
   have M:=aj B;refine lB 15 B (lL d ac (ag (cK (aD ?_))));have i:=d;refine Lj 3 222 [.pointer none,sZ] d (fun w8 j W U=>?_);obtain ⟨h9,d,-⟩:=i.liftJ j;refine aG (lL d [.c,.v (nV (tl l l.length))] (bv 22 (((tl l l.length):Nat)-1) ((tl l l.length)-1) ?_));refine bv 23 (8*((tl l l.length)-1:Nat)) (8*((tl l l.length)-1)) (KP 24 i j (Tryz.Builder_Grow_fresh e.heap.size e.heap.size (8*((tl l l.length)-1):Nat) _ (nR _) U W oM) (fun _ ze d o C=>?_))
   clear j
   have j:=o;clear o;have D:Lib.IsBuilder 222 5 e.heap.size e.heap.size (Lib.byteCells (((l.drop 1).take 0).flatMap b8)) _:=.inr C;refine ah (aa d ac (lF 26 A (tl l l.length) c 1 1 1 ?_));replace d:=d.aS (d.f.1.drop 1 c X);replace i:=i.aS (i.f.1.drop 1 c X);refine lL d [.v (nV ((tl l l.length)-1)),.c] (aZ ?_);refine bH _ (CG.loop (fun I Γ H=>∃ (k:Nat)(z:Hp),I=(tl l l.length)-k/\Γ=[(0,qS A (tl l l.length) c),(2,pB O),(3,.pointer (some ⟨e.heap.size,0,none⟩)),(26,qS (if c=1 then A else A.map (·.add (1*1))) ((tl l l.length)-1) (c-1)),(27,nV ((tl l l.length)-1)),(28,nV k)]/\SS w h H z [⟨O,45,[uV 0,eS]⟩] [] [fun z=>SlO 1 ao 0 z (if c=1 then A else A.map (·.add (1*1))) (l.drop 1),fun z=>SlO 1 ao 0 z A l]/\k<=(tl l l.length)-1/\Ext e H/\Lib.IsBuilder 222 5 e.heap.size e.heap.size (Lib.byteCells (((l.drop 1).take k).flatMap b8)) H) _ ⟨0,ze,rfl,rfl,d.to _ _,Mv _,j,D⟩ ?_);rintro _ _ zf ⟨k,zg,bd,rfl,d,hk,j,D⟩;have hxk:(l.drop 1).getD k 0<18446744073709551616:=Dg.getD (Dg.drop hd 1) kD k;refine aD ?_;cases Q:(decide ((k:Int)<(((tl l l.length)-1:Nat):Int)))
   .
    have zc:=oF Q;refine lB 29 Q (ah (dC (CG.exit ?_)))
    show CG _ _ _ _ _ _ _ _
    refine cQ (wn ⟨Dd e.heap.size zf.heap.size,none⟩ 5 mixed ?_);obtain ⟨_,d,hj⟩:=i.liftJ j.drew;refine aV 0 43 (qS A (tl l l.length) c) (aX 1 44 A (tl l l.length) c 1 0 0 ((d.f.2.1).ok oM) (aH 2 45 (mV (l.getD 0 0)) d ((d.f.2.1).el 0 oM) ?_ (fun b hb=>hj b (l7.1 hb).1 (l7.1 hb).2)));refine aC 3 46 ((Tryz.Builder_String_any e.heap.size e.heap.size (((l.drop 1).take k).flatMap b8) _ (rm D ((Ext.refl _).drew)) j.size).mono fun e_ _ ⟨V,K⟩=>⟨_,V,xp K,?_⟩);obtain ⟨_,d,-⟩:=i.liftJ (Below.trans j.drew K);refine aV 4 47 (.agg #[mV (l.getD 0 0),.string (⟨(((l.drop 1).take k).flatMap b8).toArray⟩)]) (tP 5 0 0 ([mV (l.getD 0 0),.string (⟨(((l.drop 1).take k).flatMap b8).toArray⟩)]) d (fun _ d=>tN (kX ?_)));have Z:k=(tl l l.length)-1:=by omega
    exact d.ret [(0,0,2)] (.agg #[mV (l.getD 0 0),.string (⟨(((l.drop 1).take k).flatMap b8).toArray⟩)]) (by rw[Z];exact DH hd oM)
   have zc:=oT Q;refine lB 29 Q (ah (cn (cK (cQ (kZ (aD (lX 30 (if c=1 then A else A.map (·.add (1*1))) ((tl l l.length)-1) (c-1) 1 (k:Nat) k ((d.f.1).ok oM) ?_)))))));refine lH 31 (mV ((l.drop 1).getD k 0)) d ((d.f.1).el k oM) (lL d ac (aG (lL d ac (aZ ?_))));refine bH _ (CG.loop (fun I Γ H=>∃ (m:Nat)(z:Hp),I=8-m/\Γ=[(0,qS A (tl l l.length) c),(2,pB O),(3,.pointer (some ⟨e.heap.size,0,none⟩)),(26,qS (if c=1 then A else A.map (·.add (1*1))) ((tl l l.length)-1) (c-1)),(27,nV ((tl l l.length)-1)),(28,nV k),(5,mV ((l.drop 1).getD k 0)),(32,nV m)]/\SS w h H z [⟨O,45,[uV 0,eS]⟩] [] [fun z=>SlO 1 ao 0 z (if c=1 then A else A.map (·.add (1*1))) (l.drop 1),fun z=>SlO 1 ao 0 z A l]/\m<=8/\Ext e H/\Lib.IsBuilder 222 5 e.heap.size e.heap.size (Lib.byteCells (((l.drop 1).take k).flatMap b8++(b8 ((l.drop 1).getD k 0)).take m)) H) _ ⟨0,zg,rfl,rfl,d.to _ _,Mv _,j,(by simpa using D)⟩ ?_);rintro _ _ _ ⟨m,zi,bb,rfl,d,hm,j,p⟩;refine aD ?_;cases S:(decide ((m:Int)<(8:Int)))
   .
    have zd:=oF S;refine lB 33 S (ah (dC (CG.exit ?_)))
    show CG _ _ _ _ _ _ _ _
    refine kQ (bv 42 ((k:Nat)+1) (k+1) ?_);refine lL d ac (lD ?_);intro a_ Y;refine ⟨_,_,?_,⟨k+1,zi,rfl,rfl,d.to _ _,oM,j,(by rw[show m=8 by omega,wc oM] at p;exact p)⟩,Y.to _ kR⟩
    omega
   have zd:=oT S;refine lB 33 S (ah (cn (cK (cQ (kZ (aa d ax (lN (kQ (lL d ax (bv 37 (8*(m:Nat)) (8*m) ?_))))))))));refine lV 38 (mV (((l.drop 1).getD k 0)/2^(8*m))) ?_ (hr:=gF (t:=43) (u:=3) (x:=.tmp 35) (y:=.tmp 37) (ky:=.i64) (a:=((l.drop 1).getD k 0)) (n:=(8*m)) kR kR kR oM _);refine lV 39 (.int .u8 ((((l.drop 1).getD k 0)/2^(8*m):Nat)%256:Nat)) ?_ (hr:=aI (n:=IntKind.wrap .u8 ((((l.drop 1).getD k 0)/2^(8*m):Nat):Int)) kR (Dq _));refine KP 40 i j (Any.Builder_WriteByte DK x7 e.heap.size e.heap.size _ ((((l.drop 1).getD k 0)/2^(8*m)%256:Nat):Int) _ p (vE oM oM oM) j.size) (fun _ zj d o C=>?_)
   clear j
   have j:=o;clear o;rw[rZ oM] at C
   have L:Lib.IsBuilder 222 5 e.heap.size e.heap.size _ _:=.inr C;refine lN (kQ (bv 41 ((m:Nat)+1) (m+1) ?_));refine lL d ac (lD ?_);intro a_ Y;refine ⟨_,_,?_,⟨m+1,zj,rfl,rfl,d.to _ _,oM,j,L⟩,Y.to _ kR⟩
   omega
  have M:=eq_of_beq B;refine lB 15 B (lL d ac (ak (aa d ac (lX 17 A (tl l l.length) c 1 0 0 ((d.f.1).ok oM) ?_))));exact lH 18 (mV (l.getD 0 0)) d ((d.f.1).el 0 oM) (lL d [.v (.agg #[mV (l.getD 0 0),eS])] (lP 0 0 ([mV (l.getD 0 0),eS]) d (fun _ d=>ae d [(0,0,2)] (.agg #[mV (l.getD 0 0),eS]) (Ho hd oM))))
 have J:=eq_of_beq F;exact lB 12 F (lL d ac (ak (aa d [.v (.agg #[uV 0,eS])] (lP 0 0 ([uV 0,eS]) d (fun _ d=>ae d [(0,0,2)] (.agg #[uV 0,eS]) (DG oM))))))
theorem JV (n:Nat)(hn:n<18446744073709551616)(w:World)(h:Hp)(g:G w h):CV 102 #[mV n] w h (nv n):=by
 have a:=sS g;exact go Tryz.func102 [(0,mV n)] rfl (aD (lA 2 45 ([uV 0,eS]) a (fun e w2 f a=>aG (lL a [.c,.v (.agg #[mV n,eS])] (lP 0 0 ([mV n,eS]) a (fun d a=>ae a [(0,0,2)] (.agg #[mV n,eS]) (jw hn)))))))
theorem th (n:Nat)(hn:n<18446744073709551616)(w:World)(h:Hp)(g:G w h):CV 149 #[nv n] w h (.tuple #[mV n,.bool true]):=by
 have a:=sS g;refine go Tryz.func149 [(0,nv n)] rfl (aD (lA 1 45 (nc n) a (fun d w2 e a=>lL a ax (ah (aa a [.v (qP d 1),.o (.string (hi n)) 0 1 1] (lV 6 qF ?_ (hr:=rb kR (Ia (ff hn)))))))));exact ag (cK (aa a [.v (pB d),.o (mV (n%18446744073709551616)) 0 0 1,.c,.c] (ae a [] (.tuple #[mV (n%18446744073709551616),qT]) (by rw[z2 hn]))))
theorem CK (n:Nat)(hn:18446744073709551616<=n)(w:World)(h:Hp)(g:G w h):CV 149 #[nv n] w h (.tuple #[uV 0,.bool false]):=by
 have a:=sS g;refine go Tryz.func149 [(0,nv n)] rfl (aD (lA 1 45 (nc n) a (fun c w2 d a=>lL a ax (ah (aa a [.v (qP c 1),.o (.string (hi n)) 0 1 1] (lV 6 qT ?_ (hr:=rb kR (Jl (fG hn)))))))));exact ak (aa a ax (ae a [] (.tuple #[uV 0,qF]) rfl))
theorem Ff (a b:Nat)(w:World)(h:Hp)(g:G w h):CV 175 #[mV a,mV b] w h (iV (bV a b)):=by
 have c:=sS g;refine go Tryz.func175 [(0,mV a),(1,mV b)] rfl (aa c ac (ah (kZ (aa c ax ?_))));cases e:(decide ((a:Int)<(b:Int)))
 .
  have f:=oF e;refine lB 8 e (lL c ac (ag (aa c ax ?_)));cases d:(decide ((b:Int)<(a:Int)))
  .
   have i:=oF d;exact lB 12 d (lL c ac (ag (cK (aa c ac (ae c [] (iV 0) (by rw[i7 oM]))))))
  have i:=oT d;exact lB 12 d (lL c ac (ak (aa c ac (ae c [] (iV 1) (by rw[fR oM])))))
 have f:=oT e;exact lB 8 e (lL c ac (ak (aa c ac (ae c [] (iV (-1)) (by rw[d9 oM])))))
theorem F6 (n:Nat)(hn:n<18446744073709551616)(w:World)(h:Hp)(g:G w h):CV 82 #[nv n] w h (nV (nb n)):=by
 have a:=sS g;refine go Tryz.func82 [(0,nv n)] rfl (aD (lA 1 45 (nc n) a (fun c w2 f a=>lL a ac (ah (aa a [.v (qP c 1),.o (.string (hi n)) 0 1 1] (lV 5 qT ?_ (hr:=rb kR (j8 (ff hn)))))))));exact ak (aa a [.v (pB c),.o (mV (n%18446744073709551616)) 0 0 1] (aq 8 a (Bk (n%18446744073709551616) wM _ _ a.g) (fun d e a=>lL a ac (ae a [] (nV (nb (n%18446744073709551616))) (by rw[z2 hn])))))
theorem Gp (n:Nat)(hn:18446744073709551616<=n)(p:(wds n).length<=1000000000)(w:World)(h:Hp)(g:G w h):CV 82 #[nv n] w h (nV (nb n)):=by
 have a:=sS g;have hz:=iZ n;have u:=de hn;refine go Tryz.func82 [(0,nv n)] rfl (aD (lA 1 45 (nc n) a (fun c w2 l a=>lL a ac (ah (aa a [.v (qP c 1),.o (.string (hi n)) 0 1 1] (lV 5 qF ?_ (hr:=rb kR (je (fG hn)))))))));refine ag (cK (cQ (cR 14 [] mixed a ar ?_)));refine eV 0 9 (qP c 1) (eO 1 10 [(0,1,1)] (.string (hi n)) a (eV 2 11 (nV ((hi n).size)) (j4 3 12 (8*((hi n).size:Nat)) (8*(hi n).size) (eV 4 13 (qP c 1) (eO 5 14 [(0,1,1)] (.string (hi n)) a (eV 6 15 (qP c 1) (eO 7 16 [(0,1,1)] (.string (hi n)) a (eV 8 17 (nV ((hi n).size)) (j4 9 18 (((hi n).size:Nat)-8) (8*((wds n).length-2)) (eV 10 19 (.string ((hi n).extract (8*((wds n).length-2):Nat) (hi n).size)) ?_ (hv:=fun _=>pU (tx:=9) (x:=.tmp 14) (i:=.tmp 18) (k:=.i64) (s:=hi n) (n:=(8*((wds n).length-2):Nat)) (j:=((8*((wds n).length-2):Nat):Int)) kR kR kR kR oM oM _)))))))))));refine au 11 20 a (fun _ _ a=>rj ((hi n).extract (8*((wds n).length-2):Nat) (hi n).size) (by rw[iM];omega) _ _ a.g) (fun C B a=>au 12 21 a (fun _ _ a=>Bk (wv ((hi n).extract (8*((wds n).length-2):Nat) (hi n).size):Nat) wM _ _ a.g) (fun F y a=>?_));have e:=jC n ((wds n).length-2) oM;rw[show (wds n).length-2+1=(wds n).length-1 by omega] at e
 have d:=xl (n:=n) oM;have f:nb (wv ((hi n).extract (8*((wds n).length-2)) (hi n).size))<=64:=kF (k:=64) (ES _);rw[<-e] at d
 exact j4 13 22 ((8*(hi n).size:Nat)+(nb (wv ((hi n).extract (8*((wds n).length-2):Nat) (hi n).size):Nat):Nat)) (nb n) (bS a (fun D z a=>tV 14 2 (nV (nb n)) (tN (kX (a.ret [] (nV (nb n)) rfl)))))
theorem f0 (n:Nat)(a:(wds n).length<=1000000000)(w:World)(h:Hp)(g:G w h):CV 82 #[nv n] w h (nV (nb n)):=by
 rcases cD n 18446744073709551616 with hs|hs
 ·exact F6 n hs w h g
 ·exact Gp n hs a w h g
theorem ml (a b:Nat)(L:(wds a).length<=1000000000)(X:(wds b).length<=1000000000)(w:World)(h:Hp)(g:G w h):CV 147 #[nv a,nv b] w h (iV (bV a b)):=by
 have c:=sS g;have S:=iZ a;have O:=iZ b;refine go Tryz.func147 [(0,nv a),(1,nv b)] rfl (aD (lA 2 45 (nc a) c (fun f w2 Z c=>lA 3 45 (nc b) c (fun l w5 K c=>lL c ac (ah (aa c [.v (qP f 1),.o (.string (hi a)) 1 1 1,.v (nV ((hi a).size)),.v (qP l 1),.o (.string (hi b)) 0 1 1,.v (nV ((hi b).size))] ?_))))));cases e:((((hi a).size:Nat):Int) != (((hi b).size:Nat):Int))
 .
  have p:=aW e;refine lB 14 e (ag (cK (cQ (aa c [.v (qP f 1),.o (.string (hi a)) 1 1 1,.v (nV ((hi a).size))] (lV 25 (iV (8*(((wds a).length-1:Nat):Int)-8)) ?_ (hr:=rS ((((hi a).size:Nat)-8)) kR ((gH oM oM).trans oM)))))));refine lL c ac (aZ ?_);refine bH _ (CG.loop (fun C Γ M=>∃ (m:Nat)(h_:Hp),C=m/\Γ=[(2,pB f),(3,pB l),(5,iV (8*(m:Int)-8))]/\SS w h M h_ [⟨l,45,nc b⟩,⟨f,45,nc a⟩] [] []/\m<=(wds a).length-1/\(wds a).length-1=(wds b).length-1/\(wds a).drop (m+1)=(wds b).drop (m+1)) _ ⟨(wds a).length-1,K,rfl,rfl,c.to _ _,nR _,oM,(by rw[Mm oM,Mm oM])⟩ ?_);rintro _ _ w8 ⟨m,h9,J,rfl,c,hm,u,d⟩;refine cQ (aa c ac ?_);cases y:(decide ((0:Int)<=(8*(m:Int)-8:Int)))
  .
   have Y:=oF y;refine lB 27 y (ag (CG.exit ?_))
   show CG _ _ _ _ _ _ _ _
   exact aa c [.v (pB f),.o (mV (a%18446744073709551616)) 1 0 1,.v (pB l),.o (mV (b%18446744073709551616)) 0 0 1] (aq 50 c (Ff (a%18446744073709551616) (b%18446744073709551616) _ _ c.g) (fun _ _ c=>lL c ac (ae c [] (iV (bV (a%18446744073709551616) (b%18446744073709551616))) (by rw[pV (a:=a) (b:=b) oM (by have H:m=0:=oM;rw[H] at d;exact d)]))))
  have Y:=oT y;refine lB 27 y (ak (cK (cQ (kZ (cQ ?_)))));have D:=c;refine FF 10 [] [] mixed c ar (eV 0 30 (qP f 1) (eO 1 31 [(1,1,1)] (.string (hi a)) c (eV 2 32 (iV (8*(m:Int)-8)) (eV 3 33 (.string ((hi a).extract (8*(m-1)) (hi a).size)) ?_ (hv:=fun _=>pU (tx:=9) (x:=.tmp 31) (i:=.tmp 32) (k:=.i64) (s:=hi a) (n:=8*(m-1)) (j:=(8*(m:Int)-8:Int)) kR kR kR kR oM oM _)))));refine eV 5 35 (qP l 1) (Bw 6 36 [(0,1,1)] (.string (hi b)) D c (eV 7 37 (iV (8*(m:Int)-8)) (eV 8 38 (.string ((hi b).extract (8*(m-1)) (hi b).size)) ?_ (hv:=fun _=>pU (tx:=9) (x:=.tmp 36) (i:=.tmp 37) (k:=.i64) (s:=hi b) (n:=8*(m-1)) (j:=(8*(m:Int)-8:Int)) kR kR kR kR oM oM _))));refine au 4 34 c (fun _ _ c=>rj ((hi a).extract (8*(m-1)) (hi a).size) (by rw[iM];omega) _ _ c.g) (fun _ _ c=>au 9 39 c (fun _ _ c=>rj ((hi b).extract (8*(m-1)) (hi b).size) (by rw[iM];omega) _ _ c.g) (fun _ _ c=>bS c (fun _ W c=>tV 10 6 (mV (wv ((hi a).extract (8*(m-1)) (hi a).size))) (tV 11 7 (mV (wv ((hi b).extract (8*(m-1)) (hi b).size))) (rW ?_)))));have F:=jC a (m-1) oM;have I:=jC b (m-1) oM;rw[show m-1+1=m by omega] at F I
  refine lL c ax ?_;cases B:(((wv ((hi a).extract (8*(m-1)) (hi a).size):Nat):Int) != ((wv ((hi b).extract (8*(m-1)) (hi b).size):Nat):Int))
  .
   have V:=aW B;refine lB 42 B (ag (cK (kQ (lL c ac (lV 29 (iV (8*((m-1:Nat):Int)-8)) ?_ (hr:=rS (((8*(m:Int)-8)-8)) kR ((gH oM oM).trans oM)))))));refine lL c ac (lD ?_);intro a_ U;refine ⟨_,_,?_,⟨m-1,W,rfl,rfl,c.to _ _,oM,u,(by rw[show m-1+1=m by omega];exact fO oM oM d oM)⟩,U.to _ kR⟩
   omega
  have V:=aK B;exact lB 42 B (ak (aa c ax (aq 45 c (Ff (wv ((hi a).extract (8*(m-1)) (hi a).size):Nat) (wv ((hi b).extract (8*(m-1)) (hi b).size):Nat) _ _ c.g) (fun _ _ c=>lL c ac (ae c [] (iV (bV (wv ((hi a).extract (8*(m-1)) (hi a).size):Nat) (wv ((hi b).extract (8*(m-1)) (hi b).size):Nat))) (by rw[jC a (m-1) oM,jC b (m-1) oM,show m-1+1=m by omega];exact congrArg (Value.int .i64) (lk oM oM d oM)))))))
 have p:=aK e;refine lB 14 e (ak (cQ (aa c [.v (qP f 1),.o (.string (hi a)) 1 1 1,.v (nV ((hi a).size)),.v (qP l 1),.o (.string (hi b)) 0 1 1,.v (nV ((hi b).size))] ?_)));cases z:(decide ((((hi a).size:Nat):Int)<(((hi b).size:Nat):Int)))
 .
  have Q:=oF z;exact lB 21 z (ag (cK (aa c ac (ae c [] (iV 1) (by rw[fR (gu oM)])))))
 have Q:=oT z;exact lB 21 z (ak (aa c ac (ae c [] (iV (-1)) (by rw[d9 (gu oM)]))))
theorem By (hi lo y:Nat)(W:hi<y)(hy:y<18446744073709551616)(hlo:lo<18446744073709551616)(w:World)(h:Hp)(g:G w h):CR 201 #[mV hi,mV lo,mV y] w h (fun v _=>∃ q r:Nat,v=.tuple #[uV q,uV r]/\hi*18446744073709551616+lo=y*q+r/\r<y/\q<18446744073709551616):=by
 have c:=sS g;refine go Tryz.func201 [(0,mV hi),(1,mV lo),(2,mV y)] rfl (aa c ax (ah (aa c ac ?_)));have Q:((y:Int) == (0:Int))=false:=fh oM;have bq:=aj Q;refine lB 20 Q (ag (cK (cQ (aa c ax ?_))));have ⟨hb2,bm⟩:=dF (p:=(y:Int)<=(hi:Int)) oM;refine lB 24 hb2 (ag (cK (cQ (aa c ac ?_))));cases C:((hi:Int) == (0:Int))
 .
  have X:=aj C;refine lB 27 C (ag (cK (aa c ac (aq 35 c (Ez y wM _ _ c.g) (fun w4 h5 c=>?_)))));obtain ⟨s,hsd⟩:∃ e,e=64-nb y:=⟨_,rfl⟩;refine lV 36 (mV s) ?_ (hr:=aI (aI (n:=IntKind.wrap .u64 ((64-nb y:Nat):Int)) kR (be oM oM)) (by rw[hsd]));refine lL c ac (aG (lL c ax ?_));obtain ⟨Y,hY⟩:∃ e,e=y*2^s:=⟨_,rfl⟩;have hn:=uP (y:=y) oM oM;rw[<-hsd,<-hY] at hn
  refine lV 39 (mV Y) ?_ (hr:=aI (ig (t:=43) (u:=140) (x:=.tmp 37) (y:=.tmp 38) (ky:=.u64) (a:=y) (n:=s) kR kR kR _) (by rw[<-hY,z2 hn.2]));refine lL c ac (aG (lL c ac ?_));obtain ⟨y1,hy1⟩:∃ e,e=Y/4294967296:=⟨_,rfl⟩;refine lV 41 (mV y1) ?_ (hr:=aI (aI (n:=Int.fdiv (Y:Int) 4294967296) kR (eh _ 4294967296)) (by rw[hy1]));refine lL c ac (aG (lL c ac ?_));obtain ⟨y0,hy0⟩:∃ e,e=Y%4294967296:=⟨_,rfl⟩;refine lV 43 (mV y0) ?_ (hr:=aI (rr (t:=43) (u:=43) (x:=.tmp 42) (y:=.const (uV 4294967295)) (a:=Y) (m:=4294967295) 32 kR kR kR oM kD _) (by rw[hy0]));refine lL c ac (aG (lL c ax ?_));have hhi:hi*2^s<Y:=by rw[hY];exact L8 W (Lv s)
  obtain ⟨L,hsl⟩:=Ds (hi:=hi) (lo:=lo) (s:=s) oM hlo;have hdl:=F2 lo (2^(64-s));have d:Y=y1*4294967296+y0:=by omega
  refine lV 46 (mV (hi*2^s)) ?_ (hr:=aI (ig (t:=43) (u:=140) (x:=.tmp 44) (y:=.tmp 45) (ky:=.u64) (a:=hi) (n:=s) kR kR kR _) (by rw[z2 oM]));refine lL c ax (lV 49 (mV (64-s)) ?_ (hr:=rU (((64:Int)-(s:Int))) kR (fI 64 s oM oM)));refine lV 50 (mV (lo/2^(64-s))) ?_ (hr:=gF (t:=43) (u:=140) (x:=.tmp 47) (y:=.tmp 49) (ky:=.u64) (a:=lo) (n:=(64-s)) kR kR kR oM _);obtain ⟨u32,hu32⟩:∃ e,e=hi*2^s+lo/2^(64-s):=⟨_,rfl⟩;rw[<-hu32] at L
  have F:u32<Y:=by
    have e2:(hi+1)*2^s<=y*2^s:=zh _ W;rw[LN,LP,<-hY] at e2
    omega
  refine lV 51 (mV u32) ?_ (hr:=aI (ir (t:=43) (u:=43) (x:=.tmp 46) (y:=.tmp 50) (a:=(hi*2^s)) (b:=(lo/2^(64-s))) kR kR kR oM oM _) (by rw[hu32,Nat.or_comm,gN s hsl,Nat.add_comm]));refine lL c ac (aG (lL c ax ?_));obtain ⟨u10,hu10⟩:∃ e,e=lo*2^s%18446744073709551616:=⟨_,rfl⟩;rw[<-hu10] at L
  have bd:u10<18446744073709551616:=by omega
  refine lV 54 (mV u10) ?_ (hr:=aI (ig (t:=43) (u:=140) (x:=.tmp 52) (y:=.tmp 53) (ky:=.u64) (a:=lo) (n:=s) kR kR kR _) (by rw[hu10]));refine lL c ac (aG (lL c ac ?_));obtain ⟨u1,hu1⟩:∃ e,e=u10/4294967296:=⟨_,rfl⟩;refine lV 56 (mV u1) ?_ (hr:=aI (aI (n:=Int.fdiv (u10:Int) 4294967296) kR (eh _ 4294967296)) (by rw[hu1]));refine lL c ac (lN (bH [(2,mV Y),(6,uV 0),(7,uV 0),(8,mV s),(9,mV y1),(10,mV y0),(11,mV u32),(12,mV u10),(13,mV u1)] ?_));refine aa c ac ?_;obtain ⟨u0,hu0⟩:∃ e,e=u10%4294967296:=⟨_,rfl⟩;refine lV 58 (mV u0) ?_ (hr:=aI (rr (t:=43) (u:=43) (x:=.tmp 57) (y:=.const (uV 4294967295)) (a:=u10) (m:=4294967295) 32 kR kR kR oM kD _) (by rw[hu0]));refine lL c ac (aG (lL c ax ?_));have H:=nh (Y:=Y) (y1:=y1) (y0:=y0) (u:=u32) (u1:=u1) d oM oM oM F;have hR0:=nz (u:=u32) (y1:=y1) oM;have hM0:=L1 u32 y1;obtain ⟨qa,hqa⟩:∃ e,e=u32/y1:=⟨_,rfl⟩;rw[<-hqa] at H hR0 hM0
  refine lV 61 (mV qa) ?_ (hr:=aI (aI (dD (t:=43) (u:=43) (x:=.tmp 59) (y:=.tmp 60) (k:=.u64) (a:=(u32:Int)) (b:=(y1:Int)) kR kR kR oM _) (km u32 y1 oM)) (by rw[hqa]));refine lL c ac (aG (lL c cJ (lV 65 (mV (qa*y1)) ?_ (hr:=rU (((qa:Int)*(y1:Int))) kR (jp qa y1 oM)))));obtain ⟨ra,hra⟩:∃ e,e=u32-qa*y1:=⟨_,rfl⟩;rw[<-hra] at H hR0
  refine lV 66 (mV ra) ?_ (hr:=aI (aI (n:=IntKind.wrap .u64 ((u32:Int)-((qa*y1:Nat):Int))) kR (fI u32 (qa*y1) oM oM)) (by rw[hra]));refine lL c ac (lN (CG.join (fun Γ I=>∃ (f:Nat)(h_:Hp),Γ=[(2,mV Y),(6,uV 0),(7,uV 0),(8,mV s),(9,mV y1),(10,mV y0),(11,mV u32),(13,mV u1),(14,mV u0),(15,mV f)]/\SS w h I h_ [] [] []/\f=(u32*4294967296+u1)/Y/\(u32*4294967296+u1)-f*Y=(u32*4294967296+u1)%Y/\f*Y<=u32*4294967296+u1) ?_ ?_))
  .
   refine kZ ?_;refine bH _ (CG.loop (fun K Γ I=>∃ (q:Nat)(r:Nat)(h_:Hp),K=q/\Γ=[(2,mV Y),(6,uV 0),(7,uV 0),(8,mV s),(9,mV y1),(10,mV y0),(11,mV u32),(13,mV u1),(14,mV u0),(15,mV q),(16,mV r)]/\SS w h I h_ [] [] []/\HalfQ Y y1 y0 u32 u1 q r/\r<4294967296) _ ⟨qa,ra,h5,rfl,rfl,c.to _ _,H,oM⟩ ?_);rintro _ _ w6 ⟨q,r,V,hm8,rfl,c,O,hr⟩;have bl:=O.qb;refine cQ (aa c ac ?_);cases D:(decide ((4294967296:Int)<=(q:Int)))
   .
    have bb:=oF D;refine lB 68 D (lL c cJ (lV 72 (mV (q*y0)) ?_ (hr:=rU (((q:Int)*(y0:Int))) kR (jp q y0 (E4 oM oM)))));refine lL c ac (lV 74 (mV (4294967296*r)) ?_ (hr:=rU (((4294967296:Int)*(r:Int))) kR (jp 4294967296 r oM)));refine lL c ac (lV 76 (mV ((4294967296*r)+u1)) ?_ (hr:=rU ((((4294967296*r:Nat):Int)+(u1:Int))) kR (eM (4294967296*r) u1 oM)));cases za:(decide ((((4294967296*r)+u1:Nat):Int)<((q*y0:Nat):Int)))
    .
     have zj:=oF za;refine lB 77 za (lL c [.v qF] (ag (CG.exit ?_)));intro B i;exact ⟨_,⟨q,V,rfl,c.to _ _,(by first|exact O.fin d oM|exact l.brk d oM oM (by have:=l.qb;omega))⟩,i.to _ kR⟩
    have zj:=oT za;refine lB 77 za (lL c [.v qT] (ak (cK (kZ (aa c ac ?_)))));have hq1:0<q:=by first|omega|exact dV (show 4294967296*r+u1<q*y0 by omega)
    have l:=O.dec d oM F (by first|exact .inl oM|exact .inr oM);refine lV 80 (mV (q-1)) ?_ (hr:=rU (((q:Int)-(1:Int))) kR (fI q 1 oM oM));refine lL c ac (aG (lL c ax (lV 83 (mV (r+y1)) ?_ (hr:=rU (((r:Int)+(y1:Int))) kR (eM r y1 oM)))));refine lL c ac (aG (lL c ac ?_));cases zb:(decide ((4294967296:Int)<=((r+y1:Nat):Int)))
    .
     have zk:=oF zb;refine lB 85 zb (ag (CG.skip ?_));intro B i;refine ⟨_,_,?_,⟨q-1,r+y1,V,rfl,rfl,c.to _ _,l,oM⟩,i.to _ kR⟩
     omega
    have zk:=oT zb;refine lB 85 zb (ak (CG.exit ?_));intro B i;exact ⟨_,⟨(q-1),V,rfl,c.to _ _,(by first|exact O.fin d oM|exact l.brk d oM oM (by have:=l.qb;omega))⟩,i.to _ kR⟩
   have bb:=oT D;refine lB 68 D (lL c ac (lG 70 ?_));refine lG 71 (lG 72 (lG 73 (lG 74 (lG 75 (lG 76 (lG 77 (lL c [.v qT] (ak (cK (kZ (aa c ac ?_)))))))))));have hq1:0<q:=by first|omega|exact dV (show 4294967296*r+u1<q*y0 by omega)
   have l:=O.dec d oM F (by first|exact .inl oM|exact .inr oM);refine lV 80 (mV (q-1)) ?_ (hr:=rU (((q:Int)-(1:Int))) kR (fI q 1 oM oM));refine lL c ac (aG (lL c ax (lV 83 (mV (r+y1)) ?_ (hr:=rU (((r:Int)+(y1:Int))) kR (eM r y1 oM)))));refine lL c ac (aG (lL c ac ?_));cases zc:(decide ((4294967296:Int)<=((r+y1:Nat):Int)))
   .
    have zl:=oF zc;refine lB 85 zc (ag (CG.skip ?_));intro B i;refine ⟨_,_,?_,⟨q-1,r+y1,V,rfl,rfl,c.to _ _,l,oM⟩,i.to _ kR⟩
    omega
   have zl:=oT zc;refine lB 85 zc (ak (CG.exit ?_));intro B i;exact ⟨_,⟨(q-1),V,rfl,c.to _ _,(by first|exact O.fin d oM|exact l.brk d oM oM (by have:=l.qb;omega))⟩,i.to _ kR⟩
  rintro _ _ ⟨f,zq,rfl,c,hF⟩;refine aD ?_;obtain ⟨hF1,hF2,hF3⟩:=hF;have hF4:=qR (u1:=u1) F oM;rw[<-hF1] at hF4
  refine lL c ac (lV 87 (mV ((u32*4294967296)%18446744073709551616)) ?_ (hr:=rU (((u32:Int)*(4294967296:Int))) kR (jW u32 4294967296)));refine lL c ac (lV 89 (mV ((((u32*4294967296)%18446744073709551616)+u1)%18446744073709551616)) ?_ (hr:=rU (((((u32*4294967296)%18446744073709551616:Nat):Int)+(u1:Int))) kR (Cg ((u32*4294967296)%18446744073709551616) u1)));refine lL c ax (lV 92 (mV ((f*Y)%18446744073709551616)) ?_ (hr:=rU (((f:Int)*(Y:Int))) kR (jW f Y)));obtain ⟨r1,hr1⟩:∃ e,e=(u32*4294967296+u1)%Y:=⟨_,rfl⟩;have o:r1<Y:=by rw[hr1];exact z6 _ oM
  refine lV 93 (mV r1) ?_ (hr:=aI (aI (n:=IntKind.wrap .u64 ((((((u32*4294967296)%18446744073709551616)+u1)%18446744073709551616:Nat):Int)-(((f*Y)%18446744073709551616:Nat):Int))) kR (kO ((((u32*4294967296)%18446744073709551616)+u1)%18446744073709551616:Nat) ((f*Y)%18446744073709551616) oM)) (by rw[nW hF3 (hF2.trans hr1.symm) oM]));refine lL c ac (aG (lL c ax ?_));have J:=nh (Y:=Y) (y1:=y1) (y0:=y0) (u:=r1) (u1:=u0) d oM oM oM o;have Z:=nz (u:=r1) (y1:=y1) oM;have hL0:=L1 r1 y1;obtain ⟨qb,hqb⟩:∃ e,e=r1/y1:=⟨_,rfl⟩;rw[<-hqb] at J Z hL0
  refine lV 96 (mV qb) ?_ (hr:=aI (aI (dD (t:=43) (u:=43) (x:=.tmp 94) (y:=.tmp 95) (k:=.u64) (a:=(r1:Int)) (b:=(y1:Int)) kR kR kR oM _) (km r1 y1 oM)) (by rw[hqb]));refine lL c ac (aG (lL c cJ (lV 100 (mV (qb*y1)) ?_ (hr:=rU (((qb:Int)*(y1:Int))) kR (jp qb y1 oM)))));obtain ⟨rb,hrb⟩:∃ e,e=r1-qb*y1:=⟨_,rfl⟩;rw[<-hrb] at J Z
  refine lV 101 (mV rb) ?_ (hr:=aI (aI (n:=IntKind.wrap .u64 ((r1:Int)-((qb*y1:Nat):Int))) kR (fI r1 (qb*y1) oM oM)) (by rw[hrb]));refine lL c ac (lN (CG.join (fun Γ I=>∃ (z:Nat)(h_:Hp),Γ=[(2,mV Y),(6,uV 0),(7,uV 0),(8,mV s),(14,mV u0),(15,mV f),(17,mV r1),(18,mV z)]/\SS w h I h_ [] [] []/\z=(r1*4294967296+u0)/Y/\(r1*4294967296+u0)-z*Y=(r1*4294967296+u0)%Y/\z*Y<=r1*4294967296+u0) ?_ ?_))
  .
   refine kZ ?_;refine bH _ (CG.loop (fun K Γ I=>∃ (p:Nat)(t:Nat)(h_:Hp),K=p/\Γ=[(2,mV Y),(6,uV 0),(7,uV 0),(8,mV s),(9,mV y1),(10,mV y0),(14,mV u0),(15,mV f),(17,mV r1),(18,mV p),(16,mV t)]/\SS w h I h_ [] [] []/\HalfQ Y y1 y0 r1 u0 p t/\t<4294967296) _ ⟨qb,rb,zq,rfl,rfl,c.to _ _,J,oM⟩ ?_);rintro _ _ _ ⟨p,t,U,bf,rfl,c,M,ht⟩;have bk:=M.qb;refine cQ (aa c ac ?_);cases zd:(decide ((4294967296:Int)<=(p:Int)))
   .
    have zm:=oF zd;refine lB 103 zd (lL c cJ (lV 107 (mV (p*y0)) ?_ (hr:=rU (((p:Int)*(y0:Int))) kR (jp p y0 (E4 oM oM)))));refine lL c ac (lV 109 (mV (4294967296*t)) ?_ (hr:=rU (((4294967296:Int)*(t:Int))) kR (jp 4294967296 t oM)));refine lL c ac (lV 111 (mV ((4294967296*t)+u0)) ?_ (hr:=rU ((((4294967296*t:Nat):Int)+(u0:Int))) kR (eM (4294967296*t) u0 oM)));cases ze:(decide ((((4294967296*t)+u0:Nat):Int)<((p*y0:Nat):Int)))
    .
     have zn:=oF ze;refine lB 112 ze (lL c [.v qF] (ag (CG.exit ?_)));intro B i;exact ⟨_,⟨p,U,rfl,c.to _ _,(by first|exact M.fin d oM|exact j.brk d oM oM (by have:=j.qb;omega))⟩,i.to _ kR⟩
    have zn:=oT ze;refine lB 112 ze (lL c [.v qT] (ak (cK (kZ (aa c ac ?_)))));have hq2:0<p:=by first|omega|exact dV (show 4294967296*t+u0<p*y0 by omega)
    have j:=M.dec d oM o (by first|exact .inl oM|exact .inr oM);refine lV 115 (mV (p-1)) ?_ (hr:=rU (((p:Int)-(1:Int))) kR (fI p 1 oM oM));refine lL c ac (aG (lL c ax (lV 118 (mV (t+y1)) ?_ (hr:=rU (((t:Int)+(y1:Int))) kR (eM t y1 oM)))));refine lL c ac (aG (lL c ac ?_));cases zf:(decide ((4294967296:Int)<=((t+y1:Nat):Int)))
    .
     have zo:=oF zf;refine lB 120 zf (ag (CG.skip ?_));intro B i;refine ⟨_,_,?_,⟨p-1,t+y1,U,rfl,rfl,c.to _ _,j,oM⟩,i.to _ kR⟩
     omega
    have zo:=oT zf;refine lB 120 zf (ak (CG.exit ?_));intro B i;exact ⟨_,⟨(p-1),U,rfl,c.to _ _,(by first|exact M.fin d oM|exact j.brk d oM oM (by have:=j.qb;omega))⟩,i.to _ kR⟩
   have zm:=oT zd;refine lB 103 zd (lL c ac (lG 105 ?_));refine lG 106 (lG 107 (lG 108 (lG 109 (lG 110 (lG 111 (lG 112 (lL c [.v qT] (ak (cK (kZ (aa c ac ?_)))))))))));have hq2:0<p:=by first|omega|exact dV (show 4294967296*t+u0<p*y0 by omega)
   have j:=M.dec d oM o (by first|exact .inl oM|exact .inr oM);refine lV 115 (mV (p-1)) ?_ (hr:=rU (((p:Int)-(1:Int))) kR (fI p 1 oM oM));refine lL c ac (aG (lL c ax (lV 118 (mV (t+y1)) ?_ (hr:=rU (((t:Int)+(y1:Int))) kR (eM t y1 oM)))));refine lL c ac (aG (lL c ac ?_));cases zg:(decide ((4294967296:Int)<=((t+y1:Nat):Int)))
   .
    have zp:=oF zg;refine lB 120 zg (ag (CG.skip ?_));intro B i;refine ⟨_,_,?_,⟨p-1,t+y1,U,rfl,rfl,c.to _ _,j,oM⟩,i.to _ kR⟩
    omega
   have zp:=oT zg;refine lB 120 zg (ak (CG.exit ?_));intro B i;exact ⟨_,⟨(p-1),U,rfl,c.to _ _,(by first|exact M.fin d oM|exact j.brk d oM oM (by have:=j.qb;omega))⟩,i.to _ kR⟩
  rintro _ _ ⟨z,_,rfl,c,hE⟩;refine aD ?_;obtain ⟨S,hE2,hE3⟩:=hE;have hE4:=qR (u1:=u0) o oM;rw[<-S] at hE4
  refine lL c ac (lV 122 (mV (f*4294967296)) ?_ (hr:=rU (((f:Int)*(4294967296:Int))) kR (jp f 4294967296 oM)));refine lL c ac (lV 124 (mV ((f*4294967296)+z)) ?_ (hr:=rU ((((f*4294967296:Nat):Int)+(z:Int))) kR (eM (f*4294967296) z oM)));refine lL c ac (lV 126 (mV ((r1*4294967296)%18446744073709551616)) ?_ (hr:=rU (((r1:Int)*(4294967296:Int))) kR (jW r1 4294967296)));refine lL c ac (lV 128 (mV ((((r1*4294967296)%18446744073709551616)+u0)%18446744073709551616)) ?_ (hr:=rU (((((r1*4294967296)%18446744073709551616:Nat):Int)+(u0:Int))) kR (Cg ((r1*4294967296)%18446744073709551616) u0)));refine lL c ax (lV 131 (mV ((z*Y)%18446744073709551616)) ?_ (hr:=rU (((z:Int)*(Y:Int))) kR (jW z Y)));obtain ⟨R,hR⟩:∃ e,e=(r1*4294967296+u0)%Y:=⟨_,rfl⟩;have hRY:R<Y:=by rw[hR];exact z6 _ oM
  refine lV 132 (mV R) ?_ (hr:=aI (aI (n:=IntKind.wrap .u64 ((((((r1*4294967296)%18446744073709551616)+u0)%18446744073709551616:Nat):Int)-(((z*Y)%18446744073709551616:Nat):Int))) kR (kO ((((r1*4294967296)%18446744073709551616)+u0)%18446744073709551616:Nat) ((z*Y)%18446744073709551616) oM)) (by rw[nW hE3 (hE2.trans hR.symm) oM]));refine lL c ac (lV 134 (mV (R/2^s)) ?_ (hr:=gF (t:=43) (u:=140) (x:=.tmp 132) (y:=.tmp 133) (ky:=.u64) (a:=R) (n:=s) kR kR kR oM _));refine lL c ax (lN (kX ?_));obtain ⟨hB1,hB2⟩:=vH (A:=hi*18446744073709551616+lo) (y:=y) hY L (show u10=u1*4294967296+u0 by omega) oM hF1 hr1 S hR;exact c.ret [] (.tuple #[mV ((f*4294967296)+z),mV (R/2^s)]) (⟨_,_,rfl,hB1,hB2,by omega⟩)
 have X:=eq_of_beq C;refine lB 27 C (ak (cQ (cR 6 [] mixed c ar ?_)));refine eV 0 28 (mV lo) (eV 1 29 (mV y) (eV 2 30 (mV (lo/y)) ?_ (hv:=fun _=>aI (dD (t:=43) (u:=43) (x:=.tmp 28) (y:=.tmp 29) (k:=.u64) (a:=(lo:Int)) (b:=(y:Int)) kR kR kR oM _) (km lo y oM))));refine eV 3 31 (mV lo) (eV 4 32 (mV y) (eV 5 33 (mV (lo%y)) ?_ (hv:=fun _=>aI (fq (t:=43) (u:=43) (x:=.tmp 31) (y:=.tmp 32) (k:=.u64) (a:=(lo:Int)) (b:=(y:Int)) kR kR kR oM _) (dk lo y))));refine bS c (fun _ _ c=>tV 6 6 (mV (lo/y)) (tV 7 7 (mV (lo%y)) (tN (kX ?_))));have hdm:=LR lo y;have hml:=z6 lo (show 0<y by omega);have bn:=F2 lo y;have hh0:hi=0:=by omega
 subst hh0;exact c.ret [] (.tuple #[mV (lo/y),mV (lo%y)]) (⟨lo/y,lo%y,rfl,by rw[y6,y9];exact hdm.symm,hml,by omega⟩)
def Ek (h1:Hp)(v:Value)(m:Nat)(Q:List Nat->Prop):Prop:=∃ A c,∃ z:List Nat,v=.slice A z.length c/\z.length<=c/\z.length=m/\Wd z/\Q z/\SlO 1 ao 0 h1 A z
theorem Wd.set {l:List Nat}(h:Wd l)(k:Nat){x:Nat}(a:x<18446744073709551616):Wd (l.set k x):=Dg.set h k a
theorem Wd.rep (n:Nat):Wd (zZ n 0):=Dg.rep kD
theorem qi {l:List Nat}{k j x:Nat}(hk:k<l.length)(h:∀ i,j<=i->l.getD i 0=0)(a:k<j):∀ i,j<=i->(l.set k x).getD i 0=0:=fun i hi=>by rw[bC hk,if_neg oM];exact h i hi
theorem Fh (A:Z9)(c:Nat)(x:List Nat)(D:Z9)(d:Nat)(y:List Nat)(hx:Wd x)(hy:Wd y)(hlx:x.length<=1000000000)(hly:y.length<=1000000000)(w:World)(h:Hp)(g:G w h)(hA:SlO 1 ao 0 h A x)(hD:SlO 1 ao 0 h D y):CR 220 #[.slice A x.length c,.slice D y.length d] w h (fun v h1=>Ek h1 v (x.length+y.length) (fun z=>aA z=aA x*aA y)):=by
 have e:=(((sS g).aS hA).aS hD);refine go Tryz.func220 [(0,qS A x.length c),(1,qS D y.length d)] rfl (aa e ac (aG (lL e [.c,.v (nV x.length),.c,.v (nV y.length)] (bv 19 ((x.length:Nat)+(y.length:Nat)) (x.length+y.length) ?_))));refine lK 20 43 (x.length+y.length) 1 8 (uV 0) ao 0 e (fun u w2 h3 e=>?_);have hl4:(zZ (x.length+y.length) 0).length=(x.length+y.length):=by simp
 refine lL e ac (ah (aa e [.c,.v (nV x.length),.c] (aZ ?_)));refine bH _ (CG.loop (fun Q Γ w_=>∃ (i:Nat)(l:List Nat)(C:Hp),Q=x.length-i/\Γ=[(1,qS D y.length d),(4,sZ),(5,qS (sB u) (x.length+y.length) (x.length+y.length)),(21,qS A x.length c),(22,nV x.length),(23,nV i)]/\SS w h w_ C [⟨u,43,(l).flatMap ao⟩] [] [fun C=>SlO 1 ao 0 C D y,fun C=>SlO 1 ao 0 C A x]/\i<=x.length/\l.length=x.length+y.length/\Wd l/\aA l=ai 18446744073709551616 (x.take i)*aA y/\(∀ k,i+y.length<=k->l.getD k 0=0)) _ ⟨0,zZ (x.length+y.length) 0,h3,rfl,rfl,e.to _ _,Mv _,hl4,Wd.rep _,(by show ai _ _=_;rw[dJ];simp[ai]),fun k _=>ef⟩ ?_);rintro _ _ w5 ⟨i,l,h6,hm7,rfl,e,hi,M,hW,hv,hz⟩;refine aD ?_;cases I:(decide ((i:Int)<(x.length:Int)))
 .
  have W:=oF I;refine lB 24 I (ah (dC (CG.exit ?_)))
  show CG _ _ _ _ _ _ _ _
  refine aa e ax (lN (kX ?_));have hix:i=x.length:=by omega
  rw[hix,yY] at hv
  obtain ⟨h9,e,U,bk,bq⟩:=e.pub 0;replace e:=(e.to [] []).aS (SlO.of_flat (sz:=1) (f:=ao) (d:=0) (b:=u) (o:=0) (l:=l) (fun _=>rfl) U);exact e.ret [] (qS (sB u) (x.length+y.length) (x.length+y.length)) (⟨sB u,_,l,by rw[M],by omega,M,hW,hv,e.f.1⟩)
 have W:=oT I;refine lB 24 I (ah (cn (cK (cQ (kZ (aa e ac (lX 26 A x.length c 1 (i:Nat) i ((e.f.2.1).ok oM) ?_)))))));refine lH 27 (mV (x.getD i 0)) e ((e.f.2.1).el i oM) (lL e ax (aG (lL e ac (ah (aa e [.c,.v (nV y.length),.c] (aZ ?_))))));refine bH _ (CG.loop (fun Q Γ w_=>∃ (j:Nat)(l2:List Nat)(H:Nat)(C:Hp),Q=y.length-j/\Γ=[(1,qS D y.length d),(4,sZ),(5,qS (sB u) (x.length+y.length) (x.length+y.length)),(21,qS A x.length c),(22,nV x.length),(23,nV i),(6,nV i),(7,mV (x.getD i 0)),(28,qS D y.length d),(29,nV y.length),(30,nV j),(8,mV H)]/\SS w h w_ C [⟨u,43,(l2).flatMap ao⟩] [] [fun C=>SlO 1 ao 0 C D y,fun C=>SlO 1 ao 0 C A x]/\j<=y.length/\l2.length=x.length+y.length/\Wd l2/\H<18446744073709551616/\ai 18446744073709551616 l2+18446744073709551616^(i+j)*H=aA l+18446744073709551616^i*(x.getD i 0*ai 18446744073709551616 (y.take j))/\(∀ k,i+y.length<=k->l2.getD k 0=0)) _ ⟨0,l,0,h6,rfl,rfl,e.to _ _,Mv _,M,hW,by omega,(by show ai _ l+_=ai _ l+_;simp[ai]),hz⟩ ?_);rintro _ _ _ ⟨j,l2,H,zi,bl,rfl,e,hj,K,O,hc,inv,L⟩;have hlk:=O.get (i+j);refine aD ?_;cases Z:(decide ((j:Int)<(y.length:Int)))
 .
  have zd:=oF Z;refine lB 31 Z (ah (dC (CG.exit ?_)))
  show CG _ _ _ _ _ _ _ _
  refine kQ (lL e [.c,.c,.c,.v (nV y.length)] (bv 75 ((i:Nat)+(y.length:Nat)) (i+y.length) ?_));refine lL e ac (lX 77 (sB u) (x.length+y.length) (x.length+y.length) 1 (i+y.length:Nat) (i+y.length) rfl ?_);refine lW 0 l2 ao 1 (i+y.length) H e oM (fun _ e=>?_);have zf:((l2).set (i+y.length) H).length=(x.length+y.length):=by rw[Md];exact K
  replace e:=e.to [⟨u,43,((l2).set (i+y.length) H).flatMap ao⟩] [];refine lN (kQ (bv 78 ((i:Nat)+1) (i+1) ?_));refine lL e ac (lD ?_);intro a_ ka;refine ⟨_,_,?_,⟨i+1,(l2).set (i+y.length) H,zi,rfl,rfl,e.to _ _,oM,zf,(O.set _ hc),(by have hjy:j=y.length:=oM;rw[hjy] at inv;exact (uS oM inv (L _ oM)).trans (u6 hv)),(qi oM (fun k hk=>L k oM) oM)⟩,ka.to _ kR⟩
  omega
 have zd:=oT Z;refine lB 31 Z (ah (cn (cK (cQ (kZ (aa e ac (lX 33 D y.length d 1 (j:Nat) j ((e.f.1).ok oM) ?_)))))));refine lH 34 (mV (y.getD j 0)) e ((e.f.1).el j oM) (lL e ax (aG (lL e ax (lC 38 e (oP (x.getD i 0) (y.getD j 0) wM wM _ _ e.g) ?_))));rintro _ _ zj e ⟨p,ze,rfl,b2,br,bf,bn⟩;have Y:=jI (a:=(x.getD i 0)) (b:=(y.getD j 0)) wM wM;refine lL e [.c,.v (mV p),.v (mV ze),.c,.c] (aG (lL e m4 (bv 46 ((i:Nat)+(j:Nat)) (i+j) ?_)));refine lX 47 (sB u) (x.length+y.length) (x.length+y.length) 1 (i+j:Nat) (i+j) rfl (lQ 48 0 l2 ao 1 0 (i+j) (mV ((l2).getD (i+j) 0)) e oM ?_);obtain ⟨J,F,bb,bt,bm,X⟩:=fa ze ((l2).getD (i+j) 0) 0 wM wM oM;refine lV 49 (.tuple #[mV J,mV F]) ?_ (hr:=eg kR (X _));refine lL e [.c,.v (mV J),.v (mV F),.c,.c] (aG (lL e ax (lV 54 (mV (p+F)) ?_ (hr:=rU (((p:Int)+(F:Int))) kR (eM p F oM)))));refine lL e ac (lN (bH [(1,qS D y.length d),(4,sZ),(5,qS (sB u) (x.length+y.length) (x.length+y.length)),(21,qS A x.length c),(22,nV x.length),(23,nV i),(6,nV i),(7,mV (x.getD i 0)),(28,qS D y.length d),(29,nV y.length),(30,nV j),(8,mV H),(9,nV j),(11,mV (p+F)),(13,mV J),(14,mV F)] ?_));refine aa e ax ?_;obtain ⟨B,S,bz,bd,b0,V⟩:=fa J H 0 wM wM oM;refine lV 58 (.tuple #[mV B,mV S]) ?_ (hr:=eg kR (V _));refine lL e [.c,.v (mV B),.v (mV S),.c,.c] (lN (kQ (lL e cJ (bv 64 ((i:Nat)+(j:Nat)) (i+j) ?_))));refine lL e cJ (lV 68 (mV ((p+F)+S)) ?_ (hr:=rU ((((p+F:Nat):Int)+(S:Int))) kR (eM (p+F) S oM)));refine lX 69 (sB u) (x.length+y.length) (x.length+y.length) 1 (i+j:Nat) (i+j) rfl (lW 0 l2 ao 1 (i+j) B e oM (fun _ e=>?_));have zg:((l2).set (i+j) B).length=(x.length+y.length):=by rw[Md];exact K
 replace e:=e.to [⟨u,43,((l2).set (i+j) B).flatMap ao⟩] [];refine lL e ac (lN (kQ (bv 70 ((j:Nat)+1) (j+1) ?_)));refine lL e ac (lD ?_);intro a_ ka;refine ⟨_,_,?_,⟨j+1,(l2).set (i+j) B,((p+F)+S),zj,rfl,rfl,e.to _ _,oM,zg,(O.set _ oM),oM,(lE oM inv oM),(qi oM L oM)⟩,ka.to _ kR⟩
 omega
theorem EO {x:List Nat}(a:Wd x){n:Nat}(h:x.length<=n/64):aA x<2^n:=by
 have h1:=bL a;have c:(18446744073709551616:Nat)^x.length=2^(64*x.length):=by rw[LB]
 have d:(2:Nat)^(64*x.length)<=2^n:=Lw oM oM
 show ai _ x<_
 omega
theorem nY {l:List Nat}{k x:Nat}(hk:k<l.length)(h:∀ i,k<=i->l.getD i 0=0):∀ i,k+1<=i->(l.set k x).getD i 0=0:=fun i hi=>by rw[bC hk,if_neg oM];exact h i oM
theorem Bl (A:Z9)(c:Nat)(x:List Nat)(hx:Wd x)(hlx:x.length<=1000000000)(n:Nat)(hn:n<=1000000000)(w:World)(h:Hp)(g:G w h)(hA:SlO 1 ao 0 h A x):CR 203 #[.slice A x.length c,nV n] w h (fun v h1=>Ek h1 v (x.length+n/64+1) (fun z=>aA z=aA x*2^n)):=by
 have e:=((sS g).aS hA);refine go Tryz.func203 [(0,qS A x.length c),(1,nV n)] rfl (aa e ac (aG (lL e ac (lV 11 (nV (n/64)) ?_ (hr:=aI (dD (t:=3) (u:=3) (x:=.tmp 10) (y:=.const (iV 64)) (k:=.i64) (a:=(n:Int)) (b:=(64:Int)) kR kR kR oM _) (dI n 64 oM))))));refine lL e ac (lV 13 (nV (n%64)) ?_ (hr:=aI (fq (t:=3) (u:=3) (x:=.tmp 12) (y:=.const (iV 64)) (k:=.i64) (a:=(n:Int)) (b:=(64:Int)) kR kR kR oM _) (dk n 64)));refine lV 14 (mV (n%64)) ?_ (hr:=rU (((n%64:Nat):Int)) kR (be oM oM));refine lL e ax (aG (lL e [.c,.v (nV x.length),.c] (bv 18 ((x.length:Nat)+(n/64:Nat)) (x.length+(n/64)) ?_)));refine bv 19 ((x.length+(n/64):Nat)+1) ((x.length+(n/64))+1) (lK 20 43 ((x.length+(n/64))+1:Nat) 1 8 (uV 0) ao 0 e (fun j w2 Y e=>?_));have J:(zZ ((x.length+(n/64))+1:Nat) 0).length=((x.length+(n/64))+1:Nat):=by simp
 refine lL e ac (ah (aa e [.c,.v (nV x.length),.c] (aZ ?_)));refine bH _ (CG.loop (fun I Γ w_=>∃ (i:Nat)(l:List Nat)(O:Hp),I=x.length-i/\Γ=[(4,sZ),(5,nV (n/64)),(6,mV (n%64)),(7,qS (sB j) ((x.length+(n/64))+1:Nat) ((x.length+(n/64))+1:Nat)),(21,qS A x.length c),(22,nV x.length),(23,nV i)]/\SS w h w_ O [⟨j,43,(l).flatMap ao⟩] [] [fun O=>SlO 1 ao 0 O A x]/\i<=x.length/\l.length=x.length+n/64+1/\Wd l/\aA l=2^(n%64)*(18446744073709551616^(n/64)*ai 18446744073709551616 (x.take i))/\l.getD (i+n/64) 0<2^(n%64)/\(∀ k,i+n/64+1<=k->l.getD k 0=0)) _ ⟨0,zZ ((x.length+(n/64))+1:Nat) 0,Y,rfl,rfl,e.to _ _,Mv _,J,Wd.rep _,(by show ai _ _=_;rw[dJ];simp[ai]),(by rw[ef];exact Lv _),fun k _=>ef⟩ ?_);rintro _ _ w5 ⟨i,l,X,hm7,rfl,e,hi,C,Q,hv,Z,hz⟩;refine aD ?_;cases B:(decide ((i:Int)<(x.length:Int)))
 .
  have F:=oF B;refine lB 24 B (ah (dC (CG.exit ?_)))
  show CG _ _ _ _ _ _ _ _
  refine aa e ax (lN (kX ?_));have S:i=x.length:=by omega
  rw[S,yY] at hv
  obtain ⟨h9,e,D,V,W⟩:=e.pub 0;replace e:=(e.to [] []).aS (SlO.of_flat (sz:=1) (f:=ao) (d:=0) (b:=j) (o:=0) (l:=l) (fun _=>rfl) D);exact e.ret [] (qS (sB j) ((x.length+(n/64))+1:Nat) ((x.length+(n/64))+1:Nat)) (⟨sB j,_,l,by rw[C],by omega,C,Q,(by show aA l=_;rw[hv,wy n];show _*(_*aA x)=_;ac_rfl),e.f.1⟩)
 have F:=oT B;refine lB 24 B (ah (cn (cK (cQ (kZ (aa e ac (lX 26 A x.length c 1 (i:Nat) i ((e.f.1).ok oM) ?_)))))));refine lH 27 (mV (x.getD i 0)) e ((e.f.1).el i oM) (lL e ax (aG (lL e cJ (bv 31 ((i:Nat)+(n/64:Nat)) (i+(n/64)) ?_))));refine lX 32 (sB j) ((x.length+(n/64))+1:Nat) ((x.length+(n/64))+1:Nat) 1 (i+(n/64):Nat) (i+(n/64)) rfl (lQ 33 0 l ao 1 0 (i+(n/64)) (mV ((l).getD (i+(n/64)) 0)) e oM (lL e ax (lV 36 (mV ((x.getD i 0)*2^(n%64)%18446744073709551616)) ?_ (hr:=ig (t:=43) (u:=140) (x:=.tmp 34) (y:=.tmp 35) (ky:=.u64) (a:=(x.getD i 0)) (n:=(n%64)) kR kR kR _))));have M:=hx.get i;obtain ⟨L,K,U,H⟩:=B5 (x:=x.getD i 0) (p:=n%64) (o:=l.getD (i+n/64) 0) oM M Z;have hlg:=Q.get (i+n/64);refine lV 37 (mV (l.getD (i+n/64) 0+x.getD i 0*2^(n%64)%18446744073709551616)) ?_ (hr:=aI (ir (t:=43) (u:=43) (x:=.tmp 33) (y:=.tmp 36) (a:=((l).getD (i+(n/64)) 0:Nat)) (b:=((x.getD i 0)*2^(n%64)%18446744073709551616)) kR kR kR oM oM _) (by rw[L]));refine lX 38 (sB j) ((x.length+(n/64))+1:Nat) ((x.length+(n/64))+1:Nat) 1 (i+(n/64):Nat) (i+(n/64)) rfl (lW 0 l ao 1 (i+(n/64)) (l.getD (i+n/64) 0+x.getD i 0*2^(n%64)%18446744073709551616) e oM (fun _ e=>?_));have za:((l).set (i+(n/64)) (l.getD (i+n/64) 0+x.getD i 0*2^(n%64)%18446744073709551616)).length=((x.length+(n/64))+1:Nat):=by rw[Md];exact C
 replace e:=e.to [⟨j,43,((l).set (i+(n/64)) (l.getD (i+n/64) 0+x.getD i 0*2^(n%64)%18446744073709551616)).flatMap ao⟩] [];refine lN (kQ (lL e cJ (bv 42 ((i:Nat)+(n/64:Nat)) (i+(n/64)) ?_)));refine bv 43 ((i+(n/64):Nat)+1) ((i+(n/64))+1) (lL e ax (lV 46 (mV (64-(n%64))) ?_ (hr:=rU (((64:Int)-((n%64:Nat):Int))) kR (fI 64 (n%64) oM oM))));refine lV 47 (mV ((x.getD i 0)/2^(64-(n%64)))) ?_ (hr:=gF (t:=43) (u:=140) (x:=.tmp 44) (y:=.tmp 46) (ky:=.u64) (a:=(x.getD i 0)) (n:=(64-(n%64))) kR kR kR oM _);refine lX 48 (sB j) ((x.length+(n/64))+1:Nat) ((x.length+(n/64))+1:Nat) 1 ((i+(n/64))+1:Nat) ((i+(n/64))+1:Nat) rfl (lW 0 ((l).set (i+(n/64)) (l.getD (i+n/64) 0+x.getD i 0*2^(n%64)%18446744073709551616)) ao 1 ((i+(n/64))+1:Nat) ((x.getD i 0)/2^(64-(n%64)):Nat) e oM (fun _ e=>?_));have zb:(((l).set (i+(n/64)) (l.getD (i+n/64) 0+x.getD i 0*2^(n%64)%18446744073709551616)).set ((i+(n/64))+1:Nat) ((x.getD i 0)/2^(64-(n%64)):Nat)).length=((x.length+(n/64))+1:Nat):=by rw[Md];exact za
 replace e:=e.to [⟨j,43,(((l).set (i+(n/64)) (l.getD (i+n/64) 0+x.getD i 0*2^(n%64)%18446744073709551616)).set ((i+(n/64))+1:Nat) ((x.getD i 0)/2^(64-(n%64)):Nat)).flatMap ao⟩] [];refine lN (kQ (bv 49 ((i:Nat)+1) (i+1) ?_));refine lL e ac (lD ?_);intro a_ ka;refine ⟨_,_,?_,⟨i+1,((l).set (i+(n/64)) (l.getD (i+n/64) 0+x.getD i 0*2^(n%64)%18446744073709551616)).set ((i+(n/64))+1:Nat) ((x.getD i 0)/2^(64-(n%64)):Nat),X,rfl,rfl,e.to _ _,oM,zb,((Q.set _ K).set _ (by have:=F2 (x.getD i 0) (2^(64-n%64));omega)),(At oM hv (hz _ oM) U rfl rfl),(by rw[show i+1+n/64=i+n/64+1 by omega,bC (by rw[Md];omega),if_pos rfl];exact H),(fun k hk=>by rw[bC (by rw[Md];omega),if_neg oM,bC oM,if_neg oM];exact hz k oM)⟩,ka.to _ kR⟩
 omega
theorem JQ (A:Z9)(c:Nat)(x:List Nat)(Z:Wd x)(hlx:x.length<=1000000000)(n:Nat)(hn:n<=1000000000)(w:World)(h:Hp)(g:G w h)(hA:SlO 1 ao 0 h A x):CR 208 #[.slice A x.length c,nV n] w h (fun v h1=>Ek h1 v (x.length-n/64) (fun z=>aA z=aA x/2^n)):=by
 have e:=((sS g).aS hA);refine go Tryz.func208 [(0,qS A x.length c),(1,nV n)] rfl (aa e ac (aG (lL e ac (lV 10 (nV (n/64)) ?_ (hr:=aI (dD (t:=3) (u:=3) (x:=.tmp 9) (y:=.const (iV 64)) (k:=.i64) (a:=(n:Int)) (b:=(64:Int)) kR kR kR oM _) (dI n 64 oM))))));refine lL e ac (lV 12 (nV (n%64)) ?_ (hr:=aI (fq (t:=3) (u:=3) (x:=.tmp 11) (y:=.const (iV 64)) (k:=.i64) (a:=(n:Int)) (b:=(64:Int)) kR kR kR oM _) (dk n 64)));refine lV 13 (mV (n%64)) ?_ (hr:=rU (((n%64:Nat):Int)) kR (be oM oM));refine lL e ax (ah (aa e [.c,.c,.v (nV x.length)] ?_));cases D:(decide ((x.length:Int)<=((n/64:Nat):Int)))
 .
  have J:=oF D;refine lB 17 D (ag (cK (aa e [.c,.v (nV x.length),.c] (bv 21 ((x.length:Nat)-(n/64:Nat)) (x.length-(n/64)) ?_))));refine lK 22 43 (x.length-(n/64)) 1 8 (uV 0) ao 0 e (fun B w3 h4 e=>?_);have O:(zZ (x.length-(n/64)) 0).length=(x.length-(n/64)):=by simp
  refine lL e ac (ah (aa e [.c,.v (nV (x.length-(n/64))),.c] (aZ ?_)));refine bH _ (CG.loop (fun M Γ w_=>∃ (i:Nat)(l:List Nat)(X:Hp),M=x.length-n/64-i/\Γ=[(0,qS A x.length c),(4,sZ),(5,nV (n/64)),(6,mV (n%64)),(7,qS (sB B) (x.length-(n/64)) (x.length-(n/64))),(24,nV (x.length-(n/64))),(25,nV i)]/\SS w h w_ X [⟨B,43,(l).flatMap ao⟩] [] [fun X=>SlO 1 ao 0 X A x]/\i<=x.length-n/64/\l.length=x.length-n/64/\Wd l/\2^(n%64)*ai 18446744073709551616 l+(x.drop (n/64)).getD 0 0%2^(n%64)=ai 18446744073709551616 ((x.drop (n/64)).take i)+18446744073709551616^i*((x.drop (n/64)).getD i 0%2^(n%64))/\(∀ k,i<=k->l.getD k 0=0)) _ ⟨0,zZ (x.length-(n/64)) 0,h4,rfl,rfl,e.to _ _,Mv _,O,Wd.rep _,(by rw[dJ];simp[ai]),fun k _=>ef⟩ ?_);rintro _ _ w6 ⟨i,l,h7,hm8,rfl,e,hi,H,Y,inv,hz⟩;refine aD ?_;cases C:(decide ((i:Int)<(((x.length-(n/64)):Nat):Int)))
  .
   have K:=oF C;refine lB 26 C (ah (dC (CG.exit ?_)))
   show CG _ _ _ _ _ _ _ _
   refine aa e ax (lN (kX ?_));have hix:i=x.length-n/64:=by omega
   have hE:=DB (W:=x.drop (n/64)) (m:=i) (by rw[LU];omega) inv;rw[nJ Z oM,Nat.div_div_eq_div_mul,<-wy n] at hE
   obtain ⟨_,e,I,bb,bd⟩:=e.pub 0;replace e:=(e.to [] []).aS (SlO.of_flat (sz:=1) (f:=ao) (d:=0) (b:=B) (o:=0) (l:=l) (fun _=>rfl) I);exact e.ret [] (qS (sB B) (x.length-(n/64)) (x.length-(n/64))) (⟨sB B,_,l,by rw[H],by omega,by omega,Y,hE,e.f.1⟩)
  have K:=oT C;refine lB 26 C (ah (cn (cK (cQ (kZ (aa e ax (aG (lL e m5 (bv 33 ((i:Nat)+(n/64:Nat)) (i+(n/64)) ?_)))))))));refine lX 34 A x.length c 1 (i+(n/64):Nat) (i+(n/64)) ((e.f.1).ok oM) (lH 35 (mV (x.getD (i+(n/64)) 0)) e ((e.f.1).el (i+(n/64)) oM) (lL e ac ?_));have V:=Z.get (i+n/64);refine lV 37 (mV ((x.getD (i+(n/64)) 0:Nat)/2^(n%64))) ?_ (hr:=gF (t:=43) (u:=140) (x:=.tmp 35) (y:=.tmp 36) (ky:=.u64) (a:=(x.getD (i+(n/64)) 0:Nat)) (n:=(n%64)) kR kR kR oM _);refine lX 38 (sB B) (x.length-(n/64)) (x.length-(n/64)) 1 (i:Nat) i rfl (lW 0 l ao 1 i ((x.getD (i+(n/64)) 0:Nat)/2^(n%64):Nat) e oM (fun _ e=>?_));have zb:((l).set i ((x.getD (i+(n/64)) 0:Nat)/2^(n%64):Nat)).length=(x.length-(n/64)):=by rw[Md];exact H
  replace e:=e.to [⟨B,43,((l).set i ((x.getD (i+(n/64)) 0:Nat)/2^(n%64):Nat)).flatMap ao⟩] [];refine aG (lL e ax (bv 41 ((i:Nat)+(n/64:Nat)) (i+(n/64)) ?_));refine bv 42 ((i+(n/64):Nat)+1) ((i+(n/64))+1) (lL e [.c,.v (nV x.length)] ?_);cases L:(decide ((((i+(n/64))+1:Nat):Int)<(x.length:Int)))
  .
   have zc:=oF L;refine lB 45 L (ag (cK (kQ (bv 62 ((i:Nat)+1) (i+1) ?_))));refine lL e ac (lD ?_);intro a_ U;refine ⟨_,_,?_,⟨i+1,(l).set i ((x.getD (i+(n/64)) 0:Nat)/2^(n%64):Nat),h7,rfl,rfl,e.to _ _,oM,zb,(Y.set _ (by have:=F2 (x.getD (i+n/64) 0) (2^(n%64));omega)),(qf oM inv (hz _ (nR _)) (by rw[bD,bD,show n/64+i=i+n/64 by omega,ck (show x.length<=n/64+(i+1) by omega),Nat.zero_mod,Ls,yh];exact LR _ _)),(nY oM hz)⟩,U.to _ kR⟩
   omega
  have zc:=oT L;refine lB 45 L (ak (cR 15 [] mixed e ar ?_));refine eV 0 46 (qS (sB B) (x.length-(n/64)) (x.length-(n/64))) (eV 1 47 (nV i) (eX 2 48 (sB B) (x.length-(n/64)) (x.length-(n/64)) 1 (i:Nat) i rfl (eQ 3 49 0 ((l).set i ((x.getD (i+(n/64)) 0:Nat)/2^(n%64):Nat)) ao 1 0 i (mV (((l).set i ((x.getD (i+(n/64)) 0:Nat)/2^(n%64):Nat)).getD i 0)) e oM (eV 4 50 (qS A x.length c) (eV 5 51 (nV i) (eV 6 52 (nV (n/64)) (j4 7 53 ((i:Nat)+(n/64:Nat)) (i+(n/64)) (j4 8 54 ((i+(n/64):Nat)+1) ((i+(n/64))+1) (eX 9 55 A x.length c 1 ((i+(n/64))+1:Nat) ((i+(n/64))+1:Nat) ((e.f.1).ok oM) (eH 10 56 (mV (x.getD ((i+(n/64))+1:Nat) 0)) e ((e.f.1).el ((i+(n/64))+1:Nat) oM) (eV 11 57 (mV (n%64)) (eV 12 58 (mV (64-(n%64))) ?_ (hv:=fun _=>rU (((64:Int)-((n%64:Nat):Int))) kR (fI 64 (n%64) oM oM))))))))))))));refine eV 13 59 (mV ((x.getD ((i+(n/64))+1:Nat) 0:Nat)*2^(64-(n%64))%18446744073709551616)) ?_ (hv:=fun _=>ig (t:=43) (u:=140) (x:=.tmp 56) (y:=.tmp 58) (ky:=.u64) (a:=(x.getD ((i+(n/64))+1:Nat) 0:Nat)) (n:=(64-(n%64))) kR kR kR _);obtain ⟨S,Q,hS3⟩:=pM (x:=x.getD (i+n/64) 0) (y:=x.getD (i+n/64+1) 0) (p:=n%64) oM V;have hdv:=F2 (x.getD (i+n/64) 0) (2^(n%64));have F:=bC (l:=l) (k:=i) (j:=i) (x:=x.getD (i+n/64) 0/2^(n%64)) oM;rw[if_pos rfl] at F
  refine eV 14 60 (mV (x.getD (i+n/64) 0/2^(n%64)+x.getD (i+n/64+1) 0*2^(64-n%64)%18446744073709551616)) ?_ (hv:=fun _=>aI (ir (t:=43) (u:=43) (x:=.tmp 49) (y:=.tmp 59) (a:=(((l).set i ((x.getD (i+(n/64)) 0:Nat)/2^(n%64):Nat)).getD i 0:Nat)) (b:=((x.getD ((i+(n/64))+1:Nat) 0:Nat)*2^(64-(n%64))%18446744073709551616:Nat)) kR kR kR oM oM _) (by rw[F,S]));refine bS e (fun _ ze e=>tX 15 61 (sB B) (x.length-(n/64)) (x.length-(n/64)) 1 (i:Nat) i rfl (tW 16 0 ((l).set i ((x.getD (i+(n/64)) 0:Nat)/2^(n%64):Nat)) ao 1 i (x.getD (i+n/64) 0/2^(n%64)+x.getD (i+n/64+1) 0*2^(64-n%64)%18446744073709551616) e oM (fun _ e=>?_)));have zd:(((l).set i ((x.getD (i+(n/64)) 0:Nat)/2^(n%64):Nat)).set i (x.getD (i+n/64) 0/2^(n%64)+x.getD (i+n/64+1) 0*2^(64-n%64)%18446744073709551616)).length=(x.length-(n/64)):=by rw[Md];exact zb
  replace e:=e.to [⟨B,43,(((l).set i ((x.getD (i+(n/64)) 0:Nat)/2^(n%64):Nat)).set i (x.getD (i+n/64) 0/2^(n%64)+x.getD (i+n/64+1) 0*2^(64-n%64)%18446744073709551616)).flatMap ao⟩] [];refine tN (bH [(0,qS A x.length c),(4,sZ),(5,nV (n/64)),(6,mV (n%64)),(7,qS (sB B) (x.length-(n/64)) (x.length-(n/64))),(24,nV (x.length-(n/64))),(25,nV i)] ?_);refine kQ (bv 62 ((i:Nat)+1) (i+1) ?_);refine lL e ac (lD ?_);intro a_ U;refine ⟨_,_,?_,⟨i+1,((l).set i ((x.getD (i+(n/64)) 0:Nat)/2^(n%64):Nat)).set i (x.getD (i+n/64) 0/2^(n%64)+x.getD (i+n/64+1) 0*2^(64-n%64)%18446744073709551616),ze,rfl,rfl,e.to _ _,oM,zd,((Y.set _ oM).set _ Q),(by rw[MB];exact qf oM inv (hz _ (nR _)) (by rw[bD,bD,show n/64+i=i+n/64 by omega,show n/64+(i+1)=i+n/64+1 by omega];exact hS3)),(by rw[MB];exact nY oM hz)⟩,U.to _ kR⟩
  omega
 have J:=oT D;exact lB 17 D (ak (aa e ac (ae e [] (sZ) (⟨none,0,[],rfl,by simp,by simp;omega,Dg.nil,(by show 0=_;exact (Hi (EO Z oM)).symm),SlO.nil⟩))))
theorem Kh {a b:Nat}(ha:a<18446744073709551616)(d:b<18446744073709551616):a*b<=340282366920938463426481119284349108225:=by
 have h1:a<=18446744073709551615:=by omega
 have c:b<=18446744073709551615:=by omega
 exact Nat.mul_le_mul h1 c
def w3 (u2 u1 u0:Nat):Nat:=18446744073709551616*(18446744073709551616*u2+u1)+u0
def w2 (v1 v0:Nat):Nat:=18446744073709551616*v1+v0
structure Gss (u2 u1 u0 v1 v0 g r o:Nat):Prop where
  e:g*v1+(r+18446744073709551616*o)=18446744073709551616*u2+u1
  lt:g+1=18446744073709551616\/w3 u2 u1 u0<(g+1)*w2 v1 v0
  gb:g<18446744073709551616
def EE (u2 u1 u0 v1 v0 g:Nat):Prop:=g*w2 v1 v0<=w3 u2 u1 u0/\(g+1=18446744073709551616\/w3 u2 u1 u0<(g+1)*w2 v1 v0)/\g<18446744073709551616
theorem gv {g c a:Nat}:g*w2 c a=18446744073709551616*(g*c)+g*a:=by unfold w2;rw[Lm,Nat.mul_left_comm]
theorem Gss.fin {f u1 a d c g r o:Nat}(h:Gss f u1 a d c g r o)(i:g*c<=18446744073709551616*(r+18446744073709551616*o)+a):EE f u1 a d c g:=by
 refine ⟨?_,h.lt,h.gb⟩;rw[gv]
 unfold w3
 rw[<-h.e,Lm]
 omega
theorem Gss.over {e u1 d c a g r o:Nat}(h:Gss e u1 d c a g r o)(f:0<o)(h0:a<18446744073709551616):EE e u1 d c a g:=by
 refine h.fin ?_;have h1:=Kh h.gb h0
 omega
theorem Gss.dec {f u1 c a d g r j o':Nat}(h:Gss f u1 c a d g r 0)(l:18446744073709551616*r+c<g*d)(e:j+18446744073709551616*o'=r+a):0<g/\Gss f u1 c a d (g-1) j o':=by
 have o:0<g:=dV l;obtain ⟨p,rfl⟩:∃ p,g=p+1:=⟨g-1,by omega⟩;have i:=h.e;rw[Ls,yh] at i
 have h1:w3 f u1 c<(p+1)*w2 a d:=by
  rw[gv]
  unfold w3
  rw[<-i,Lm]
  omega
 have u:(p+1)*a=p*a+a:=by rw[LN,LP]
 rw[L5];exact ⟨o,⟨by omega,Or.inr h1,by have:=h.gb;omega⟩⟩
theorem En {c u1 d a f r o:Nat}(h:c=a)(e:r+18446744073709551616*o=u1+a):Gss c u1 d a f 18446744073709551615 r o:=by
 subst h;exact ⟨by omega,.inl rfl,by decide⟩
theorem DL {c u1 d a f q r:Nat}(e:c*18446744073709551616+u1=a*q+r)(hr:r<a)(h0:d<18446744073709551616)(h:q<18446744073709551616):Gss c u1 d a f q r 0:=by
 rw[H1 c] at e
 refine ⟨by rw[H1 q];omega,.inr ?_,h⟩;rw[gv,LN q 1 a,LP,H1 q a]
 unfold w3
 rw[e]
 have h1:18446744073709551616*(a*q+r)+18446744073709551616<=18446744073709551616*(a*q+a):=by
  rw[<-Nat.mul_succ];exact Lz _ oM
 have i:0<=(q+1)*f:=Mv _
 omega
theorem HI (u u1 l f i:Nat)(h0:u<18446744073709551616)(h1:u1<18446744073709551616)(h2:l<18446744073709551616)(h3:f<18446744073709551616)(h4:i<18446744073709551616)(hle:u<=f)(hv:0<f)(w:World)(h:Hp)(g:G w h):CR 204 #[mV u,mV u1,mV l,mV f,mV i] w h (fun v _=>∃ g:Nat,v=mV g/\EE u u1 l f i g):=by
 have d:=sS g;refine go Tryz.func204 [(0,mV u),(1,mV u1),(2,mV l),(3,mV f),(4,mV i)] rfl ?_;refine aa d ac (aG (lL d cJ (lN (CG.join (fun Γ Z=>∃ (Q:Nat)(D:Nat)(I:Nat)(h_:Hp),Γ=[(2,mV l),(3,mV f),(4,mV i),(10,uV 0),(11,mV Q),(12,mV D),(13,mV I)]/\SS w h Z h_ [] [] []/\Gss u u1 l f i Q D I/\D<18446744073709551616/\I<=1) ?_ ?_))))
 .
  refine aa d ax ?_;cases p:((u:Int) == (f:Int))
  .
   have J:=aj p;refine lB 18 p (ag (kQ (lL d cJ (lC 29 d (By u u1 f oM wM wM _ _ d.g) ?_))));rintro _ w7 h8 d ⟨q2,r3,rfl,he4,hl5,hm6⟩;refine lL d [.c,.v (mV q2),.v (mV r3),.c,.c] (lD ?_);intro X y;exact ⟨_,⟨q2,r3,0,h8,rfl,d.to _ _,(DL oM oM h2 oM),oM,oM⟩,y.to _ kR⟩
  have J:=eq_of_beq p;refine lB 18 p (ak (aa d ac (lN (kQ (lL d ax ?_)))));obtain ⟨B,ze,bz,b0,br,H⟩:=fa u1 f 0 wM wM oM;refine lV 22 (.tuple #[mV B,mV ze]) ?_ (hr:=eg kR (H _));refine lL d [.c,.v (mV B),.v (mV ze),.c,.c] (lD ?_);intro X y;exact ⟨_,⟨18446744073709551615,B,ze,h,rfl,d.to _ _,(En oM oM),oM,oM⟩,y.to _ kR⟩
 rintro _ _ ⟨Q,D,I,zo,rfl,d,hG0,W,L⟩;refine cQ (kZ ?_);refine bH _ (CG.loop (fun μ_ Γ Z=>∃ (g:Nat)(r:Nat)(o:Nat)(h_:Hp),μ_=g/\Γ=[(2,mV l),(3,mV f),(4,mV i),(10,uV 0),(11,mV g),(12,mV r),(13,mV o)]/\SS w h Z h_ [] [] []/\Gss u u1 l f i g r o/\r<18446744073709551616/\o<=1) _ ⟨Q,D,I,zo,rfl,rfl,d.to _ _,hG0,W,L⟩ ?_);rintro _ _ _ ⟨g,r,o,_,bl,rfl,d,e,hr,hov⟩;have hgl:=e.gb;refine cQ (aa d ac ?_);cases S:((o:Int) == (0:Int))
 .
  have zi:=aj S;refine lB 33 S (ag (CG.exit ?_))
  show CG _ _ _ _ _ _ _ _
  exact aa d ax (ae d [] (mV g) (⟨g,rfl,(by first|exact e.over oM h4|(rw[show o=0 by omega] at e;exact e.fin oM))⟩))
 have zi:=eq_of_beq S;refine lB 33 S (ak (cK (kZ (aa d ax (lC 37 d (oP g i wM wM _ _ d.g) ?_)))));rintro _ _ zm d ⟨z,zn,rfl,b2,bb,bt,bq⟩;have M:=jI (a:=g) (b:=i) wM wM;refine lL d [.c,.v (mV z),.v (mV zn),.c,.c] (ah (aa d ax ?_));cases O:(decide ((z:Int)<(r:Int)))
 .
  have zj:=oF O;refine lB 42 O (lL d cJ ?_);cases U:((z:Int) == (r:Int))
  .
   have zk:=aj U;refine lB 46 U (lL d ac (lG 48 ?_));refine lG 49 (lG 50 (lL d [.v qF,.v qF] (ag (cK (aD ?_)))));have j:18446744073709551616*r+l<g*i:=by omega
   rw[show o=0 by omega] at e
   have hg0:=dV j;have hgb:=e.gb;refine lL d ac (lV 54 (mV (g-1)) ?_ (hr:=rU (((g:Int)-(1:Int))) kR (fI g 1 oM oM)));refine lL d ac (lN (kQ (lL d ax ?_)));obtain ⟨x,zf,bd,bk,bn,F⟩:=fa r f 0 wM wM oM;refine lV 58 (.tuple #[mV x,mV zf]) ?_ (hr:=eg kR (F _));refine lL d [.c,.v (mV x),.v (mV zf),.c,.c] (lD ?_);intro X y;refine ⟨_,_,?_,⟨g-1,x,zf,zm,rfl,rfl,d.to _ _,((e.dec j oM).2),oM,oM⟩,y.to _ kR⟩
   omega
  have zk:=eq_of_beq U;refine lB 46 U (lL d cJ ?_);cases V:(decide ((zn:Int)<=(l:Int)))
  .
   have zl:=oF V;refine lB 50 V (lL d [.v qF,.v qF] (ag (cK (aD ?_))));have j:18446744073709551616*r+l<g*i:=by omega
   rw[show o=0 by omega] at e
   have hg0:=dV j;have hgb:=e.gb;refine lL d ac (lV 54 (mV (g-1)) ?_ (hr:=rU (((g:Int)-(1:Int))) kR (fI g 1 oM oM)));refine lL d ac (lN (kQ (lL d ax ?_)));obtain ⟨C,Y,b1,bm,bf,K⟩:=fa r f 0 wM wM oM;refine lV 58 (.tuple #[mV C,mV Y]) ?_ (hr:=eg kR (K _));refine lL d [.c,.v (mV C),.v (mV Y),.c,.c] (lD ?_);intro X y;refine ⟨_,_,?_,⟨g-1,C,Y,zm,rfl,rfl,d.to _ _,((e.dec j oM).2),oM,oM⟩,y.to _ kR⟩
   omega
  have zl:=oT V;refine lB 50 V (lL d [.v qT,.v qT] (ak (CG.exit ?_)))
  show CG _ _ _ _ _ _ _ _
  exact aa d ax (ae d [] (mV g) (⟨g,rfl,(by first|exact e.over oM h4|(rw[show o=0 by omega] at e;exact e.fin oM))⟩))
 have zj:=oT O;refine lB 42 O (lL d ac (lG 44 ?_));refine lG 45 (lG 46 (lG 47 (lG 48 (lG 49 (lG 50 (lG 51 (lL d [.v qT] (ak (CG.exit ?_)))))))))
 show CG _ _ _ _ _ _ _ _
 exact aa d ax (ae d [] (mV g) (⟨g,rfl,(by first|exact e.over oM h4|(rw[show o=0 by omega] at e;exact e.fin oM))⟩))
theorem Gf (A:Z9)(c:Nat)(l:List Nat)(n:Nat)(hn:l.length=n)(e:l.length<=1099511627776)(d:l.length<=c)(w:World)(h:Hp)(g:G w h)(a:SlO 1 ao 0 h A l):CV 151 #[.slice A n c] w h (.slice A (tl l n) c):=by
 subst hn;exact E5 A c l e d w h g a
theorem Iu (rb:Nat)(l:List Nat)(c d:Nat)(Q:0<d)(hdB:d<18446744073709551616)(hW:Wd l)(hl:l.length<=1000000000)(hc:l.length<=c)(w:World)(h:Hp)(g:G w h)(O:Own w rb 43 (l.flatMap ao))(hj:h[rb]?=some bg):Calls Tryz.prog 176 #[.slice (sB rb) l.length c,mV d] w (fd rb w h fun v w' _=>∃ z:List Nat,∃ r:Nat,v=.tuple #[.slice (sB rb) (tl z z.length) c,uV r]/\z.length=l.length/\Wd z/\aA l=d*aA z+r/\r<d/\Own w' rb 43 (z.flatMap ao)):=by
 have e:UpM [rb] w h w h:=UpM.refl g;obtain ⟨wz,hz,a⟩:=SS.at_ g O hj;have U:l.length=l.length:=rfl;refine go Tryz.func176 [(0,qS (sB rb) l.length c),(1,mV d)] rfl (aa a ax (aG (lL a ac (ah (aa a [.c,.v (nV l.length)] (lV 10 (iV ((l.length:Int)-1)) ?_ (hr:=rS (((l.length:Nat)-1)) kR ((gH oM oM).trans oM))))))));refine lL a ac (aZ ?_);refine bH _ (CG.loop (fun B Γ J=>∃ (m:Nat)(z:List Nat)(r:Nat)(h_:Hp),B=m/\Γ=[(0,qS (sB rb) l.length c),(1,mV d),(4,sZ),(5,uV 0),(7,iV ((m:Int)-1)),(6,mV r)]/\SS wz hz J h_ [⟨rb,43,(z).flatMap ao⟩] [] []/\m<=l.length/\z.length=l.length/\Wd z/\aA l=d*(18446744073709551616^m*ai 18446744073709551616 (z.drop m))+(18446744073709551616^m*r+ai 18446744073709551616 (z.take m))/\r<d/\UpM [rb] w h J h_) _ ⟨l.length,l,0,h,rfl,rfl,a.to _ _,nR _,rfl,hW,(by show ai _ l=_;simp[ai,Mm]),Q,e⟩ ?_);rintro _ _ w1 ⟨m,z,r,h2,M,rfl,a,hm,j,D,inv,y,e⟩;refine cQ (aa a ac ?_);cases i:(decide ((0:Int)<=((m:Int)-1:Int)))
 .
  have p:=oF i;refine lB 12 i (ag (CG.exit ?_))
  show CG _ _ _ _ _ _ _ _
  refine aa a ac (CB 29 0 a (fun _ Y f_ C=>Gf (sB rb) c (z) (l.length) j oM oM _ _ Y (SlO.of_flat (sz:=1) (f:=ao) (d:=0) (b:=rb) (o:=0) (l:=z) (fun _=>rfl) C)) ?_);rintro _ w5 h6 S a rfl;replace e:=e.trans (S.m _);refine lL a cJ (lN (kX ?_));have F:m=0:=by omega
  rw[F] at inv
  exact a.retM e [] (.tuple #[qS (sB rb) (tl (z) l.length) c,mV r]) ⟨z,r,by rw[j],j,D,(by simp only[Mw,LP,yy,List.take_zero,ai] at inv;exact inv),y,a.own 0⟩
 have p:=oT i;refine lB 12 i (ak (cK (cQ (kZ (kQ (lL a m5 (lX 21 (sB rb) l.length c 1 ((m:Int)-1) (m-1) rfl ?_)))))));have hzg:=D.get (m-1);refine lQ 22 0 z ao 1 0 (m-1) (mV ((z).getD (m-1) 0)) a oM (lL a ac (kL 24 (By r ((z).getD (m-1) 0) d oM wM wM _ _ a.g) ?_));rintro _ _ X u ⟨x,H,rfl,I,K,L⟩;replace e:=e.trans (u.m _);replace a:=a.step u;refine lL a [.c,.v (mV x),.v (mV H)] (lX 27 (sB rb) l.length c 1 ((m:Int)-1) (m-1) rfl ?_);refine JS 0 z ao 1 (m-1) x a oM (fun _ Z a=>?_);replace e:=e.put Z (sA.2 rfl) a.g;have W:((z).set (m-1) x).length=l.length:=by rw[Md];exact j
 replace a:=a.to [⟨rb,43,((z).set (m-1) x).flatMap ao⟩] [];refine lL a ac (lN (kQ (lL a ac (lV 14 (iV (((m-1:Nat):Int)-1)) ?_ (hr:=rS ((((m:Int)-1)-1)) kR ((gH oM oM).trans oM))))));refine lL a ac (lD ?_);intro a_ V;refine ⟨_,_,?_,⟨m-1,(z).set (m-1) x,H,X,rfl,rfl,a.to _ _,oM,W,(D.set _ oM),(EL oM (by rw[show m-1+1=m by omega];exact inv) oM),oM,e⟩,V.to _ kR⟩
 omega
theorem Hb {u:List Nat}{k:Nat}(hk:2<=k):w3 (u.getD k 0) (u.getD (k-1) 0) (u.getD (k-2) 0)=u.getD k 0*18446744073709551616*18446744073709551616+u.getD (k-1) 0*18446744073709551616+u.getD (k-2) 0:=by
 unfold w3
 rw[H1 (u.getD k 0) 18446744073709551616,H1 (18446744073709551616*u.getD k 0) 18446744073709551616,H1 (u.getD (k-1) 0),Lm]
theorem GU {c a:Nat}:w2 c a=c*18446744073709551616+a:=by unfold w2;rw[H1]
section
variable {n j G:Nat}{u v:List Nat}
theorem G8 (hn:2<=n)(y:v.length=n)(a:Wd v)(d:Wd u)(z:j+n<u.length)(hR:aA u<18446744073709551616^(j+1)*aA v):u.getD (j+n) 0<=v.getD (n-1) 0:=by
 rcases cD (v.getD (n-1) 0) (u.getD (j+n) 0) with h|h
 ·exfalso
  have c:=aJ 18446744073709551616 (l:=v) (k:=n-1) oM;rw[show n-1+1=v.length by omega,yY] at c
  have h1:=bL (Dg.take a (n-1));rw[Lp,Lq oM] at h1
  have i:=aJ 18446744073709551616 (l:=u) (k:=j+n) oM;have f:=bQ 18446744073709551616 (l:=u) (k:=j+n+1) oM;have p:18446744073709551616^(j+n)*(v.getD (n-1) 0+1)<=18446744073709551616^(j+n)*u.getD (j+n) 0:=Lz _ h
  have e:18446744073709551616^(j+1)*aA v<18446744073709551616^(j+1)*(18446744073709551616^(n-1)*(v.getD (n-1) 0+1)):=by
   refine LK ?_ (Nat.pow_pos kD)
   show ai _ v<_
   rw[c,Lm,LL];omega
  rw[<-Ln,<-Ly,show j+1+(n-1)=j+n by omega] at e
  have x:aA u=ai 18446744073709551616 (u.take (j+n))+18446744073709551616^(j+n)*u.getD (j+n) 0+18446744073709551616^(j+n+1)*ai 18446744073709551616 (u.drop (j+n+1)):=by
   show ai _ u=_
   rw[f,i]
  have o:=Mv (18446744073709551616^(j+n+1)*ai 18446744073709551616 (u.drop (j+n+1)))
  omega
 ·exact h
theorem AC (hn:2<=n)(i:v.length=n)(d:Wd v)(c:Wd u)(l:j+n<u.length)(a:v.getD (n-1) 0≠0)(hR:aA u<18446744073709551616^(j+1)*aA v)(h:EE (u.getD (j+n) 0) (u.getD (j+n-1) 0) (u.getD (j+n-2) 0) (v.getD (n-1) 0) (v.getD (n-2) 0) G) :
  aA u/(18446744073709551616^j*aA v)<=G/\G<=aA u/(18446744073709551616^j*aA v)+1:=by
 obtain ⟨h1,e,f⟩:=h;rw[Hb oM,GU] at h1 e
 exact nH kD hn i d c l a hR h1 e f
theorem Aj (hn:2<=n)(f:v.length=n)(a:Wd v)(d:v.getD (n-1) 0≠0):18446744073709551616^(n-1)<=aA v/\aA v<18446744073709551616^n:=by
 have c:=bL a;rw[f] at c
 refine ⟨?_,c⟩;have e:=aJ 18446744073709551616 (l:=v) (k:=n-1) oM;rw[show n-1+1=v.length by omega,yY] at e
 have h:18446744073709551616^(n-1)*1<=18446744073709551616^(n-1)*v.getD (n-1) 0:=Lz _ oM
 show _<=ai _ v
 omega
theorem xL (hn:2<=n)(d:v.length=n)(a:Wd v)(hR:aA u<18446744073709551616^(j+1)*aA v):aA u<18446744073709551616^(j+n+1):=by
 have c:=bL a;rw[d] at c
 have h1:18446744073709551616^(j+1)*aA v<18446744073709551616^(j+1)*18446744073709551616^n:=LK c (Nat.pow_pos kD);rw[<-Ly,show j+1+n=j+n+1 by omega] at h1
 omega
theorem Ea {u1:List Nat}(hn:2<=n)(i:v.length=n)(d:Wd v)(f:Wd u)(h:Wd u1)(y:j+n<u.length)(c:v.getD (n-1) 0≠0)(hR:aA u<18446744073709551616^(j+1)*aA v)
  (p:aA u/(18446744073709551616^j*aA v)<=G/\G<=aA u/(18446744073709551616^j*aA v)+1)(a:Above u1 u (j+n+1))(e:aA u1+18446744073709551616^j*(G*aA v)=aA u+18446744073709551616^(j+n+1)*0) :
  aA u1<18446744073709551616^j*aA v/\aA u1+18446744073709551616^j*(G*aA v)=aA u:=by
 obtain ⟨l,x⟩:=Aj hn i d c;have o:=fr (b:=18446744073709551616) kD a h f (by rw[a.1];omega) (xL hn i d hR);have:=(fW (b:=18446744073709551616) kD hn l x hR o e (Mv 1) p).1 rfl;rw[Ls,yh] at e
 exact ⟨this.2.2.1,e⟩
theorem JF {d a W K T c:Nat}(l:a+T*c=d+W)(i:d+W=K+T)(j:a<T)(o:K<W)(p:W<=T):a=K:=by
 have e:c=1:=by
  rcases Nat.lt_trichotomy c 1 with h|h|h
  ·have:c=0:=by omega
   subst this;omega
  ·exact h
  ·have f:T*2<=T*c:=Lz _ h
   omega
 subst e
 omega
theorem FL {u1 d:List Nat}{c:Nat}(hn:2<=n)(C:v.length=n)(i:Wd v)(l:Wd u)(z:Wd u1)(y:Wd d)(Q:j+n<u.length)(h:v.getD (n-1) 0≠0)(hR:aA u<18446744073709551616^(j+1)*aA v)
  (M:aA u/(18446744073709551616^j*aA v)<=G/\G<=aA u/(18446744073709551616^j*aA v)+1)(f:Above u1 u (j+n+1))(a:Above d u (j+n+1))(e:aA u1+18446744073709551616^j*(G*aA v)=aA u+18446744073709551616^(j+n+1)*1)
  (K:aA d+18446744073709551616^(j+n+1)*c=aA u1+18446744073709551616^j*aA v) :
  aA d<18446744073709551616^j*aA v/\aA d+18446744073709551616^j*((G-1)*aA v)=aA u/\0<G:=by
 obtain ⟨F,D⟩:=Aj hn C i h;have p:=xL hn C i hR;have H:=fr (b:=18446744073709551616) kD f z l (by rw[f.1];omega) p;have x:=fr (b:=18446744073709551616) kD a y l (by rw[a.1];omega) p;obtain ⟨J,L,B,O⟩:=(fW (b:=18446744073709551616) kD hn F D hR H e oM M).2 rfl
 have o:18446744073709551616^j*aA v<=18446744073709551616^(j+n+1):=by
  have h1:18446744073709551616^j*aA v<=18446744073709551616^j*18446744073709551616^n:=Lz _ (Nat.le_of_lt D);rw[<-Ly] at h1
  have I:(18446744073709551616:Nat)^(j+n)<=18446744073709551616^(j+n+1):=Lw kD oM;exact eb h1 I
 have hk:aA d=aA u-18446744073709551616^j*((G-1)*aA v):=JF K L x B o;exact ⟨by rw[hk];exact B,by rw[hk];exact Nat.sub_add_cancel O,by rw[J];exact Mx _⟩
theorem FU {u1:List Nat}(hn:2<=n)(i:v.length=n)(d:Wd v)(f:Wd u)(h:Wd u1)(z:j+n<u.length)(c:v.getD (n-1) 0≠0)(hR:aA u<18446744073709551616^(j+1)*aA v)
  (p:aA u/(18446744073709551616^j*aA v)<=G/\G<=aA u/(18446744073709551616^j*aA v)+1)(a:Above u1 u (j+n+1))(e:aA u1+18446744073709551616^j*(G*aA v)=aA u+18446744073709551616^(j+n+1)*1):0<G:=by
 obtain ⟨l,x⟩:=Aj hn i d c;have o:=fr (b:=18446744073709551616) kD a h f (by rw[a.1];omega) (xL hn i d hR);obtain ⟨y,_⟩:=(fW (b:=18446744073709551616) kD hn l x hR o e (Nat.le_refl 1) p).2 rfl;rw[y];exact Mx _
theorem Df (hn:n<=u.length)(j:v.length=n)(c:Wd v)(a:Wd u)(hR:aA u<aA v):aA (u.take n)=aA u:=by
 have d:=bL c;rw[j] at d
 have f:ai 18446744073709551616 u<18446744073709551616^(n+0):=Nat.lt_trans hR d;have hz:=(iR 18446744073709551616 (l:=u) (k:=n) (m:=0) oM kD a f).2;have e:=bQ 18446744073709551616 (l:=u) (k:=n) hn;have h:ai 18446744073709551616 (u.drop n)=0:=gW _ (fun i=>by rw[bD];exact hz _ oM);rw[h,Ls,yh] at e
 exact e.symm
end
theorem xC {q:List Nat}{j Q X V R R':Nat}(d:j<q.length)(h0:q.getD j 0=0)(inv:X=aA q*V+R)(e:R'+18446744073709551616^j*(Q*V)=R):X=aA (q.set j Q)*V+R':=by
 have a:=cH 18446744073709551616 (l:=q) (k:=j) Q d;rw[h0,Ls,yh] at a
 have c:aA (q.set j Q)=aA q+18446744073709551616^j*Q:=a;rw[c,LN,inv,<-e,Ln];omega
theorem HN {X V R q a b s:Nat}(e:V=b*2^s)(j:X=a*2^s)(inv:X=q*V+R)(hR:R<V):q=a/b/\R/2^s=a%b:=by
 have o:=Lv s;have l:0<V:=by omega
 have i:0<b:=by
  rcases Aw b with h|h
  ·rw[h,y6] at e;omega
  ·exact h
 have f:a*2^s=V*q+R:=by rw[<-j,inv,H1]
 obtain ⟨h1,c⟩:=ki (A:=a) (y:=b) (Q:=q) e f hR;have d:a=R/2^s+b*q:=by omega
 constructor
 ·rw[d,Nat.add_mul_div_left _ _ i,Hi c,y9]
 ·rw[d,Nat.add_mul_mod_self_left,z2 c]
theorem Ch {a s:Nat}(d:s<=64)(h:a*2^s<18446744073709551616):a*2^s+2^s<=18446744073709551616:=by
 have e:=xj d;rw[e] at h ⊢
 have h1:a<2^(64-s):=Nat.lt_of_mul_lt_mul_right h;have c:(a+1)*2^s<=2^(64-s)*2^s:=zh _ h1;rw[LN,LP] at c
 exact c
theorem BC {x y:List Nat}{s:Nat}(f:Wd x)(j:Wd y)(hn:1<=y.length)(c:y.getD (y.length-1) 0≠0)(h:y.length<=x.length):aA x*2^s<18446744073709551616^(x.length-y.length+1)*(aA y*2^s):=by
 have d:=aJ 18446744073709551616 (l:=y) (k:=y.length-1) oM;rw[show y.length-1+1=y.length by omega,yY] at d
 have o:18446744073709551616^(y.length-1)*1<=18446744073709551616^(y.length-1)*y.getD (y.length-1) 0:=Lz _ oM;have i:18446744073709551616^(y.length-1)<=aA y:=by show _<=ai _ y;omega
 have a:18446744073709551616^(x.length-y.length+1)*18446744073709551616^(y.length-1)<=18446744073709551616^(x.length-y.length+1)*aA y:=Lz _ i;rw[<-Ly,show x.length-y.length+1+(y.length-1)=x.length by omega] at a
 have e:aA x<18446744073709551616^x.length:=bL f;rw[<-Ln];exact L8 (ek e a) (Lv s)
theorem GW (A:Z9)(c:Nat)(x:List Nat)(m:Nat)(e:x.length=m)(d:Wd x)(a:x.length<=1000000000)(n:Nat)(hn:n<=1000000000)(w:World)(h:Hp)(g:G w h)(f:SlO 1 ao 0 h A x):CR 208 #[.slice A m c,nV n] w h (fun v h1=>Ek h1 v (x.length-n/64) (fun z=>aA z=aA x/2^n)):=by
 subst e;exact JQ A c x d a n hn w h g f
theorem GE {y z:List Nat}{s:Nat}(a:s<=64)(p:Wd y)(hz:Wd z)(o:aA z=aA y*2^s)(hn:1<=y.length)(B:y.getD (y.length-1) 0*2^s<18446744073709551616)(h:y.length<=z.length):aA (z.take y.length)=aA y*2^s:=by
 have f:aA z<18446744073709551616^(y.length+0):=by
  rw[o,yh];have j:=aJ 18446744073709551616 (l:=y) (k:=y.length-1) oM;rw[show y.length-1+1=y.length by omega,yY] at j
  have h1:=bL (Dg.take p (y.length-1));rw[Lp,Lq oM] at h1
  have x:aA y<18446744073709551616^(y.length-1)*(y.getD (y.length-1) 0+1):=by
   show ai _ y<_
   rw[j,Lm,LL];omega
  have u:aA y*2^s<18446744073709551616^(y.length-1)*(y.getD (y.length-1) 0+1)*2^s:=L8 x (Lv s)
  have d:18446744073709551616^(y.length-1)*(y.getD (y.length-1) 0+1)*2^s<=18446744073709551616^y.length:=by
   have C:(18446744073709551616:Nat)^y.length=18446744073709551616^(y.length-1)*18446744073709551616:=by rw[<-HA];congr 1;omega
   rw[C,Ln];refine Lz _ ?_;rw[LN,LP];exact Ch a B
  exact ek u d
 have c:=(iR 18446744073709551616 (l:=z) (k:=y.length) (m:=0) oM kD hz f).2;have e:=bQ 18446744073709551616 (l:=z) (k:=y.length) oM;have d:ai 18446744073709551616 (z.drop y.length)=0:=gW _ (fun i=>by rw[bD];exact c _ oM);rw[d,Ls,yh] at e
 rw[<-o];exact e.symm
theorem DA {y v:List Nat}{s:Nat}(h:Wd y)(hv:Wd v)(f:v.length=y.length)(p:aA v=aA y*2^s)(hn:1<=y.length)(o:9223372036854775808<=y.getD (y.length-1) 0*2^s):v.getD (v.length-1) 0≠0:=by
 intro h0;have a:=aJ 18446744073709551616 (l:=v) (k:=v.length-1) oM;rw[show v.length-1+1=v.length by omega,yY,h0,Ls,yh] at a
 have h1:=bL (Dg.take hv (v.length-1));rw[Lp,Lq oM] at h1
 have e:=aJ 18446744073709551616 (l:=y) (k:=y.length-1) oM;rw[show y.length-1+1=y.length by omega,yY] at e
 have c:18446744073709551616^(y.length-1)*y.getD (y.length-1) 0<=aA y:=by show _<=ai _ y;omega
 have d:18446744073709551616^(y.length-1)*y.getD (y.length-1) 0*2^s<=aA y*2^s:=zh _ c;rw[Ln] at d
 have j:18446744073709551616^(y.length-1)*1<=18446744073709551616^(y.length-1)*(y.getD (y.length-1) 0*2^s):=Lz _ oM
 have i:aA v<18446744073709551616^(y.length-1):=by
  show ai _ v<_
  rw[a,<-f];exact h1
 omega
theorem HU (A:Z9)(c:Nat)(x:List Nat)(D:Z9)(d:Nat)(y:List Nat)(hx:Wd x)(hy:Wd y)(hlx:x.length<=1000000000)(hny:2<=y.length)(hxy:y.length<=x.length)(bz:y.getD (y.length-1) 0≠0)(w:World)(h:Hp)(g:G w h)(hA:SlO 1 ao 0 h A x)(hD:SlO 1 ao 0 h D y):CR 177 #[.slice A x.length c,.slice D y.length d] w h (fun v h1=>∃ Aq cq,∃ q:List Nat,∃ Ar cr,∃ r:List Nat,v=.tuple #[.slice Aq q.length cq,.slice Ar r.length cr]/\q.length<=cq/\r.length<=cr/\Wd q/\Wd r/\aA q=aA x/aA y/\aA r=aA x%aA y/\q.length<=x.length/\r.length<=y.length/\SlO 1 ao 0 h1 Aq q/\SlO 1 ao 0 h1 Ar r):=by
 have e:=(((sS g).aS hA).aS hD);refine go Tryz.func177 [(0,qS A x.length c),(1,qS D y.length d)] rfl (aa e ax (aG (lL e [.c,.v (nV y.length),.c] (aG (lL e ax (bv 25 ((y.length:Nat)-1) (y.length-1) ?_))))));refine lX 26 D y.length d 1 (y.length-1:Nat) (y.length-1) ((e.f.1).ok oM) (lH 27 (mV (y.getD (y.length-1) 0)) e ((e.f.1).el (y.length-1) oM) ?_);have hyt:=hy.get (y.length-1);refine aq 28 e (Ez (y.getD (y.length-1) 0) wM _ _ e.g) (fun w1 h2 e=>lL e ac (aG (lL e ax (lC 31 e (Bl D d y hy oM (64-nb (y.getD (y.length-1) 0)) oM _ _ e.g e.f.1) ?_))));rintro _ w3 h4 e ⟨V,vc,zv,rfl,hvc,dy,hWv,hVv,hFv⟩;replace e:=e.aS hFv;refine lL e ac (lT 33 V zv.length vc 1 (y.length:Nat) y.length ?_);obtain ⟨p,hvl_⟩:∃ p,p=zv.take y.length:=⟨_,rfl⟩;have bq:p.length=y.length:=by rw[hvl_,Lp];omega
 have C:Wd p:=by rw[hvl_];exact Dg.take hWv _
 have c7:=(co (n:=y.getD (y.length-1) 0) oM).2.2;have bf:=uP (y:=y.getD (y.length-1) 0) oM (hy.get _);have X:aA p=aA y*2^(64-nb (y.getD (y.length-1) 0)):=by rw[hvl_];exact GE oM hy hWv hVv oM bf.2 oM
 have M:p.getD (p.length-1) 0≠0:=DA hy C bq X oM bf.1;replace e:=e.aS ((e.f.1).take y.length);rw[<-hvl_] at e
 refine lL e ac (aG (lL e [.c,.v (nV x.length)] (bv 36 ((x.length:Nat)+1) (x.length+1) ?_)));refine lK 37 43 (x.length+1) 1 8 (uV 0) ao 0 e (fun z w6 h7 e=>?_);have hl8:(zZ (x.length+1) 0).length=(x.length+1):=by simp
 refine lL e ac (aG (lL e cJ (lC 41 e (Bl A c x hx hlx (64-nb (y.getD (y.length-1) 0)) oM _ _ e.g e.f.r.2.1) ?_)));rintro _ w9 _ e ⟨Uo,uc,zu,rfl,huc,c4,b4,hVu,hFu⟩;replace e:=e.aS hFu;have b1:zu.length=x.length+1:=by omega
 refine K6 42 0 (.tmp 38) (.tmp 41) 192 43 ao 0 Uo zu (x.length+1) zu.length uc (x.length+1) e e.f.1 rfl oM oM (by show ((zZ (x.length+1) 0).flatMap ao).length=_;rw[bY (sz:=1) (fun _=>rfl)];simp) (fun _ e=>?_);replace e:=e.to [⟨z,43,(zu).flatMap ao⟩] [];refine aG (lL e [.c,.v (nV x.length),.c] (bv 46 ((x.length:Nat)-(y.length:Nat)) (x.length-y.length) ?_));refine bv 47 ((x.length-y.length:Nat)+1) ((x.length-y.length)+1) (lK 48 43 ((x.length-y.length)+1) 1 8 (uV 0) ao 0 e (fun O _ zD e=>?_));have zt:(zZ ((x.length-y.length)+1) 0).length=((x.length-y.length)+1):=by simp
 refine lL e ac (ah (aa e [.c,.v (nV x.length),.c] (lV 52 (iV (((x.length-y.length+1:Nat):Int)-1)) ?_ (hr:=rS (((x.length:Nat)-(y.length:Nat))) kR ((gH oM oM).trans oM)))));refine lL e ac (lN (bH [(4,qS (sB O) ((x.length-y.length)+1) ((x.length-y.length)+1)),(5,sZ),(6,nV y.length),(7,nV (64-nb (y.getD (y.length-1) 0))),(8,qS V y.length vc),(9,qS (sB z) (x.length+1) (x.length+1)),(10,iV (((x.length-y.length+1:Nat):Int)-1))] ?_));refine kZ ?_;refine bH _ (CG.loop (fun μ_ Γ w_=>∃ (m:Nat)(H:List Nat)(K:List Nat)(B:Hp),μ_=m/\Γ=[(4,qS (sB O) ((x.length-y.length)+1) ((x.length-y.length)+1)),(5,sZ),(6,nV y.length),(7,nV (64-nb (y.getD (y.length-1) 0))),(8,qS V y.length vc),(9,qS (sB z) (x.length+1) (x.length+1)),(10,iV ((m:Int)-1))]/\SS w h w_ B [⟨O,43,(K).flatMap ao⟩,⟨z,43,(H).flatMap ao⟩] [] [fun B=>SlO 1 ao 0 B Uo zu,fun B=>SlO 1 ao 0 B V p,fun B=>SlO 1 ao 0 B V zv,fun B=>SlO 1 ao 0 B D y,fun B=>SlO 1 ao 0 B A x]/\m<=x.length-y.length+1/\H.length=x.length+1/\Wd H/\K.length=x.length-y.length+1/\Wd K/\aA H<18446744073709551616^m*aA p/\aA zu=aA K*aA p+aA H/\(∀ k,k<m->K.getD k 0=0)) _ ⟨x.length-y.length+1,zu,zZ ((x.length-y.length)+1) 0,zD,rfl,rfl,e.to _ _,nR _,b1,b4,zt,Wd.rep _,(by rw[hVu,X];exact BC hx hy oM bz oM),(by show _=ai _ _*_+_;rw[dJ,y6,y9]),fun k _=>ef⟩ ?_);rintro _ _ _ ⟨m,H,K,_,cw,rfl,e,hm,hul,J,hql,hWq,hR,inv,hq0⟩;refine cQ (aa e ac ?_);cases zd:(decide ((0:Int)<=((m:Int)-1:Int)))
 .
  have zl:=oF zd;refine lB 54 zd (ag (CG.exit ?_))
  show CG _ _ _ _ _ _ _ _
  refine aD ?_;have hm0:m=0:=by omega
  obtain ⟨_,e,bt,dp,dv⟩:=e.pub 0;replace e:=(e.to [⟨z,43,(H).flatMap ao⟩] []).aS (SlO.of_flat (sz:=1) (f:=ao) (d:=0) (b:=O) (o:=0) (l:=K) (fun _=>rfl) bt);obtain ⟨_,e,b0,c5,dx⟩:=e.pub 0;replace e:=(e.to [] []).aS (SlO.of_flat (sz:=1) (f:=ao) (d:=0) (b:=z) (o:=0) (l:=H) (fun _=>rfl) b0);refine lL e cJ (lT 190 (sB z) (x.length+1) (x.length+1) 1 (y.length:Nat) y.length ?_);refine lL e ac (lC 192 e (GW (sB z) (x.length+1) (H.take y.length) y.length (by rw[Lp];omega) (Dg.take J _) (by rw[Lp];omega) (64-nb (y.getD (y.length-1) 0)) oM _ _ e.g ((e.f.1).take y.length)) ?_);rintro _ _ _ e ⟨Ar,cr,zr,rfl,hcr,hlr,hWr,hVr,hFr⟩;replace e:=e.aS hFr;refine lL e ax (lN (kX ?_));rw[hm0,Mw,LP] at hR
  obtain ⟨hQ,hRm⟩:=HN X hVu inv hR;rw[Df (v:=p) oM oM C J hR] at hVr
  exact e.ret [] (.tuple #[qS (sB O) ((x.length-y.length)+1) ((x.length-y.length)+1),qS Ar zr.length cr]) (⟨_,_,K,Ar,cr,zr,by rw[hql],by omega,hcr,hWq,hWr,hQ,hVr.trans hRm,by omega,(by have:=List.length_take_le y.length H;omega),e.f.r.1,e.f.1⟩)
 have zl:=oT zd;refine lB 54 zd (ak (cK (cQ (kZ (cQ (cR 31 [] mixed e ar ?_))))));have hm1:0<m:=by omega
 have Y:2<=p.length:=by omega
 have hjn:m-1+p.length<H.length:=by omega
 have W:aA H<18446744073709551616^(m-1+1)*aA p:=by rw[show m-1+1=m by omega];exact hR
 have hle:=G8 (n:=p.length) (j:=m-1) Y rfl C J hjn W;refine eV 0 57 (qS (sB z) (x.length+1) (x.length+1)) (eV 1 58 (iV ((m:Int)-1)) (eV 2 59 (nV y.length) (j4 3 60 (((m:Int)-1)+(y.length:Nat)) (m-1+p.length) (eX 4 61 (sB z) (x.length+1) (x.length+1) 1 (m-1+p.length:Nat) (m-1+p.length) rfl (eQ 5 62 1 H ao 1 0 (m-1+p.length) (mV ((H).getD (m-1+p.length) 0)) e oM (eV 6 63 (qS (sB z) (x.length+1) (x.length+1)) (eV 7 64 (iV ((m:Int)-1)) (eV 8 65 (nV y.length) (j4 9 66 (((m:Int)-1)+(y.length:Nat)) (m-1+p.length) (j4 10 67 ((m-1+p.length:Nat)-1) (m-1+p.length-1) (eX 11 68 (sB z) (x.length+1) (x.length+1) 1 (m-1+p.length-1:Nat) (m-1+p.length-1) rfl (eQ 12 69 1 H ao 1 0 (m-1+p.length-1) (mV ((H).getD (m-1+p.length-1) 0)) e oM (eV 13 70 (qS (sB z) (x.length+1) (x.length+1)) (eV 14 71 (iV ((m:Int)-1)) (eV 15 72 (nV y.length) (j4 16 73 (((m:Int)-1)+(y.length:Nat)) (m-1+p.length) (j4 17 74 ((m-1+p.length:Nat)-2) (m-1+p.length-2) (eX 18 75 (sB z) (x.length+1) (x.length+1) 1 (m-1+p.length-2:Nat) (m-1+p.length-2) rfl (eQ 19 76 1 H ao 1 0 (m-1+p.length-2) (mV ((H).getD (m-1+p.length-2) 0)) e oM (eV 20 77 (qS V y.length vc) (eV 21 78 (nV y.length) (j4 22 79 ((y.length:Nat)-1) (p.length-1) (eX 23 80 V y.length vc 1 (p.length-1:Nat) (p.length-1) ((e.f.2.1).ok oM) (eH 24 81 (mV (p.getD (p.length-1) 0)) e ((e.f.2.1).el (p.length-1) oM) (eV 25 82 (qS V y.length vc) (eV 26 83 (nV y.length) (j4 27 84 ((y.length:Nat)-2) (p.length-2) (eX 28 85 V y.length vc 1 (p.length-2:Nat) (p.length-2) ((e.f.2.1).ok oM) (eH 29 86 (mV (p.getD (p.length-2) 0)) e ((e.f.2.1).el (p.length-2) oM) (eC 30 87 e (fun _ _ e=>HI (((H).getD (m-1+p.length) 0)) (((H).getD (m-1+p.length-1) 0)) (((H).getD (m-1+p.length-2) 0)) ((p.getD (p.length-1) 0)) ((p.getD (p.length-2) 0)) (J.get _) (J.get _) (J.get _) (C.get _) (C.get _) hle oM _ _ e.g) ?_))))))))))))))))))))))))))))));rintro _ _ _ _ _ e ⟨g,rfl,hG0⟩;have hG:=AC (n:=p.length) (j:=m-1) Y rfl C J hjn M W hG0;have hgb:=hG0.2.2;refine bS e (fun _ zE e=>tV 31 11 (mV g) (tN (bH [(4,qS (sB O) ((x.length-y.length)+1) ((x.length-y.length)+1)),(5,sZ),(6,nV y.length),(7,nV (64-nb (y.getD (y.length-1) 0))),(8,qS V y.length vc),(9,qS (sB z) (x.length+1) (x.length+1)),(10,iV ((m:Int)-1)),(11,mV g)] ?_)));refine aa e ax (ah (aa e ax (aZ ?_)));refine bH _ (CG.loop (fun μ_ Γ w_=>∃ (i:Nat)(u1:List Nat)(cy:Nat)(bo:Nat)(B:Hp),μ_=y.length-i/\Γ=[(4,qS (sB O) ((x.length-y.length)+1) ((x.length-y.length)+1)),(5,sZ),(6,nV y.length),(7,nV (64-nb (y.getD (y.length-1) 0))),(8,qS V y.length vc),(9,qS (sB z) (x.length+1) (x.length+1)),(10,iV ((m:Int)-1)),(11,mV g),(88,nV y.length),(89,nV i),(12,mV cy),(13,mV bo)]/\SS w h w_ B [⟨O,43,(K).flatMap ao⟩,⟨z,43,(u1).flatMap ao⟩] [] [fun B=>SlO 1 ao 0 B Uo zu,fun B=>SlO 1 ao 0 B V p,fun B=>SlO 1 ao 0 B V zv,fun B=>SlO 1 ao 0 B D y,fun B=>SlO 1 ao 0 B A x]/\i<=y.length/\u1.length=x.length+1/\Wd u1/\cy<18446744073709551616/\bo<=1/\ai 18446744073709551616 u1+18446744073709551616^(m-1)*(g*ai 18446744073709551616 (p.take i))=aA H+18446744073709551616^(m-1+i)*(cy+bo)/\Above u1 H (m-1+p.length+1)) _ ⟨0,H,0,0,zE,rfl,rfl,e.to _ _,Mv _,hul,J,oM,oM,(by show ai _ H+_=ai _ H+_;simp[ai]),Above.refl _ _⟩ ?_);rintro _ _ _ ⟨i,u1,cy,bo,zq,dc,rfl,e,hi,hu1,hW1,hcy,hbo,bb,bl⟩;have c9:=hW1.get (m-1+i);have hvk:=C.get i;refine aD ?_;cases ze:(decide ((i:Int)<(y.length:Int)))
 .
  have zm:=oF ze;refine lB 90 ze (ah (dC (CG.exit ?_)))
  show CG _ _ _ _ _ _ _ _
  refine aD ?_;rw[show i=p.length by omega] at bb
  have ds:=hW1.get (m-1+p.length);refine lL e cJ (bv 132 (((m:Int)-1)+(y.length:Nat)) (m-1+p.length) ?_);refine lL e cJ (bv 136 (((m:Int)-1)+(y.length:Nat)) (m-1+p.length) ?_);refine lX 137 (sB z) (x.length+1) (x.length+1) 1 (m-1+p.length:Nat) (m-1+p.length) rfl (lQ 138 1 u1 ao 1 0 (m-1+p.length) (mV ((u1).getD (m-1+p.length) 0)) e oM (lL e ax ?_));obtain ⟨I,zc,d0,cz,c8,b3⟩:=jA ((u1).getD (m-1+p.length) 0) cy bo wM wM oM;refine lV 141 (.tuple #[mV I,mV zc]) ?_ (hr:=eg kR (b3 _));refine lL e [.c,.v (mV I),.v (mV zc)] (lX 144 (sB z) (x.length+1) (x.length+1) 1 (m-1+p.length:Nat) (m-1+p.length) rfl ?_);refine lW 1 u1 ao 1 (m-1+p.length) I e oM (fun _ e=>?_);have zk:((u1).set (m-1+p.length) I).length=(x.length+1):=by rw[Md];exact hu1
  replace e:=e.to [⟨O,43,(K).flatMap ao⟩,⟨z,43,((u1).set (m-1+p.length) I).flatMap ao⟩] [];refine lL e ac (ah (aD ?_));have hE:=xE oM bb (s:=I) (bo':=zc) oM;have Z:Wd ((u1).set (m-1+p.length) I):=hW1.set _ oM;have S:=bl.set (x:=I) (show m-1+p.length<m-1+p.length+1 by omega) oM;refine lL e ac ?_;cases zf:((zc:Int) != (0:Int))
  .
   have zn:=aW zf;refine lB 146 zf (ag (cK (kQ ?_)));have hD_:=Ea Y rfl C J Z hjn M W hG S (by rw[show zc=0 by omega] at hE;exact hE);have hDw:=Z;have hDg:=hgb;have hDu:=hD_.1;have hDe:=hD_.2;refine lL e cJ (lX 186 (sB O) ((x.length-y.length)+1) ((x.length-y.length)+1) 1 ((m:Int)-1) (m-1) rfl ?_);refine lW 0 K ao 1 (m-1) g e oM (fun _ e=>?_);have zw:((K).set (m-1) g).length=((x.length-y.length)+1):=by rw[Md];exact hql
   replace e:=e.to [⟨O,43,((K).set (m-1) g).flatMap ao⟩,⟨z,43,((u1).set (m-1+p.length) I).flatMap ao⟩] [];refine lN (kQ (lL e ac (lV 56 (iV (((m-1:Nat):Int)-1)) ?_ (hr:=rS ((((m:Int)-1)-1)) kR ((gH oM oM).trans oM)))));refine lL e ac (lD ?_);intro a_ ka;refine ⟨_,_,?_,⟨m-1,(u1).set (m-1+p.length) I,(K).set (m-1) g,zq,rfl,rfl,e.to _ _,oM,zk,hDw,zw,(hWq.set _ hDg),hDu,(xC oM (hq0 _ oM) inv hDe),(fun k hk=>by rw[bC oM,if_neg oM];exact hq0 k oM)⟩,ka.to _ kR⟩
   omega
  have zn:=aK zf;refine lB 146 zf (ak (aa e ac ?_));have hE1:=hE;rw[show zc=1 by omega] at hE1
  have hgp:=FU Y rfl C J Z hjn M W hG S hE1;refine lV 148 (mV (g-1)) ?_ (hr:=rU (((g:Int)-(1:Int))) kR (fI g 1 oM oM));refine lL e ac (aG (lL e ac (ah (aa e ax (aZ ?_)))));refine bH _ (CG.loop (fun μ_ Γ w_=>∃ (u:Nat)(F:List Nat)(c2:Nat)(B:Hp),μ_=y.length-u/\Γ=[(4,qS (sB O) ((x.length-y.length)+1) ((x.length-y.length)+1)),(5,sZ),(6,nV y.length),(7,nV (64-nb (y.getD (y.length-1) 0))),(8,qS V y.length vc),(9,qS (sB z) (x.length+1) (x.length+1)),(10,iV ((m:Int)-1)),(11,mV (g-1)),(149,nV y.length),(150,nV u),(19,mV c2)]/\SS w h w_ B [⟨O,43,(K).flatMap ao⟩,⟨z,43,(F).flatMap ao⟩] [] [fun B=>SlO 1 ao 0 B Uo zu,fun B=>SlO 1 ao 0 B V p,fun B=>SlO 1 ao 0 B V zv,fun B=>SlO 1 ao 0 B D y,fun B=>SlO 1 ao 0 B A x]/\u<=y.length/\F.length=x.length+1/\Wd F/\c2<=1/\ai 18446744073709551616 F+18446744073709551616^(m-1+u)*c2=ai 18446744073709551616 ((u1).set (m-1+p.length) I)+18446744073709551616^(m-1)*ai 18446744073709551616 (p.take u)/\Above F H (m-1+p.length+1)) _ ⟨0,(u1).set (m-1+p.length) I,0,zq,rfl,rfl,e.to _ _,Mv _,zk,Z,oM,(by simp[ai]),S⟩ ?_);rintro _ _ _ ⟨u,F,c2,zG,c3,rfl,e,hi2,hu2,hW2,hc2,bd,bk⟩;have br:=hW2.get (m-1+u);have dm:=C.get u;refine aD ?_;cases zg:(decide ((u:Int)<(y.length:Int)))
  .
   have zo:=oF zg;refine lB 151 zg (ah (dC (CG.exit ?_)))
   show CG _ _ _ _ _ _ _ _
   refine kQ (lL e cJ (bv 177 (((m:Int)-1)+(y.length:Nat)) (m-1+p.length) ?_));refine lX 178 (sB z) (x.length+1) (x.length+1) 1 (m-1+p.length:Nat) (m-1+p.length) rfl (lQ 179 1 F ao 1 0 (m-1+p.length) (mV ((F).getD (m-1+p.length) 0)) e oM (lL e ac (lV 181 (mV ((((F).getD (m-1+p.length) 0)+c2)%18446744073709551616)) ?_ (hr:=rU (((((F).getD (m-1+p.length) 0:Nat):Int)+(c2:Int))) kR (Cg ((F).getD (m-1+p.length) 0) c2)))));refine lX 182 (sB z) (x.length+1) (x.length+1) 1 (m-1+p.length:Nat) (m-1+p.length) rfl (lW 1 F ao 1 (m-1+p.length) ((((F).getD (m-1+p.length) 0)+c2)%18446744073709551616:Nat) e oM (fun _ e=>?_));have zx:((F).set (m-1+p.length) ((((F).getD (m-1+p.length) 0)+c2)%18446744073709551616:Nat)).length=(x.length+1):=by rw[Md];exact hu2
   replace e:=e.to [⟨O,43,(K).flatMap ao⟩,⟨z,43,((F).set (m-1+p.length) ((((F).getD (m-1+p.length) 0)+c2)%18446744073709551616:Nat)).flatMap ao⟩] [];refine lN (kQ ?_);have b2:u=p.length:=by omega
   rw[b2] at bd
   have br:=hW2.get (m-1+p.length);have hE3:=wu (s:=(F.getD (m-1+p.length) 0+c2)%18446744073709551616) (c':=(F.getD (m-1+p.length) 0+c2)/18446744073709551616) oM bd (Nat.mod_add_div _ _);have hDw:Wd ((F).set (m-1+p.length) ((((F).getD (m-1+p.length) 0)+c2)%18446744073709551616:Nat)):=hW2.set _ (z6 _ kD);obtain ⟨hDu,hDe,hDp⟩:=FL Y rfl C J Z hDw hjn M W hG S (bk.set oM oM) hE1 hE3;have hDg:g-1<18446744073709551616:=by omega
   refine lL e cJ (lX 186 (sB O) ((x.length-y.length)+1) ((x.length-y.length)+1) 1 ((m:Int)-1) (m-1) rfl ?_);refine lW 0 K ao 1 (m-1) (g-1) e oM (fun _ e=>?_);have zA:((K).set (m-1) (g-1)).length=((x.length-y.length)+1):=by rw[Md];exact hql
   replace e:=e.to [⟨O,43,((K).set (m-1) (g-1)).flatMap ao⟩,⟨z,43,((F).set (m-1+p.length) ((((F).getD (m-1+p.length) 0)+c2)%18446744073709551616:Nat)).flatMap ao⟩] [];refine lN (kQ (lL e ac (lV 56 (iV (((m-1:Nat):Int)-1)) ?_ (hr:=rS ((((m:Int)-1)-1)) kR ((gH oM oM).trans oM)))));refine lL e ac (lD ?_);intro a_ ka;refine ⟨_,_,?_,⟨m-1,(F).set (m-1+p.length) ((((F).getD (m-1+p.length) 0)+c2)%18446744073709551616:Nat),(K).set (m-1) (g-1),zG,rfl,rfl,e.to _ _,oM,zx,hDw,zA,(hWq.set _ hDg),hDu,(xC oM (hq0 _ oM) inv hDe),(fun k hk=>by rw[bC oM,if_neg oM];exact hq0 k oM)⟩,ka.to _ kR⟩
   omega
  have zo:=oT zg;refine lB 151 zg (ah (cn (cK (cQ (kZ (aa e ax (lN (cR 19 [] mixed e ar ?_))))))));refine eV 0 154 (qS (sB z) (x.length+1) (x.length+1)) (eV 1 155 (iV ((m:Int)-1)) (eV 2 156 (nV u) (j4 3 157 (((m:Int)-1)+(u:Nat)) (m-1+u) (eV 4 158 (qS (sB z) (x.length+1) (x.length+1)) (eV 5 159 (iV ((m:Int)-1)) (eV 6 160 (nV u) (j4 7 161 (((m:Int)-1)+(u:Nat)) (m-1+u) (eX 8 162 (sB z) (x.length+1) (x.length+1) 1 (m-1+u:Nat) (m-1+u) rfl (eQ 9 163 1 F ao 1 0 (m-1+u) (mV ((F).getD (m-1+u) 0)) e oM (eV 10 164 (qS V y.length vc) (eV 11 165 (nV u) (eX 12 166 V y.length vc 1 (u:Nat) u ((e.f.2.1).ok oM) (eH 13 167 (mV (p.getD u 0)) e ((e.f.2.1).el u oM) (eV 14 168 (mV c2) ?_))))))))))))));obtain ⟨Q,zj,dz,dn,cp,b6⟩:=fa ((F).getD (m-1+u) 0) (p.getD u 0) c2 wM wM oM;refine eV 15 169 (.tuple #[mV Q,mV zj]) ?_ (hv:=fun _=>eg kR (b6 _));refine eV 16 153 (.tuple #[mV Q,mV zj]) (eV 17 170 (mV Q) (eV 18 171 (mV zj) (bS e (fun _ zH e=>tX 19 172 (sB z) (x.length+1) (x.length+1) 1 (m-1+u:Nat) (m-1+u) rfl (tW 20 1 F ao 1 (m-1+u) Q e oM (fun _ e=>?_))))));have zB:((F).set (m-1+u) Q).length=(x.length+1):=by rw[Md];exact hu2
  replace e:=e.to [⟨O,43,(K).flatMap ao⟩,⟨z,43,((F).set (m-1+u) Q).flatMap ao⟩] [];refine tV 21 19 (mV zj) (tN (kQ (bv 173 ((u:Nat)+1) (u+1) ?_)));refine lL e ac (lD ?_);intro a_ ka;refine ⟨_,_,?_,⟨u+1,(F).set (m-1+u) Q,zj,zH,rfl,rfl,e.to _ _,oM,zB,(hW2.set _ oM),oM,(uQ oM bd oM),(bk.set oM oM)⟩,ka.to _ kR⟩
  omega
 have zm:=oT ze;refine lB 90 ze (ah (cn (cK (cQ (kZ (aa e ax (aG (lL e cJ (lX 96 V y.length vc 1 (i:Nat) i ((e.f.2.1).ok oM) ?_)))))))));refine lH 97 (mV (p.getD i 0)) e ((e.f.2.1).el i oM) (lC 98 e (oP g (p.getD i 0) wM wM _ _ e.g) ?_);rintro _ _ zI e ⟨U,zs,rfl,cx,df,dw,c6⟩;have b7:=jI (a:=g) (b:=(p.getD i 0)) wM wM;refine lL e [.c,.v (mV U),.v (mV zs),.c,.c] (aG (lL e ax ?_));obtain ⟨s99,zb,cf,cd,cj,bm⟩:=fa zs cy 0 wM wM oM;refine lV 104 (.tuple #[mV s99,mV zb]) ?_ (hr:=eg kR (bm _));refine lL e [.c,.v (mV s99),.v (mV zb),.c,.c] (aG (lL e ax (lV 109 (mV (U+zb)) ?_ (hr:=rU (((U:Int)+(zb:Int))) kR (eM U zb oM)))));refine lL e ac (lN (kQ (lL e cJ (bv 114 (((m:Int)-1)+(i:Nat)) (m-1+i) ?_))));refine lL e cJ (bv 118 (((m:Int)-1)+(i:Nat)) (m-1+i) ?_);refine lX 119 (sB z) (x.length+1) (x.length+1) 1 (m-1+i:Nat) (m-1+i) rfl (lQ 120 1 u1 ao 1 0 (m-1+i) (mV ((u1).getD (m-1+i) 0)) e oM (lL e ax ?_));obtain ⟨L,zi,cm,ch,b9,bn⟩:=jA ((u1).getD (m-1+i) 0) s99 bo wM wM oM;refine lV 123 (.tuple #[mV L,mV zi]) ?_ (hr:=eg kR (bn _));refine lL e [.c,.v (mV L),.v (mV zi)] (lX 126 (sB z) (x.length+1) (x.length+1) 1 (m-1+i:Nat) (m-1+i) rfl ?_);refine lW 1 u1 ao 1 (m-1+i) L e oM (fun _ e=>?_);have zp:((u1).set (m-1+i) L).length=(x.length+1):=by rw[Md];exact hu1
 replace e:=e.to [⟨O,43,(K).flatMap ao⟩,⟨z,43,((u1).set (m-1+i) L).flatMap ao⟩] [];refine lL e ac (lN (bH [(4,qS (sB O) ((x.length-y.length)+1) ((x.length-y.length)+1)),(5,sZ),(6,nV y.length),(7,nV (64-nb (y.getD (y.length-1) 0))),(8,qS V y.length vc),(9,qS (sB z) (x.length+1) (x.length+1)),(10,iV ((m:Int)-1)),(11,mV g),(88,nV y.length),(89,nV i),(12,mV (U+zb)),(13,mV zi)] ?_));refine kQ (bv 127 ((i:Nat)+1) (i+1) ?_);refine lL e ac (lD ?_);intro a_ ka;refine ⟨_,_,?_,⟨i+1,(u1).set (m-1+i) L,(U+zb),zi,zI,rfl,rfl,e.to _ _,oM,zp,(hW1.set _ oM),oM,oM,(uG (t:=s99) oM bb oM oM),(bl.set oM oM)⟩,ka.to _ kR⟩
 omega
theorem dH (A:Z9)(c:Nat)(l:List Nat)(m x:Nat)(a:l.length=m)(f:Wd l)(hv:aA l=x)(i:l.length<=1099511627776)(e:l.length<=c)(w:World)(h:Hp)(g:G w h)(d:SlO 1 ao 0 h A l):CV 123 #[.slice A m c] w h (nv x):=by
 subst a hv;exact Fl A c l f i e w h g d
theorem IR (a b:Nat)(F:(wds a).length<=1000000000)(K:(wds b).length<=1000000000)(has:a<18446744073709551616)(u:b<18446744073709551616)(w:World)(h:Hp)(g:G w h):CV 231 #[nv a,nv b] w h (nv (a+b)):=by
 have e:=sS g;have J:=z2 has;have H:=z2 u;refine go Tryz.func231 [(0,nv a),(1,nv b)] rfl (aD (lA 2 45 (nc a) e (fun y w2 O e=>lA 3 45 (nc b) e (fun C U M e=>lA 4 45 ([uV 0,eS]) e (fun S V Q e=>ah (aa e [.v (qP y 1),.o (.string (hi a)) 2 1 1] (lV 14 qT ?_ (hr:=rb kR (j8 (ff has))))))))));refine lL e [.c,.v (qP C 1),.o (.string (hi b)) 1 1 1] (lV 18 qT ?_ (hr:=rb kR (j8 (ff u))));refine lL e [.v qT] (ak (aa e [.v (pB y),.o (mV (a%18446744073709551616)) 2 0 1,.v (pB C),.o (mV (b%18446744073709551616)) 1 0 1] ?_));obtain ⟨i,j,D,z,B,p⟩:=fa (a%18446744073709551616) (b%18446744073709551616) 0 wM wM oM;refine lV 25 (.tuple #[mV i,mV j]) ?_ (hr:=eg kR (p _));refine lL e [.c,.v (mV i),.v (mV j),.c,.c] (ah (aa e ac ?_));cases x:((j:Int) == (0:Int))
 .
  have I:=aj x;refine lB 29 x (ag (cK (aa e ax (lR 34 43 2 ([mV i,mV j]) e (fun L _ _ e=>?_)))));replace e:=e.aS (SlO.of_flat (sz:=1) (f:=ao) (d:=0) (l:=[i,j]) (fun _=>rfl) e.f.1);exact aq 35 e (dH (sB L) 2 ([i,j]) 2 ((a+b)) (by first|rfl|assumption|(simp;done)|(simp;omega)|omega) (Dg.cons oM (Dg.one oM)) (by show i+18446744073709551616*(j+18446744073709551616*0)=a+b;omega) sM sM _ _ e.g e.f.1) (fun _ _ e=>lP 0 0 (nc (a+b)) e (fun _ e=>ae e [(0,0,2)] (nv (a+b)) rfl))
 have I:=eq_of_beq x;exact lB 29 x (ak (aa e [.c,.v (.agg #[mV i,eS])] (lP 0 0 ([mV i,eS]) e (fun _ e=>ae e [(0,0,2)] (.agg #[mV i,eS]) (by rw[show i=a+b by omega];exact jw oM)))))
theorem I5 (a b:Nat)(hla:(wds a).length<=1000000000)(hlb:(wds b).length<=1000000000)(has:18446744073709551616<=a)(hb0:0<b)(hle:(wds b).length<=(wds a).length)(w:World)(h:Hp)(g:G w h):CV 231 #[nv a,nv b] w h (nv (a+b)):=by
 have e:=sS g;refine go Tryz.func231 [(0,nv a),(1,nv b)] rfl (aD (lA 2 45 (nc a) e (fun C w2 h3 e=>lA 3 45 (nc b) e (fun F w5 h6 e=>lA 4 45 ([uV 0,eS]) e (fun D w8 h9 e=>ah (aa e [.v (qP C 1),.o (.string (hi a)) 2 1 1] (lV 14 qF ?_ (hr:=rb kR (je (fG has))))))))));refine lL e ac (lG 16 ?_);refine lG 17 (lG 18 (lL e [.v qF] (ag (cK (cQ ?_)))));obtain ⟨K,hK_⟩:∃ K,K=w8.heap.size:=⟨_,rfl⟩;have bd:D<K:=by rw[hK_];exact fi e 0
 have J:F<K:=by rw[hK_];exact fi e 1
 have H:C<K:=by rw[hK_];exact fi e 2
 refine wn ⟨[],some (K,[])⟩ 0 mixed ?_;have b3:=e.g.size;replace e:=e.drew;have y:=MC hK_;refine zO 0 36 [(2,0,2)] (nv a) rfl y e (fun p hp=>by obtain rfl:=sA.1 hp;exact H) (zO 2 38 [(1,0,2)] (nv b) rfl y e (fun p hp=>by obtain rfl:=sA.1 hp;exact J) (rz 1 37 (fY a oM oM _ _ e.g) rfl y ?_));rintro _ _ _ u12 y ⟨j,rfl,L,U,bl⟩;obtain ⟨_,e,-,-⟩:=e.take u12 L U;replace e:=e.to [⟨j,43,(wds a).flatMap ao⟩,⟨D,45,[uV 0,eS]⟩,⟨F,45,nc b⟩,⟨C,45,nc a⟩] [];refine rz 3 39 (fY b oM oM _ _ e.g) rfl y ?_;rintro _ _ _ u16 y ⟨u,rfl,X,O,bt⟩;obtain ⟨zn,e,-,-⟩:=e.take u16 X O;replace e:=e.to [⟨u,43,(wds b).flatMap ao⟩,⟨j,43,(wds a).flatMap ao⟩,⟨D,45,[uV 0,eS]⟩,⟨F,45,nc b⟩,⟨C,45,nc a⟩] [];refine zV 4 7 (qS (sB j) ((wds a).length) ((wds a).length)) (zV 5 8 (qS (sB u) ((wds b).length) ((wds b).length)) (tN (cQ (aa e [.c,.v (nV ((wds a).length)),.c,.v (nV ((wds b).length))] ?_))));have ⟨zk,bb⟩:=dF (p:=(((wds a).length:Nat):Int)<(((wds b).length:Nat):Int)) oM;refine lB 44 zk (ag (cK (aa e ac (ah (aa e [.c,.v (nV ((wds a).length)),.c] (aZ ?_))))));refine bH _ (CG.loop (fun μ_ Γ w_=>∃ (i:Nat)(l:List Nat)(x:Nat)(h_:Hp),μ_=(wds a).length-i/\Γ=[(4,pB D),(7,qS (sB j) ((wds a).length) ((wds a).length)),(8,qS (sB u) ((wds b).length) ((wds b).length)),(48,nV ((wds a).length)),(49,nV i),(9,mV x)]/\SS w h w_ h_ [⟨u,43,(wds b).flatMap ao⟩,⟨j,43,(l).flatMap ao⟩,⟨D,45,[uV 0,eS]⟩,⟨F,45,nc b⟩,⟨C,45,nc a⟩] [] []/\i<=(wds a).length/\l.length=(wds a).length/\Wd l/\x<=1/\ai 18446744073709551616 l+18446744073709551616^i*x=a+ai 18446744073709551616 ((wds b:List Nat).take i)) _ ⟨0,wds a,0,zn,rfl,rfl,e.to _ _,Mv _,rfl,Wd.wds _,oM,(by have hx_:ai 18446744073709551616 (wds a)=a:=ay _;rw[hx_];simp[ai])⟩ ?_);rintro _ _ _ ⟨i,l,x,zj,bk,rfl,e,hi,W,V,hcy,inv⟩;have hlk:=V.get i;have hyk:=(Wd.wds b).get i;refine aD ?_;cases Z:(decide ((i:Int)<(((wds a).length:Nat):Int)))
 .
  have zf:=oF Z;refine lB 50 Z (ah (dC (CG.exit ?_)))
  show CG _ _ _ _ _ _ _ _
  refine cQ (aD ?_);have I:=inv;rw[LO (show (wds b).length<=i by first|omega|(simp;done)|(simp;omega))] at I
  rw[show i=l.length by omega] at I
  have hE_:ai 18446744073709551616 (wds b)=b:=ay _;replace I:ai 18446744073709551616 l+18446744073709551616^l.length*x=(a+b):=by rw[I,hE_];first|done|omega
  refine lL e ac ?_;cases Y:((x:Int) != (0:Int))
  .
   have zg:=aW Y;refine lB 75 Y (ag (cK (aD ?_)));obtain ⟨_,e,M,bm,bq⟩:=e.pub 1;replace e:=(e.to [⟨u,43,(wds b).flatMap ao⟩,⟨D,45,[uV 0,eS]⟩,⟨F,45,nc b⟩,⟨C,45,nc a⟩] []).aS (SlO.of_flat (sz:=1) (f:=ao) (d:=0) (b:=j) (o:=0) (l:=l) (fun _=>rfl) M);exact lL e ac (aq 81 e (dH (sB j) ((wds a).length) (l) ((wds a).length) ((a+b)) (by first|rfl|assumption|(simp;done)|(simp;omega)|omega) (V) (by rw[show x=0 by omega,Ls,yh] at I;exact I) sM sM _ _ e.g e.f.1) (fun _ _ e=>lP 1 0 (nc (a+b)) e (fun _ e=>ae e [(1,0,2)] (nv (a+b)) rfl)))
  have zg:=aK Y;refine lB 75 Y (ak (kQ (lL e ax (lR 78 43 1 ([mV x]) e (fun zo _ _ e=>JW 79 1 ((wds a).length) zo l ao 0 x 8 (uV 0) e e.f.1 oM oM (fun zp zq _ _ e bf=>?_))))));replace e:=e.to [⟨u,43,(wds b).flatMap ao⟩,⟨D,45,[uV 0,eS]⟩,⟨F,45,nc b⟩,⟨C,45,nc a⟩] [];exact lL e ac (aG (lL e ac (aq 81 e (dH zp zq (l++[x]) ((wds a).length+1) ((a+b)) (by first|rfl|assumption|(simp;done)|(simp;omega)|omega) (Dg.append V (Dg.one oM)) (by show ai _ (l++[x])=_;rw[cO];show _+_*(x+_*0)=_;rw[Ls,yh];exact I) sM sM _ _ e.g e.f.1) (fun _ _ e=>lP 1 0 (nc (a+b)) e (fun _ e=>ae e [(1,0,2)] (nv (a+b)) rfl)))))
 have zf:=oT Z;refine lB 50 Z (ah (cn (cK (cQ (kZ (aa e ax (aG (lL e ac (ah (aa e [.c,.c,.v (nV ((wds b).length))] ?_))))))))));cases zc:(decide ((i:Int)<(((wds b).length:Nat):Int)))
 .
  have zi:=oF zc;refine lB 55 zc (ag (cK (kQ (lL e m4 (lX 65 (sB j) ((wds a).length) ((wds a).length) 1 (i:Nat) i rfl ?_)))));refine lQ 66 1 l ao 1 0 i (mV ((l).getD i 0)) e oM (lL e ax ?_);obtain ⟨B,zd,b5,bn,bz,S⟩:=fa ((l).getD i 0) 0 x wM wM oM;refine lV 69 (.tuple #[mV B,mV zd]) ?_ (hr:=eg kR (S _));refine lL e [.c,.v (mV B),.v (mV zd)] (lX 72 (sB j) ((wds a).length) ((wds a).length) 1 (i:Nat) i rfl ?_);refine lW 1 l ao 1 i B e oM (fun _ e=>?_);have zl:((l).set i B).length=(wds a).length:=by rw[Md];exact W
  replace e:=e.to [⟨u,43,(wds b).flatMap ao⟩,⟨j,43,((l).set i B).flatMap ao⟩,⟨D,45,[uV 0,eS]⟩,⟨F,45,nc b⟩,⟨C,45,nc a⟩] [];refine lL e ac (lN (kQ (bv 73 ((i:Nat)+1) (i+1) ?_)));refine lL e ac (lD ?_);intro a_ ka;refine ⟨_,_,?_,⟨i+1,(l).set i B,zd,zj,rfl,rfl,e.to _ _,oM,zl,(V.set _ oM),oM,(gQ oM inv (by first|omega|(have hy0:=ck (l:=(wds b:List Nat)) (k:=i) (by first|omega|(simp;done));omega)))⟩,ka.to _ kR⟩
  omega
 have zi:=oT zc;refine lB 55 zc (ak (kQ (lL e ax (lX 58 (sB u) ((wds b).length) ((wds b).length) 1 (i:Nat) i rfl ?_))));refine lQ 59 0 (wds b) ao 1 0 i (mV ((wds b).getD i 0)) e oM (lL e ac (lN (kQ (lL e m4 (lX 65 (sB j) ((wds a).length) ((wds a).length) 1 (i:Nat) i rfl ?_)))));refine lQ 66 1 l ao 1 0 i (mV ((l).getD i 0)) e oM (lL e ax ?_);obtain ⟨z,ze,br,b0,b2,Q⟩:=fa ((l).getD i 0) ((wds b).getD i 0) x wM wM oM;refine lV 69 (.tuple #[mV z,mV ze]) ?_ (hr:=eg kR (Q _));refine lL e [.c,.v (mV z),.v (mV ze)] (lX 72 (sB j) ((wds a).length) ((wds a).length) 1 (i:Nat) i rfl ?_);refine lW 1 l ao 1 i z e oM (fun _ e=>?_);have zm:((l).set i z).length=(wds a).length:=by rw[Md];exact W
 replace e:=e.to [⟨u,43,(wds b).flatMap ao⟩,⟨j,43,((l).set i z).flatMap ao⟩,⟨D,45,[uV 0,eS]⟩,⟨F,45,nc b⟩,⟨C,45,nc a⟩] [];refine lL e ac (lN (kQ (bv 73 ((i:Nat)+1) (i+1) ?_)));refine lL e ac (lD ?_);intro a_ ka;refine ⟨_,_,?_,⟨i+1,(l).set i z,ze,zj,rfl,rfl,e.to _ _,oM,zm,(V.set _ oM),oM,(gQ oM inv (by first|omega|(have hy0:=ck (l:=(wds b:List Nat)) (k:=i) (by first|omega|(simp;done));omega)))⟩,ka.to _ kR⟩
 omega
theorem E1 (a b:Nat)(hla:(wds a).length<=1000000000)(hlb:(wds b).length<=1000000000)(ha0:0<a)(hbs:18446744073709551616<=b)(hlt:(wds a).length<(wds b).length)(w:World)(h:Hp)(g:G w h):CV 231 #[nv a,nv b] w h (nv (a+b)):=by
 have e:=sS g;refine go Tryz.func231 [(0,nv a),(1,nv b)] rfl (aD (lA 2 45 (nc a) e (fun D w2 h3 e=>lA 3 45 (nc b) e (fun C w5 h6 e=>lA 4 45 ([uV 0,eS]) e (fun F w8 h9 e=>?_)))));refine lN (CG.join (fun Γ w_=>∃  (h_:Hp),Γ=[(2,pB D),(3,pB C),(4,pB F)]/\SS w h w_ h_ [⟨F,45,[uV 0,eS]⟩,⟨C,45,nc b⟩,⟨D,45,nc a⟩] [] []) ?_ ?_)
 .
  refine aa e [.v (qP D 1),.o (.string (hi a)) 2 1 1] ?_;cases za:(kC (hi a) (⟨#[]⟩))
  .
   have zg:=ii za;refine lB 14 za (lL e ac (lG 16 ?_));refine lG 17 (lG 18 (lL e [.v qF] (ag (CG.skip ?_))));intro a_ H;exact ⟨_,⟨h9,rfl,e.to _ _⟩,H.to _ kR⟩
  have zg:=g7 za;refine lB 14 za (lL e [.c,.v (qP C 1),.o (.string (hi b)) 1 1 1] (lV 18 qF ?_ (hr:=rb kR (je (fG hbs)))));refine lL e [.v qF] (ag (CG.skip ?_));intro a_ H;exact ⟨_,⟨h9,rfl,e.to _ _⟩,H.to _ kR⟩
 rintro _ zp ⟨_,rfl,e⟩;refine cQ ?_;obtain ⟨L,hK_⟩:∃ L,L=zp.heap.size:=⟨_,rfl⟩;have bf:F<L:=by rw[hK_];exact fi e 0
 have K:C<L:=by rw[hK_];exact fi e 1
 have I:D<L:=by rw[hK_];exact fi e 2
 refine wn ⟨[],some (L,[])⟩ 0 mixed ?_;have b5:=e.g.size;replace e:=e.drew;have y:=MC hK_;refine zO 0 36 [(2,0,2)] (nv a) rfl y e (fun p hp=>by obtain rfl:=sA.1 hp;exact I) (zO 2 38 [(1,0,2)] (nv b) rfl y e (fun p hp=>by obtain rfl:=sA.1 hp;exact K) (rz 1 37 (fY a oM oM _ _ e.g) rfl y ?_));rintro _ _ _ u15 y ⟨u,rfl,M,S,bq⟩;obtain ⟨_,e,-,-⟩:=e.take u15 M S;replace e:=e.to [⟨u,43,(wds a).flatMap ao⟩,⟨F,45,[uV 0,eS]⟩,⟨C,45,nc b⟩,⟨D,45,nc a⟩] [];refine rz 3 39 (fY b oM oM _ _ e.g) rfl y ?_;rintro _ _ _ u19 y ⟨j,rfl,Y,O,bz⟩;obtain ⟨zq,e,-,-⟩:=e.take u19 Y O;replace e:=e.to [⟨j,43,(wds b).flatMap ao⟩,⟨u,43,(wds a).flatMap ao⟩,⟨F,45,[uV 0,eS]⟩,⟨C,45,nc b⟩,⟨D,45,nc a⟩] [];refine zV 4 7 (qS (sB u) ((wds a).length) ((wds a).length)) (zV 5 8 (qS (sB j) ((wds b).length) ((wds b).length)) (tN (cQ (aa e [.c,.v (nV ((wds a).length)),.c,.v (nV ((wds b).length))] ?_))));have ⟨zm,bd⟩:=dT (p:=(((wds a).length:Nat):Int)<(((wds b).length:Nat):Int)) oM;refine lB 44 zm (ak (kQ (lL e m4 (aG (lL e ac (ah (aa e [.c,.v (nV ((wds b).length)),.c] (aZ ?_))))))));refine bH _ (CG.loop (fun μ_ Γ w_=>∃ (i:Nat)(l:List Nat)(x:Nat)(h_:Hp),μ_=(wds b).length-i/\Γ=[(4,pB F),(7,qS (sB j) ((wds b).length) ((wds b).length)),(8,qS (sB u) ((wds a).length) ((wds a).length)),(48,nV ((wds b).length)),(49,nV i),(9,mV x)]/\SS w h w_ h_ [⟨j,43,(l).flatMap ao⟩,⟨u,43,(wds a).flatMap ao⟩,⟨F,45,[uV 0,eS]⟩,⟨C,45,nc b⟩,⟨D,45,nc a⟩] [] []/\i<=(wds b).length/\l.length=(wds b).length/\Wd l/\x<=1/\ai 18446744073709551616 l+18446744073709551616^i*x=b+ai 18446744073709551616 ((wds a:List Nat).take i)) _ ⟨0,wds b,0,zq,rfl,rfl,e.to _ _,Mv _,rfl,Wd.wds _,oM,(by have hx_:ai 18446744073709551616 (wds b)=b:=ay _;rw[hx_];simp[ai])⟩ ?_);rintro _ _ _ ⟨i,l,x,zl,bk,rfl,e,hi,X,V,hcy,inv⟩;have hlk:=V.get i;have hyk:=(Wd.wds a).get i;refine aD ?_;cases Z:(decide ((i:Int)<(((wds b).length:Nat):Int)))
 .
  have zi:=oF Z;refine lB 50 Z (ah (dC (CG.exit ?_)))
  show CG _ _ _ _ _ _ _ _
  refine cQ (aD ?_);have J:=inv;rw[LO (show (wds a).length<=i by first|omega|(simp;done)|(simp;omega))] at J
  rw[show i=l.length by omega] at J
  have hE_:ai 18446744073709551616 (wds a)=a:=ay _;replace J:ai 18446744073709551616 l+18446744073709551616^l.length*x=(a+b):=by rw[J,hE_];first|done|omega
  refine lL e ac ?_;cases zc:((x:Int) != (0:Int))
  .
   have zj:=aW zc;refine lB 75 zc (ag (cK (aD ?_)));obtain ⟨_,e,U,b2,bl⟩:=e.pub 0;replace e:=(e.to [⟨u,43,(wds a).flatMap ao⟩,⟨F,45,[uV 0,eS]⟩,⟨C,45,nc b⟩,⟨D,45,nc a⟩] []).aS (SlO.of_flat (sz:=1) (f:=ao) (d:=0) (b:=j) (o:=0) (l:=l) (fun _=>rfl) U);exact lL e ac (aq 81 e (dH (sB j) ((wds b).length) (l) ((wds b).length) ((a+b)) (by first|rfl|assumption|(simp;done)|(simp;omega)|omega) (V) (by rw[show x=0 by omega,Ls,yh] at J;exact J) sM sM _ _ e.g e.f.1) (fun _ _ e=>lP 1 0 (nc (a+b)) e (fun _ e=>ae e [(1,0,2)] (nv (a+b)) rfl)))
  have zj:=aK zc;refine lB 75 zc (ak (kQ (lL e ax (lR 78 43 1 ([mV x]) e (fun zr _ _ e=>JW 79 0 ((wds b).length) zr l ao 0 x 8 (uV 0) e e.f.1 oM oM (fun zs zt _ _ e bb=>?_))))));replace e:=e.to [⟨u,43,(wds a).flatMap ao⟩,⟨F,45,[uV 0,eS]⟩,⟨C,45,nc b⟩,⟨D,45,nc a⟩] [];exact lL e ac (aG (lL e ac (aq 81 e (dH zs zt (l++[x]) ((wds b).length+1) ((a+b)) (by first|rfl|assumption|(simp;done)|(simp;omega)|omega) (Dg.append V (Dg.one oM)) (by show ai _ (l++[x])=_;rw[cO];show _+_*(x+_*0)=_;rw[Ls,yh];exact J) sM sM _ _ e.g e.f.1) (fun _ _ e=>lP 1 0 (nc (a+b)) e (fun _ e=>ae e [(1,0,2)] (nv (a+b)) rfl)))))
 have zi:=oT Z;refine lB 50 Z (ah (cn (cK (cQ (kZ (aa e ax (aG (lL e ac (ah (aa e [.c,.c,.v (nV ((wds a).length))] ?_))))))))));cases zd:(decide ((i:Int)<(((wds a).length:Nat):Int)))
 .
  have zk:=oF zd;refine lB 55 zd (ag (cK (kQ (lL e m4 (lX 65 (sB j) ((wds b).length) ((wds b).length) 1 (i:Nat) i rfl ?_)))));refine lQ 66 0 l ao 1 0 i (mV ((l).getD i 0)) e oM (lL e ax ?_);obtain ⟨B,ze,b0,bn,bm,W⟩:=fa ((l).getD i 0) 0 x wM wM oM;refine lV 69 (.tuple #[mV B,mV ze]) ?_ (hr:=eg kR (W _));refine lL e [.c,.v (mV B),.v (mV ze)] (lX 72 (sB j) ((wds b).length) ((wds b).length) 1 (i:Nat) i rfl ?_);refine lW 0 l ao 1 i B e oM (fun _ e=>?_);have zn:((l).set i B).length=(wds b).length:=by rw[Md];exact X
  replace e:=e.to [⟨j,43,((l).set i B).flatMap ao⟩,⟨u,43,(wds a).flatMap ao⟩,⟨F,45,[uV 0,eS]⟩,⟨C,45,nc b⟩,⟨D,45,nc a⟩] [];refine lL e ac (lN (kQ (bv 73 ((i:Nat)+1) (i+1) ?_)));refine lL e ac (lD ?_);intro a_ H;refine ⟨_,_,?_,⟨i+1,(l).set i B,ze,zl,rfl,rfl,e.to _ _,oM,zn,(V.set _ oM),oM,(gQ oM inv (by first|omega|(have hy0:=ck (l:=(wds a:List Nat)) (k:=i) (by first|omega|(simp;done));omega)))⟩,H.to _ kR⟩
  omega
 have zk:=oT zd;refine lB 55 zd (ak (kQ (lL e ax (lX 58 (sB u) ((wds a).length) ((wds a).length) 1 (i:Nat) i rfl ?_))));refine lQ 59 1 (wds a) ao 1 0 i (mV ((wds a).getD i 0)) e oM (lL e ac (lN (kQ (lL e m4 (lX 65 (sB j) ((wds b).length) ((wds b).length) 1 (i:Nat) i rfl ?_)))));refine lQ 66 0 l ao 1 0 i (mV ((l).getD i 0)) e oM (lL e ax ?_);obtain ⟨z,zf,b3,br,bt,Q⟩:=fa ((l).getD i 0) ((wds a).getD i 0) x wM wM oM;refine lV 69 (.tuple #[mV z,mV zf]) ?_ (hr:=eg kR (Q _));refine lL e [.c,.v (mV z),.v (mV zf)] (lX 72 (sB j) ((wds b).length) ((wds b).length) 1 (i:Nat) i rfl ?_);refine lW 0 l ao 1 i z e oM (fun _ e=>?_);have zo:((l).set i z).length=(wds b).length:=by rw[Md];exact X
 replace e:=e.to [⟨j,43,((l).set i z).flatMap ao⟩,⟨u,43,(wds a).flatMap ao⟩,⟨F,45,[uV 0,eS]⟩,⟨C,45,nc b⟩,⟨D,45,nc a⟩] [];refine lL e ac (lN (kQ (bv 73 ((i:Nat)+1) (i+1) ?_)));refine lL e ac (lD ?_);intro a_ H;refine ⟨_,_,?_,⟨i+1,(l).set i z,zf,zl,rfl,rfl,e.to _ _,oM,zo,(V.set _ oM),oM,(gQ oM inv (by first|omega|(have hy0:=ck (l:=(wds a:List Nat)) (k:=i) (by first|omega|(simp;done));omega)))⟩,H.to _ kR⟩
 omega
theorem Gz (b:Nat)(hl:(wds b).length<=1000000000)(K:18446744073709551616<=b)(w:World)(h:Hp)(g:G w h):CV 231 #[nv 0,nv b] w h (nv (0+b)):=by
 have a:=sS g;have h2l:=de K;refine go Tryz.func231 [(0,nv 0),(1,nv b)] rfl (aD (lA 2 45 (nc 0) a (fun y w2 h3 a=>lA 3 45 (nc b) a (fun C w5 h6 a=>lA 4 45 ([uV 0,eS]) a (fun D w8 h9 a=>ah (aa a [.v (qP y 1),.o (.string (hi 0)) 2 1 1] (lV 14 qT ?_ (hr:=rb kR (j8 rfl)))))))));refine lL a [.c,.v (qP C 1),.o (.string (hi b)) 1 1 1] (lV 18 qF ?_ (hr:=rb kR (je (fG K))));refine lL a [.v qF] (ag (cK (cQ ?_)));obtain ⟨H,hK_⟩:∃ H,H=w8.heap.size:=⟨_,rfl⟩;have bd:D<H:=by rw[hK_];exact fi a 0
 have B:C<H:=by rw[hK_];exact fi a 1
 have F:y<H:=by rw[hK_];exact fi a 2
 refine wn ⟨[],some (H,[])⟩ 0 mixed ?_;have bt:=a.g.size;replace a:=a.drew;have u:=MC hK_;refine zO 0 36 [(2,0,2)] (nv 0) rfl u a (fun p hp=>by obtain rfl:=sA.1 hp;exact F) (zO 2 38 [(1,0,2)] (nv b) rfl u a (fun p hp=>by obtain rfl:=sA.1 hp;exact B) (rz 1 37 (kT _ _ a.g) rfl u ?_));rintro _ _ _ V u rfl;replace a:=a.step V;refine rz 3 39 (fY b oM oM _ _ a.g) rfl u ?_;rintro _ _ _ u15 u ⟨e,rfl,I,J,bm⟩;obtain ⟨zj,a,-,-⟩:=a.take u15 I J;replace a:=a.to [⟨e,43,(wds b).flatMap ao⟩,⟨D,45,[uV 0,eS]⟩,⟨C,45,nc b⟩,⟨y,45,nc 0⟩] [];refine zV 4 7 (sZ) (zV 5 8 (qS (sB e) ((wds b).length) ((wds b).length)) (tN (cQ (aa a [.c,.v (iV 0),.c,.v (nV ((wds b).length))] ?_))));have ⟨zf,U⟩:=dT (p:=(0:Int)<(((wds b).length:Nat):Int)) oM;refine lB 44 zf (ak (kQ (lL a m4 (aG (lL a ac (ah (aa a [.c,.v (nV ((wds b).length)),.c] (aZ ?_))))))));refine bH _ (CG.loop (fun W Γ w_=>∃ (i:Nat)(l:List Nat)(j:Nat)(h_:Hp),W=(wds b).length-i/\Γ=[(4,pB D),(7,qS (sB e) ((wds b).length) ((wds b).length)),(8,sZ),(48,nV ((wds b).length)),(49,nV i),(9,mV j)]/\SS w h w_ h_ [⟨e,43,(l).flatMap ao⟩,⟨D,45,[uV 0,eS]⟩,⟨C,45,nc b⟩,⟨y,45,nc 0⟩] [] []/\i<=(wds b).length/\l.length=(wds b).length/\Wd l/\j<=1/\ai 18446744073709551616 l+18446744073709551616^i*j=b+ai 18446744073709551616 (([]:List Nat).take i)) _ ⟨0,wds b,0,zj,rfl,rfl,a.to _ _,Mv _,rfl,Wd.wds _,oM,(by have Z:ai 18446744073709551616 (wds b)=b:=ay _;rw[Z];simp[ai])⟩ ?_);rintro _ _ _ ⟨i,l,j,zk,bf,rfl,a,hi,X,S,hcy,inv⟩;have hlk:=S.get i;have hyk:=Wd.get (l:=[]) Dg.nil i;refine aD ?_;cases O:(decide ((i:Int)<(((wds b).length:Nat):Int)))
 .
  have zd:=oF O;refine lB 50 O (ah (dC (CG.exit ?_)))
  show CG _ _ _ _ _ _ _ _
  refine cQ (aD ?_);have z:=inv;rw[LO (show ([]).length<=i by first|omega|(simp;done)|(simp;omega))] at z
  rw[show i=l.length by omega] at z
  have hE_:([]:List Nat)=[]:=rfl;replace z:ai 18446744073709551616 l+18446744073709551616^l.length*j=(0+b):=by rw[z];simp[ai]
  refine lL a ac ?_;cases Q:((j:Int) != (0:Int))
  .
   have ze:=aW Q;refine lB 75 Q (ag (cK (aD ?_)));obtain ⟨_,a,L,bl,bn⟩:=a.pub 0;replace a:=(a.to [⟨D,45,[uV 0,eS]⟩,⟨C,45,nc b⟩,⟨y,45,nc 0⟩] []).aS (SlO.of_flat (sz:=1) (f:=ao) (d:=0) (b:=e) (o:=0) (l:=l) (fun _=>rfl) L);exact lL a ac (aq 81 a (dH (sB e) ((wds b).length) (l) ((wds b).length) ((0+b)) (by first|rfl|assumption|(simp;done)|(simp;omega)|omega) (S) (by rw[show j=0 by omega,Ls,yh] at z;exact z) sM sM _ _ a.g a.f.1) (fun _ _ a=>lP 0 0 (nc (0+b)) a (fun _ a=>ae a [(0,0,2)] (nv (0+b)) rfl)))
  have ze:=aK Q;refine lB 75 Q (ak (kQ (lL a ax (lR 78 43 1 ([mV j]) a (fun zl _ _ a=>JW 79 0 ((wds b).length) zl l ao 0 j 8 (uV 0) a a.f.1 oM oM (fun zm zn _ _ a Y=>?_))))));replace a:=a.to [⟨D,45,[uV 0,eS]⟩,⟨C,45,nc b⟩,⟨y,45,nc 0⟩] [];exact lL a ac (aG (lL a ac (aq 81 a (dH zm zn (l++[j]) ((wds b).length+1) ((0+b)) (by first|rfl|assumption|(simp;done)|(simp;omega)|omega) (Dg.append S (Dg.one oM)) (by show ai _ (l++[j])=_;rw[cO];show _+_*(j+_*0)=_;rw[Ls,yh];exact z) sM sM _ _ a.g a.f.1) (fun _ _ a=>lP 0 0 (nc (0+b)) a (fun _ a=>ae a [(0,0,2)] (nv (0+b)) rfl)))))
 have zd:=oT O;refine lB 50 O (ah (cn (cK (cQ (kZ (aa a ax (aG (lL a ac (ah (aa a [.c,.c,.v (iV 0)] ?_))))))))));have ⟨zg,bb⟩:=dF (p:=(i:Int)<(0:Int)) oM;refine lB 55 zg (ag (cK (kQ (lL a m4 (lX 65 (sB e) ((wds b).length) ((wds b).length) 1 (i:Nat) i rfl ?_)))));refine lQ 66 0 l ao 1 0 i (mV ((l).getD i 0)) a oM (lL a ax ?_);obtain ⟨x,zc,br,bk,bq,M⟩:=fa ((l).getD i 0) 0 j wM wM oM;refine lV 69 (.tuple #[mV x,mV zc]) ?_ (hr:=eg kR (M _));refine lL a [.c,.v (mV x),.v (mV zc)] (lX 72 (sB e) ((wds b).length) ((wds b).length) 1 (i:Nat) i rfl ?_);refine lW 0 l ao 1 i x a oM (fun _ a=>?_);have zi:((l).set i x).length=(wds b).length:=by rw[Md];exact X
 replace a:=a.to [⟨e,43,((l).set i x).flatMap ao⟩,⟨D,45,[uV 0,eS]⟩,⟨C,45,nc b⟩,⟨y,45,nc 0⟩] [];refine lL a ac (lN (kQ (bv 73 ((i:Nat)+1) (i+1) ?_)));refine lL a ac (lD ?_);intro a_ ka;refine ⟨_,_,?_,⟨i+1,(l).set i x,zc,zk,rfl,rfl,a.to _ _,oM,zi,(S.set _ oM),oM,(gQ oM inv (by first|omega|(have hy0:=ck (l:=([]:List Nat)) (k:=i) (by first|omega|(simp;done));omega)))⟩,ka.to _ kR⟩
 omega
theorem GG (a:Nat)(hl:(wds a).length<=1000000000)(has:18446744073709551616<=a)(w:World)(h:Hp)(g:G w h):CV 231 #[nv a,nv 0] w h (nv (a+0)):=by
 have e:=sS g;have h2l:=de has;refine go Tryz.func231 [(0,nv a),(1,nv 0)] rfl (aD (lA 2 45 (nc a) e (fun z w2 h3 e=>lA 3 45 (nc 0) e (fun H w5 h6 e=>lA 4 45 ([uV 0,eS]) e (fun D w8 h9 e=>ah (aa e [.v (qP z 1),.o (.string (hi a)) 2 1 1] (lV 14 qF ?_ (hr:=rb kR (je (fG has))))))))));refine lL e ac (lG 16 ?_);refine lG 17 (lG 18 (lL e [.v qF] (ag (cK (cQ ?_)))));obtain ⟨I,hK_⟩:∃ I,I=w8.heap.size:=⟨_,rfl⟩;have bd:D<I:=by rw[hK_];exact fi e 0
 have C:H<I:=by rw[hK_];exact fi e 1
 have F:z<I:=by rw[hK_];exact fi e 2
 refine wn ⟨[],some (I,[])⟩ 0 mixed ?_;have bt:=e.g.size;replace e:=e.drew;have x:=MC hK_;refine zO 0 36 [(2,0,2)] (nv a) rfl x e (fun p hp=>by obtain rfl:=sA.1 hp;exact F) (zO 2 38 [(1,0,2)] (nv 0) rfl x e (fun p hp=>by obtain rfl:=sA.1 hp;exact C) (rz 1 37 (fY a oM oM _ _ e.g) rfl x ?_));rintro _ _ _ V x ⟨j,rfl,J,K,bm⟩;obtain ⟨_,e,-,-⟩:=e.take V J K;replace e:=e.to [⟨j,43,(wds a).flatMap ao⟩,⟨D,45,[uV 0,eS]⟩,⟨H,45,nc 0⟩,⟨z,45,nc a⟩] [];refine rz 3 39 (kT _ _ e.g) rfl x ?_;rintro _ _ zj u16 x rfl;replace e:=e.step u16;refine zV 4 7 (qS (sB j) ((wds a).length) ((wds a).length)) (zV 5 8 (sZ) (tN (cQ (aa e [.c,.v (nV ((wds a).length)),.c,.v (iV 0)] ?_))));have ⟨zf,U⟩:=dF (p:=(((wds a).length:Nat):Int)<(0:Int)) oM;refine lB 44 zf (ag (cK (aa e ac (ah (aa e [.c,.v (nV ((wds a).length)),.c] (aZ ?_))))));refine bH _ (CG.loop (fun W Γ w_=>∃ (i:Nat)(l:List Nat)(u:Nat)(h_:Hp),W=(wds a).length-i/\Γ=[(4,pB D),(7,qS (sB j) ((wds a).length) ((wds a).length)),(8,sZ),(48,nV ((wds a).length)),(49,nV i),(9,mV u)]/\SS w h w_ h_ [⟨j,43,(l).flatMap ao⟩,⟨D,45,[uV 0,eS]⟩,⟨H,45,nc 0⟩,⟨z,45,nc a⟩] [] []/\i<=(wds a).length/\l.length=(wds a).length/\Wd l/\u<=1/\ai 18446744073709551616 l+18446744073709551616^i*u=a+ai 18446744073709551616 (([]:List Nat).take i)) _ ⟨0,wds a,0,zj,rfl,rfl,e.to _ _,Mv _,rfl,Wd.wds _,oM,(by have Z:ai 18446744073709551616 (wds a)=a:=ay _;rw[Z];simp[ai])⟩ ?_);rintro _ _ _ ⟨i,l,u,zk,bf,rfl,e,hi,X,S,hcy,inv⟩;have hlk:=S.get i;have hyk:=Wd.get (l:=[]) Dg.nil i;refine aD ?_;cases O:(decide ((i:Int)<(((wds a).length:Nat):Int)))
 .
  have zd:=oF O;refine lB 50 O (ah (dC (CG.exit ?_)))
  show CG _ _ _ _ _ _ _ _
  refine cQ (aD ?_);have B:=inv;rw[LO (show ([]).length<=i by first|omega|(simp;done)|(simp;omega))] at B
  rw[show i=l.length by omega] at B
  have hE_:([]:List Nat)=[]:=rfl;replace B:ai 18446744073709551616 l+18446744073709551616^l.length*u=(a+0):=by rw[B];simp[ai]
  refine lL e ac ?_;cases Q:((u:Int) != (0:Int))
  .
   have ze:=aW Q;refine lB 75 Q (ag (cK (aD ?_)));obtain ⟨_,e,L,bl,bn⟩:=e.pub 0;replace e:=(e.to [⟨D,45,[uV 0,eS]⟩,⟨H,45,nc 0⟩,⟨z,45,nc a⟩] []).aS (SlO.of_flat (sz:=1) (f:=ao) (d:=0) (b:=j) (o:=0) (l:=l) (fun _=>rfl) L);exact lL e ac (aq 81 e (dH (sB j) ((wds a).length) (l) ((wds a).length) ((a+0)) (by first|rfl|assumption|(simp;done)|(simp;omega)|omega) (S) (by rw[show u=0 by omega,Ls,yh] at B;exact B) sM sM _ _ e.g e.f.1) (fun _ _ e=>lP 0 0 (nc (a+0)) e (fun _ e=>ae e [(0,0,2)] (nv (a+0)) rfl)))
  have ze:=aK Q;refine lB 75 Q (ak (kQ (lL e ax (lR 78 43 1 ([mV u]) e (fun zl _ _ e=>JW 79 0 ((wds a).length) zl l ao 0 u 8 (uV 0) e e.f.1 oM oM (fun zm zn _ _ e Y=>?_))))));replace e:=e.to [⟨D,45,[uV 0,eS]⟩,⟨H,45,nc 0⟩,⟨z,45,nc a⟩] [];exact lL e ac (aG (lL e ac (aq 81 e (dH zm zn (l++[u]) ((wds a).length+1) ((a+0)) (by first|rfl|assumption|(simp;done)|(simp;omega)|omega) (Dg.append S (Dg.one oM)) (by show ai _ (l++[u])=_;rw[cO];show _+_*(u+_*0)=_;rw[Ls,yh];exact B) sM sM _ _ e.g e.f.1) (fun _ _ e=>lP 0 0 (nc (a+0)) e (fun _ e=>ae e [(0,0,2)] (nv (a+0)) rfl)))))
 have zd:=oT O;refine lB 50 O (ah (cn (cK (cQ (kZ (aa e ax (aG (lL e ac (ah (aa e [.c,.c,.v (iV 0)] ?_))))))))));have ⟨zg,bb⟩:=dF (p:=(i:Int)<(0:Int)) oM;refine lB 55 zg (ag (cK (kQ (lL e m4 (lX 65 (sB j) ((wds a).length) ((wds a).length) 1 (i:Nat) i rfl ?_)))));refine lQ 66 0 l ao 1 0 i (mV ((l).getD i 0)) e oM (lL e ax ?_);obtain ⟨y,zc,br,bk,bq,M⟩:=fa ((l).getD i 0) 0 u wM wM oM;refine lV 69 (.tuple #[mV y,mV zc]) ?_ (hr:=eg kR (M _));refine lL e [.c,.v (mV y),.v (mV zc)] (lX 72 (sB j) ((wds a).length) ((wds a).length) 1 (i:Nat) i rfl ?_);refine lW 0 l ao 1 i y e oM (fun _ e=>?_);have zi:((l).set i y).length=(wds a).length:=by rw[Md];exact X
 replace e:=e.to [⟨j,43,((l).set i y).flatMap ao⟩,⟨D,45,[uV 0,eS]⟩,⟨H,45,nc 0⟩,⟨z,45,nc a⟩] [];refine lL e ac (lN (kQ (bv 73 ((i:Nat)+1) (i+1) ?_)));refine lL e ac (lD ?_);intro a_ ka;refine ⟨_,_,?_,⟨i+1,(l).set i y,zc,zk,rfl,rfl,e.to _ _,oM,zi,(S.set _ oM),oM,(gQ oM inv (by first|omega|(have hy0:=ck (l:=([]:List Nat)) (k:=i) (by first|omega|(simp;done));omega)))⟩,ka.to _ kR⟩
 omega
theorem IN (a b:Nat)(c:(wds a).length<=1000000000)(d:(wds b).length<=1000000000)(w:World)(h:Hp)(g:G w h):CV 231 #[nv a,nv b] w h (nv (a+b)):=by
 rcases cD a 18446744073709551616 with h1|h1
 ·rcases cD b 18446744073709551616 with h2|h2
  ·exact IR a b c d h1 h2 w h g
  ·rcases Aw a with h3|h3
   ·subst h3;exact Gz b d h2 w h g
   ·exact E1 a b c d h3 h2 (by have:=de h2;have:=(da (n:=a)).2 h1;omega) w h g
 ·rcases Aw b with h3|h3
  ·subst h3;exact GG a c h1 w h g
  ·rcases cD (wds a).length (wds b).length with h4|h4
   ·exact E1 a b c d oM (by have:=de h1;rcases cD b 18446744073709551616 with h5|h5;(have:=(da (n:=b)).2 h5;omega);exact h5) h4 w h g
   ·exact I5 a b c d h1 h3 h4 w h g
theorem pn {l:List Nat}{a b c:Nat}(f:Wd l)(inv:ai 18446744073709551616 l+b=a+18446744073709551616^l.length*c)(d:b<=a)(e:c<=1):aA l=a-b:=by
 have h1:=bL f
 have:c=0:=by
  rcases Aw c with h|h
  ·exact h
  ·have:c=1:=by omega
   subst this;rw[LL] at inv
   omega
 subst this;rw[Ls,yh] at inv
 show ai _ l=_
 omega
theorem DJ {a b q r:Nat}(h:a=b*q+r)(hr:r<b):q=a/b/\r=a%b:=by
 subst h;rw[Nat.mul_add_div oM,Hi hr,Nat.mul_add_mod,z2 hr];simp
theorem gx (n:Nat)(d:(wds n).length<=1000000000)(w:World)(h:Hp)(g:G w h):CR 163 #[nv n] w h (fun v h1=>∃ A c,v=.slice A (wds n).length c/\(wds n).length<=c/\SlO 1 ao 0 h1 A (wds n)):=by
 rcases Aw n with h0|h0
 ·subst h0
  refine (kT w h g).mono ?_;rintro _ w' ⟨_,a,rfl,u,rfl⟩;exact ⟨_,a,rfl,u,none,0,rfl,nR _,SlO.nil⟩
 ·refine (fY n h0 d w h g).mono ?_
  rintro _ w' ⟨_,a,rfl,u,b,rfl,_,_,e⟩;exact ⟨_,a,rfl,u,_,_,rfl,nR _,e⟩
theorem E9 (a b:Nat)(e:a<b)(d:(wds a).length<=1000000000)(i:(wds b).length<=1000000000)(w:World)(h:Hp)(g:G w h):CV 298 #[nv a,nv b] w h (.tuple #[nv 0,.bool false]):=by
 have c:=sS g;have j:=d9 e;refine go Tryz.func298 [(0,nv a),(1,nv b)] rfl (aD (lA 2 45 (nc a) c (fun x w2 y c=>lA 3 45 (nc b) c (fun B D u c=>lA 4 45 ([uV 0,eS]) c (fun C F z c=>lL c ac (ah (aa c [.o (nv a) 2 0 2,.o (nv b) 1 0 2] (aq 13 c (ml a b d i _ _ c.g) (fun _ _ c=>?_)))))))));have ⟨l,f⟩:=dT (p:=(bV a b:Int)<(0:Int)) oM;exact lB 14 l (ak (aa c [.v (.agg #[uV 0,eS])] (lP 0 0 ([uV 0,eS]) c (fun _ c=>lL c ac (ae c [(0,0,2)] (.tuple #[.agg #[uV 0,eS],qF]) rfl)))))
theorem JC (a b:Nat)(d:(wds a).length<=1000000000)(i:(wds b).length<=1000000000)(e:b<=a)(has:a<18446744073709551616)(w:World)(h:Hp)(g:G w h):CV 298 #[nv a,nv b] w h (.tuple #[nv (a-b),.bool true]):=by
 have c:=sS g;have l:=fM e;refine go Tryz.func298 [(0,nv a),(1,nv b)] rfl (aD (lA 2 45 (nc a) c (fun j w2 z c=>lA 3 45 (nc b) c (fun u D y c=>lA 4 45 ([uV 0,eS]) c (fun C F B c=>lL c ac (ah (aa c [.o (nv a) 2 0 2,.o (nv b) 1 0 2] (aq 13 c (ml a b d i _ _ c.g) (fun _ _ c=>?_)))))))));have ⟨x,f⟩:=dF (p:=(bV a b:Int)<(0:Int)) oM;refine lB 14 x (ag (cK (cQ (aa c [.v (qP j 1),.o (.string (hi a)) 2 1 1] (lV 18 qT ?_ (hr:=rb kR (j8 (ff has))))))));refine ak (aa c [.v (pB j),.o (mV (a%18446744073709551616)) 2 0 1,.v (pB u),.o (mV (b%18446744073709551616)) 1 0 1] (lV 23 (mV ((a%18446744073709551616)-(b%18446744073709551616))) ?_ (hr:=rU ((((a%18446744073709551616:Nat):Int)-((b%18446744073709551616:Nat):Int))) kR (fI (a%18446744073709551616) (b%18446744073709551616) oM oM))));exact lL c [.v (.agg #[mV ((a%18446744073709551616)-(b%18446744073709551616)),eS])] (lP 0 0 ([mV ((a%18446744073709551616)-(b%18446744073709551616)),eS]) c (fun _ c=>lL c ac (ae c [(0,0,2)] (.tuple #[.agg #[mV ((a%18446744073709551616)-(b%18446744073709551616)),eS],qT]) (by rw[z2 has,z2 (show b<18446744073709551616 by omega),jw oM]))))
theorem ID (a b:Nat)(hla:(wds a).length<=1000000000)(hlb:(wds b).length<=1000000000)(V:b<=a)(has:18446744073709551616<=a)(hb0:0<b)(w:World)(h:Hp)(g:G w h):CV 298 #[nv a,nv b] w h (.tuple #[nv (a-b),.bool true]):=by
 have e:=sS g;have hcl:=fM V;have hlm:=dg V;refine go Tryz.func298 [(0,nv a),(1,nv b)] rfl (aD (lA 2 45 (nc a) e (fun B w2 h3 e=>lA 3 45 (nc b) e (fun D w5 h6 e=>lA 4 45 ([uV 0,eS]) e (fun C w8 h9 e=>lL e ac (ah (aa e [.o (nv a) 2 0 2,.o (nv b) 1 0 2] (aq 13 e (ml a b hla hlb _ _ e.g) (fun zl _ e=>?_)))))))));have ⟨zi,bb⟩:=dF (p:=(bV a b:Int)<(0:Int)) oM;refine lB 14 zi (ag (cK (cQ (aa e [.v (qP B 1),.o (.string (hi a)) 2 1 1] (lV 18 qF ?_ (hr:=rb kR (je (fG has))))))));refine ag (cK (cQ ?_));obtain ⟨J,hK_⟩:∃ J,J=zl.heap.size:=⟨_,rfl⟩;have bd:C<J:=by rw[hK_];exact fi e 0
 have H:D<J:=by rw[hK_];exact fi e 1
 have F:B<J:=by rw[hK_];exact fi e 2
 refine wn ⟨[],some (J,[])⟩ 0 mixed ?_;have b3:=e.g.size;replace e:=e.drew;have x:=MC hK_;refine zO 0 25 [(2,0,2)] (nv a) rfl x e (fun p hp=>by obtain rfl:=sA.1 hp;exact F) (zO 2 27 [(1,0,2)] (nv b) rfl x e (fun p hp=>by obtain rfl:=sA.1 hp;exact H) (rz 1 26 (fY a oM oM _ _ e.g) rfl x ?_));rintro _ _ _ u15 x ⟨j,rfl,K,O,bk⟩;obtain ⟨_,e,-,-⟩:=e.take u15 K O;replace e:=e.to [⟨j,43,(wds a).flatMap ao⟩,⟨C,45,[uV 0,eS]⟩,⟨D,45,nc b⟩,⟨B,45,nc a⟩] [];refine rz 3 28 (fY b oM oM _ _ e.g) rfl x ?_;rintro _ _ _ u19 x ⟨u,rfl,X,M,bt⟩;obtain ⟨zm,e,-,-⟩:=e.take u19 X M;replace e:=e.to [⟨u,43,(wds b).flatMap ao⟩,⟨j,43,(wds a).flatMap ao⟩,⟨C,45,[uV 0,eS]⟩,⟨D,45,nc b⟩,⟨B,45,nc a⟩] [];refine zV 4 6 (qS (sB j) ((wds a).length) ((wds a).length)) (zV 5 7 (qS (sB u) ((wds b).length) ((wds b).length)) (rW (lL e ac (ah (aa e [.c,.v (nV ((wds a).length)),.c] (aZ ?_))))));refine bH _ (CG.loop (fun μ_ Γ w_=>∃ (i:Nat)(l:List Nat)(I:Nat)(h_:Hp),μ_=(wds a).length-i/\Γ=[(4,pB C),(5,qF),(6,qS (sB j) ((wds a).length) ((wds a).length)),(7,qS (sB u) ((wds b).length) ((wds b).length)),(30,nV ((wds a).length)),(31,nV i),(8,mV I)]/\SS w h w_ h_ [⟨u,43,(wds b).flatMap ao⟩,⟨j,43,(l).flatMap ao⟩,⟨C,45,[uV 0,eS]⟩,⟨D,45,nc b⟩,⟨B,45,nc a⟩] [] []/\i<=(wds a).length/\l.length=(wds a).length/\Wd l/\I<=1/\ai 18446744073709551616 l+ai 18446744073709551616 ((wds b:List Nat).take i)=a+18446744073709551616^i*I) _ ⟨0,wds a,0,zm,rfl,rfl,e.to _ _,Mv _,rfl,Wd.wds _,oM,(by have hx_:ai 18446744073709551616 (wds a)=a:=ay _;rw[hx_];simp[ai])⟩ ?_);rintro _ _ _ ⟨i,l,I,zg,bn,rfl,e,hi,U,Q,hbo,inv⟩;have hlk:=Q.get i;have hyk:=(Wd.wds b).get i;refine aD ?_;cases Z:(decide ((i:Int)<(((wds a).length:Nat):Int)))
 .
  have ze:=oF Z;refine lB 32 Z (ah (dC (CG.exit ?_)))
  show CG _ _ _ _ _ _ _ _
  refine aD ?_;rw[LO (show (wds b).length<=i by first|omega|(simp;done)|(simp;omega)),show i=l.length by omega] at inv
  have hE:aA l=a-b:=pn Q (by have hb_:ai 18446744073709551616 (wds b)=b:=ay b;rw[<-hb_];exact inv) oM hbo;obtain ⟨_,e,S,br,b2⟩:=e.pub 1;replace e:=(e.to [⟨u,43,(wds b).flatMap ao⟩,⟨C,45,[uV 0,eS]⟩,⟨D,45,nc b⟩,⟨B,45,nc a⟩] []).aS (SlO.of_flat (sz:=1) (f:=ao) (d:=0) (b:=j) (o:=0) (l:=l) (fun _=>rfl) S);exact lL e ac (aq 57 e (dH (sB j) ((wds a).length) (l) ((wds a).length) ((a-b)) (by first|rfl|assumption|(simp;done)|(simp;omega)|omega) (Q) (hE) sM sM _ _ e.g e.f.1) (fun _ _ e=>lP 1 0 (nc (a-b)) e (fun _ e=>lL e ac (ae e [(1,0,2)] (.tuple #[nv (a-b),qT]) rfl))))
 have ze:=oT Z;refine lB 32 Z (ah (cn (cK (cQ (kZ (aa e ax (aG (lL e ac (ah (aa e [.c,.c,.v (nV ((wds b).length))] ?_))))))))));cases Y:(decide ((i:Int)<(((wds b).length:Nat):Int)))
 .
  have zf:=oF Y;refine lB 37 Y (ag (cK (kQ (lL e m4 (lX 47 (sB j) ((wds a).length) ((wds a).length) 1 (i:Nat) i rfl ?_)))));refine lQ 48 1 l ao 1 0 i (mV ((l).getD i 0)) e oM (lL e ax ?_);obtain ⟨y,zc,bl,bq,bz,L⟩:=jA ((l).getD i 0) 0 I wM wM oM;refine lV 51 (.tuple #[mV y,mV zc]) ?_ (hr:=eg kR (L _));refine lL e [.c,.v (mV y),.v (mV zc)] (lX 54 (sB j) ((wds a).length) ((wds a).length) 1 (i:Nat) i rfl ?_);refine lW 1 l ao 1 i y e oM (fun _ e=>?_);have zj:((l).set i y).length=(wds a).length:=by rw[Md];exact U
  replace e:=e.to [⟨u,43,(wds b).flatMap ao⟩,⟨j,43,((l).set i y).flatMap ao⟩,⟨C,45,[uV 0,eS]⟩,⟨D,45,nc b⟩,⟨B,45,nc a⟩] [];refine lL e ac (lN (kQ (bv 55 ((i:Nat)+1) (i+1) ?_)));refine lL e ac (lD ?_);intro a_ ka;refine ⟨_,_,?_,⟨i+1,(l).set i y,zc,zg,rfl,rfl,e.to _ _,oM,zj,(Q.set _ oM),oM,(iE oM inv (by first|omega|(have hy0:=ck (l:=(wds b:List Nat)) (k:=i) (by first|omega|(simp;done));omega)))⟩,ka.to _ kR⟩
  omega
 have zf:=oT Y;refine lB 37 Y (ak (kQ (lL e ax (lX 40 (sB u) ((wds b).length) ((wds b).length) 1 (i:Nat) i rfl ?_))));refine lQ 41 0 (wds b) ao 1 0 i (mV ((wds b).getD i 0)) e oM (lL e ac (lN (kQ (lL e m4 (lX 47 (sB j) ((wds a).length) ((wds a).length) 1 (i:Nat) i rfl ?_)))));refine lQ 48 1 l ao 1 0 i (mV ((l).getD i 0)) e oM (lL e ax ?_);obtain ⟨z,zd,b0,bm,bf,W⟩:=jA ((l).getD i 0) ((wds b).getD i 0) I wM wM oM;refine lV 51 (.tuple #[mV z,mV zd]) ?_ (hr:=eg kR (W _));refine lL e [.c,.v (mV z),.v (mV zd)] (lX 54 (sB j) ((wds a).length) ((wds a).length) 1 (i:Nat) i rfl ?_);refine lW 1 l ao 1 i z e oM (fun _ e=>?_);have zk:((l).set i z).length=(wds a).length:=by rw[Md];exact U
 replace e:=e.to [⟨u,43,(wds b).flatMap ao⟩,⟨j,43,((l).set i z).flatMap ao⟩,⟨C,45,[uV 0,eS]⟩,⟨D,45,nc b⟩,⟨B,45,nc a⟩] [];refine lL e ac (lN (kQ (bv 55 ((i:Nat)+1) (i+1) ?_)));refine lL e ac (lD ?_);intro a_ ka;refine ⟨_,_,?_,⟨i+1,(l).set i z,zd,zg,rfl,rfl,e.to _ _,oM,zk,(Q.set _ oM),oM,(iE oM inv (by first|omega|(have hy0:=ck (l:=(wds b:List Nat)) (k:=i) (by first|omega|(simp;done));omega)))⟩,ka.to _ kR⟩
 omega
theorem JL (a:Nat)(Q:(wds a).length<=1000000000)(has:18446744073709551616<=a)(w:World)(h:Hp)(g:G w h):CV 298 #[nv a,nv 0] w h (.tuple #[nv a,.bool true]):=by
 have e:=sS g;have hcl:=fM (show 0<=a by omega);refine go Tryz.func298 [(0,nv a),(1,nv 0)] rfl (aD (lA 2 45 (nc a) e (fun B w2 h3 e=>lA 3 45 (nc 0) e (fun L w5 h6 e=>lA 4 45 ([uV 0,eS]) e (fun C w8 h9 e=>lL e ac (ah (aa e [.o (nv a) 2 0 2,.o (nv 0) 1 0 2] (aq 13 e (ml a 0 Q (by simp[ng]) _ _ e.g) (fun zg _ e=>?_)))))))));have ⟨zd,Y⟩:=dF (p:=(bV a 0:Int)<(0:Int)) oM;refine lB 14 zd (ag (cK (cQ (aa e [.v (qP B 1),.o (.string (hi a)) 2 1 1] (lV 18 qF ?_ (hr:=rb kR (je (fG has))))))));refine ag (cK (cQ ?_));obtain ⟨D,hK_⟩:∃ D,D=zg.heap.size:=⟨_,rfl⟩;have bb:C<D:=by rw[hK_];exact fi e 0
 have y:L<D:=by rw[hK_];exact fi e 1
 have z:B<D:=by rw[hK_];exact fi e 2
 refine wn ⟨[],some (D,[])⟩ 0 mixed ?_;have bq:=e.g.size;replace e:=e.drew;have x:=MC hK_;refine zO 0 25 [(2,0,2)] (nv a) rfl x e (fun p hp=>by obtain rfl:=sA.1 hp;exact z) (zO 2 27 [(1,0,2)] (nv 0) rfl x e (fun p hp=>by obtain rfl:=sA.1 hp;exact y) (rz 1 26 (fY a oM oM _ _ e.g) rfl x ?_));rintro _ _ _ X x ⟨j,rfl,F,K,bn⟩;obtain ⟨_,e,-,-⟩:=e.take X F K;replace e:=e.to [⟨j,43,(wds a).flatMap ao⟩,⟨C,45,[uV 0,eS]⟩,⟨L,45,nc 0⟩,⟨B,45,nc a⟩] [];refine rz 3 28 (kT _ _ e.g) rfl x ?_;rintro _ _ zi u19 x rfl;replace e:=e.step u19;refine zV 4 6 (qS (sB j) ((wds a).length) ((wds a).length)) (zV 5 7 (sZ) (rW (lL e ac (ah (aa e [.c,.v (nV ((wds a).length)),.c] (aZ ?_))))));refine bH _ (CG.loop (fun U Γ w_=>∃ (i:Nat)(l:List Nat)(J:Nat)(h_:Hp),U=(wds a).length-i/\Γ=[(4,pB C),(5,qF),(6,qS (sB j) ((wds a).length) ((wds a).length)),(7,sZ),(30,nV ((wds a).length)),(31,nV i),(8,mV J)]/\SS w h w_ h_ [⟨j,43,(l).flatMap ao⟩,⟨C,45,[uV 0,eS]⟩,⟨L,45,nc 0⟩,⟨B,45,nc a⟩] [] []/\i<=(wds a).length/\l.length=(wds a).length/\Wd l/\J<=1/\ai 18446744073709551616 l+ai 18446744073709551616 (([]:List Nat).take i)=a+18446744073709551616^i*J) _ ⟨0,wds a,0,zi,rfl,rfl,e.to _ _,Mv _,rfl,Wd.wds _,oM,(by have W:ai 18446744073709551616 (wds a)=a:=ay _;rw[W];simp[ai])⟩ ?_);rintro _ _ _ ⟨i,l,J,zj,bk,rfl,e,hi,V,O,hbo,inv⟩;have hlk:=O.get i;have hyk:=Wd.get (l:=[]) Dg.nil i;refine aD ?_;cases M:(decide ((i:Int)<(((wds a).length:Nat):Int)))
 .
  have zc:=oF M;refine lB 32 M (ah (dC (CG.exit ?_)))
  show CG _ _ _ _ _ _ _ _
  refine aD ?_;rw[List.take_nil,show i=l.length by omega] at inv
  have hE:aA l=a:=pn (b:=0) O inv oM hbo;obtain ⟨_,e,H,br,bd⟩:=e.pub 0;replace e:=(e.to [⟨C,45,[uV 0,eS]⟩,⟨L,45,nc 0⟩,⟨B,45,nc a⟩] []).aS (SlO.of_flat (sz:=1) (f:=ao) (d:=0) (b:=j) (o:=0) (l:=l) (fun _=>rfl) H);exact lL e ac (aq 57 e (dH (sB j) ((wds a).length) (l) ((wds a).length) (a) (by first|rfl|assumption|(simp;done)|(simp;omega)|omega) (O) (hE) sM sM _ _ e.g e.f.1) (fun _ _ e=>lP 0 0 (nc a) e (fun _ e=>lL e ac (ae e [(0,0,2)] (.tuple #[nv a,qT]) rfl))))
 have zc:=oT M;refine lB 32 M (ah (cn (cK (cQ (kZ (aa e ax (aG (lL e ac (ah (aa e [.c,.c,.v (iV 0)] ?_))))))))));have ⟨ze,S⟩:=dF (p:=(i:Int)<(0:Int)) oM;refine lB 37 ze (ag (cK (kQ (lL e m4 (lX 47 (sB j) ((wds a).length) ((wds a).length) 1 (i:Nat) i rfl ?_)))));refine lQ 48 0 l ao 1 0 i (mV ((l).getD i 0)) e oM (lL e ax ?_);obtain ⟨u,Z,bf,bl,bm,I⟩:=jA ((l).getD i 0) 0 J wM wM oM;refine lV 51 (.tuple #[mV u,mV Z]) ?_ (hr:=eg kR (I _));refine lL e [.c,.v (mV u),.v (mV Z)] (lX 54 (sB j) ((wds a).length) ((wds a).length) 1 (i:Nat) i rfl ?_);refine lW 0 l ao 1 i u e oM (fun _ e=>?_);have zf:((l).set i u).length=(wds a).length:=by rw[Md];exact V
 replace e:=e.to [⟨j,43,((l).set i u).flatMap ao⟩,⟨C,45,[uV 0,eS]⟩,⟨L,45,nc 0⟩,⟨B,45,nc a⟩] [];refine lL e ac (lN (kQ (bv 55 ((i:Nat)+1) (i+1) ?_)));refine lL e ac (lD ?_);intro a_ ka;refine ⟨_,_,?_,⟨i+1,(l).set i u,Z,zj,rfl,rfl,e.to _ _,oM,zf,(O.set _ oM),oM,(iE oM inv (by first|omega|(have hy0:=ck (l:=([]:List Nat)) (k:=i) (by first|omega|(simp;done));omega)))⟩,ka.to _ kR⟩
 omega
theorem Ep (a b:Nat)(d:b<=a)(c:(wds a).length<=1000000000)(e:(wds b).length<=1000000000)(w:World)(h:Hp)(g:G w h):CV 298 #[nv a,nv b] w h (.tuple #[nv (a-b),.bool true]):=by
 rcases cD a 18446744073709551616 with h1|h1
 ·exact JC a b c e d h1 w h g
 ·rcases Aw b with h3|h3
  ·subst h3;exact JL a c h1 w h g
  ·exact ID a b c e d h1 h3 w h g
theorem IK (a b:Nat)(J:(wds a).length<=1000000000)(L:(wds b).length<=1000000000)(has:a<18446744073709551616)(u:b<18446744073709551616)(w:World)(h:Hp)(g:G w h):CV 200 #[nv a,nv b] w h (nv (a*b)):=by
 have e:=sS g;have B:=z2 has;have z:=z2 u;refine go Tryz.func200 [(0,nv a),(1,nv b)] rfl (aD (lA 2 45 (nc a) e (fun C w2 Q e=>lA 3 45 (nc b) e (fun H V O e=>lA 4 45 ([uV 0,eS]) e (fun U W S e=>ah (aa e [.v (qP C 1),.o (.string (hi a)) 2 1 1] (lV 9 qT ?_ (hr:=rb kR (j8 (ff has))))))))));refine lL e [.c,.v (qP H 1),.o (.string (hi b)) 1 1 1] (lV 13 qT ?_ (hr:=rb kR (j8 (ff u))));refine lL e [.v qT] (ak (aa e [.v (pB C),.o (mV (a%18446744073709551616)) 2 0 1,.v (pB H),.o (mV (b%18446744073709551616)) 1 0 1] (lC 20 e (oP (a%18446744073709551616) (b%18446744073709551616) wM wM _ _ e.g) ?_)));rintro _ _ _ e ⟨i,j,rfl,p,D,F,I⟩;have x:=jI (a:=(a%18446744073709551616)) (b:=(b%18446744073709551616)) wM wM;refine lL e [.c,.v (mV i),.v (mV j),.c,.c] (ah (aD ?_));rw[B,z] at p
 refine lL e ac ?_;cases y:((i:Int) == (0:Int))
 .
  have K:=aj y;refine lB 24 y (ag (cK (aa e ax (lR 29 43 2 ([mV j,mV i]) e (fun M _ _ e=>?_)))));replace e:=e.aS (SlO.of_flat (sz:=1) (f:=ao) (d:=0) (l:=[j,i]) (fun _=>rfl) e.f.1);exact aq 30 e (dH (sB M) 2 ([j,i]) 2 ((a*b)) (by first|rfl|assumption|(simp;done)|(simp;omega)|omega) (Dg.cons oM (Dg.one oM)) (by show j+18446744073709551616*(i+18446744073709551616*0)=a*b;omega) sM sM _ _ e.g e.f.1) (fun _ _ e=>lP 0 0 (nc (a*b)) e (fun _ e=>ae e [(0,0,2)] (nv (a*b)) rfl))
 have K:=eq_of_beq y;exact lB 24 y (ak (aa e [.c,.v (.agg #[mV j,eS])] (lP 0 0 ([mV j,eS]) e (fun _ e=>ae e [(0,0,2)] (.agg #[mV j,eS]) (by rw[show j=a*b by omega];exact jw oM)))))
theorem I3 (a b:Nat)(D:(wds a).length<=1000000000)(L:(wds b).length<=1000000000)(has:18446744073709551616<=a)(w:World)(h:Hp)(g:G w h):CV 200 #[nv a,nv b] w h (nv (a*b)):=by
 have c:=sS g;refine go Tryz.func200 [(0,nv a),(1,nv b)] rfl (aD (lA 2 45 (nc a) c (fun C w2 O c=>lA 3 45 (nc b) c (fun S V M c=>lA 4 45 ([uV 0,eS]) c (fun U W Q c=>ah (aa c [.v (qP C 1),.o (.string (hi a)) 2 1 1] (lV 9 qF ?_ (hr:=rb kR (je (fG has))))))))));refine lL c ac (lG 11 ?_);refine lG 12 (lG 13 (lL c [.v qF] (ag (cK (cQ (cR 6 [] mixed c ar ?_))))));refine eO 0 31 [(2,0,2)] (nv a) c (eO 2 33 [(1,0,2)] (nv b) c (eC 1 32 c (fun _ _ c=>gx a oM _ _ c.g) ?_));rintro _ _ _ _ _ c ⟨u,p,rfl,y,i⟩;replace c:=c.aS i;refine eC 3 34 c (fun _ _ c=>gx b oM _ _ c.g) ?_;rintro _ _ _ _ _ c ⟨d,x,rfl,B,j⟩;replace c:=c.aS j;refine eC 4 35 c (fun _ _ c=>Fh u p (wds a) d x (wds b) (Wd.wds a) (Wd.wds b) oM oM _ _ c.g c.f.2.1 c.f.1) ?_;rintro _ _ _ _ _ c ⟨H,F,z,rfl,I,J,e,l,K⟩;replace c:=c.aS K;exact au 5 36 c (fun _ _ c=>dH H F (z) z.length ((a*b)) (by first|rfl|assumption|(simp;done)|(simp;omega)|omega) (e) (l.trans (by rw[ay,ay])) sM sM _ _ c.g c.f.1) (fun _ _ c=>bS c (fun _ _ c=>tP 6 0 0 (nc (a*b)) c (fun _ c=>tN (kX (c.ret [(0,0,2)] (nv (a*b)) rfl)))))
theorem Ja (a b:Nat)(H:(wds a).length<=1000000000)(Q:(wds b).length<=1000000000)(has:a<18446744073709551616)(x:18446744073709551616<=b)(w:World)(h:Hp)(g:G w h):CV 200 #[nv a,nv b] w h (nv (a*b)):=by
 have d:=sS g;refine go Tryz.func200 [(0,nv a),(1,nv b)] rfl (aD (lA 2 45 (nc a) d (fun F w2 U d=>lA 3 45 (nc b) d (fun K X S d=>lA 4 45 ([uV 0,eS]) d (fun W Y V d=>ah (aa d [.v (qP F 1),.o (.string (hi a)) 2 1 1] (lV 9 qT ?_ (hr:=rb kR (j8 (ff has))))))))));refine lL d [.c,.v (qP K 1),.o (.string (hi b)) 1 1 1] (lV 13 qF ?_ (hr:=rb kR (je (fG x))));refine lL d [.v qF] (ag (cK (cQ (cR 6 [] mixed d ar ?_))));refine eO 0 31 [(2,0,2)] (nv a) d (eO 2 33 [(1,0,2)] (nv b) d (eC 1 32 d (fun _ _ d=>gx a oM _ _ d.g) ?_));rintro _ _ _ _ _ d ⟨y,u,rfl,B,j⟩;replace d:=d.aS j;refine eC 3 34 d (fun _ _ d=>gx b oM _ _ d.g) ?_;rintro _ _ _ _ _ d ⟨e,z,rfl,D,l⟩;replace d:=d.aS l;refine eC 4 35 d (fun _ _ d=>Fh y u (wds a) e z (wds b) (Wd.wds a) (Wd.wds b) oM oM _ _ d.g d.f.2.1 d.f.1) ?_;rintro _ _ _ _ _ d ⟨J,I,C,rfl,L,M,i,p,O⟩;replace d:=d.aS O;exact au 5 36 d (fun _ _ d=>dH J I (C) C.length ((a*b)) (by first|rfl|assumption|(simp;done)|(simp;omega)|omega) (i) (p.trans (by rw[ay,ay])) sM sM _ _ d.g d.f.1) (fun _ _ d=>bS d (fun _ _ d=>tP 6 0 0 (nc (a*b)) d (fun _ d=>tN (kX (d.ret [(0,0,2)] (nv (a*b)) rfl)))))
theorem pP (a b:Nat)(c:(wds a).length<=1000000000)(d:(wds b).length<=1000000000)(w:World)(h:Hp)(g:G w h):CV 200 #[nv a,nv b] w h (nv (a*b)):=by
 rcases cD a 18446744073709551616 with h1|h1
 ·rcases cD b 18446744073709551616 with h2|h2
  ·exact IK a b c d h1 h2 w h g
  ·exact Ja a b c d h1 h2 w h g
 ·exact I3 a b c d h1 w h g
theorem E2 (a b:Nat)(I:0<b)(M:(wds a).length<=1000000000)(D:(wds b).length<=1000000000)(has:a<18446744073709551616)(l:b<18446744073709551616)(w:World)(h:Hp)(g:G w h):CV 148 #[nv a,nv b] w h (.tuple #[nv (a/b),nv (a%b),.bool true]):=by
 have d:=sS g;have L:=(co I).2.2;have J:=z2 l;refine go Tryz.func148 [(0,nv a),(1,nv b)] rfl (aD (lA 2 45 (nc a) d (fun B w2 U d=>lA 3 45 (nc b) d (fun C W S d=>lA 4 45 ([uV 0,eS]) d (fun O X V d=>lA 5 45 ([uV 0,eS]) d (fun Q _ _ d=>lL d ac (ah (aa d [.o (nv b) 2 0 2] (aq 12 d (f0 b D _ _ d.g) (fun _ _ d=>?_))))))))));have K:(((nb b:Nat):Int) == (0:Int))=false:=fh oM;have F:=aj K;refine lB 13 K (ag (cK (cQ (aa d [.v (qP B 1),.o (.string (hi a)) 3 1 1] (lV 18 qT ?_ (hr:=rb kR (j8 (ff has))))))));refine lL d [.c,.v (qP C 1),.o (.string (hi b)) 2 1 1] (lV 22 qT ?_ (hr:=rb kR (j8 (ff l))));refine lL d [.v qT] (ak (cQ ?_));have z:=d;refine FF 12 [] [O,Q] mixed d ar (eV 0 24 (pB B) (eO 1 25 [(3,0,1)] (mV (a%18446744073709551616)) d (eV 2 26 (pB C) (eO 3 27 [(2,0,1)] (mV (b%18446744073709551616)) d (eV 4 28 (mV ((a%18446744073709551616)/(b%18446744073709551616))) ?_ (hv:=fun _=>aI (dD (t:=43) (u:=43) (x:=.tmp 25) (y:=.tmp 27) (k:=.u64) (a:=((a%18446744073709551616:Nat):Int)) (b:=((b%18446744073709551616:Nat):Int)) kR kR kR oM _) (km (a%18446744073709551616) (b%18446744073709551616) oM)))))));refine eV 5 29 (.agg #[mV ((a%18446744073709551616)/(b%18446744073709551616)),eS]) (eV 6 30 (pB B) (Bw 7 31 [(3,0,1)] (mV (a%18446744073709551616)) z d ?_ (hM:=fun p H=>by obtain rfl:=sA.1 H;exact fun f=>by rcases gs.1 f with e|f;exact gB d.st (i:=3) (j:=1) kR kR kR e;rcases gs.1 f with e|f;exact gB d.st (i:=3) (j:=0) kR kR kR e;cases f)));refine eV 8 32 (pB C) (Bw 9 33 [(2,0,1)] (mV (b%18446744073709551616)) z d ?_ (hM:=fun p H=>by obtain rfl:=sA.1 H;exact fun f=>by rcases gs.1 f with e|f;exact gB d.st (i:=2) (j:=1) kR kR kR e;rcases gs.1 f with e|f;exact gB d.st (i:=2) (j:=0) kR kR kR e;cases f));refine eV 10 34 (mV ((a%18446744073709551616)%(b%18446744073709551616))) ?_ (hv:=fun _=>aI (fq (t:=43) (u:=43) (x:=.tmp 31) (y:=.tmp 33) (k:=.u64) (a:=((a%18446744073709551616:Nat):Int)) (b:=((b%18446744073709551616:Nat):Int)) kR kR kR oM _) (dk (a%18446744073709551616) (b%18446744073709551616)));refine eV 11 35 (.agg #[mV ((a%18446744073709551616)%(b%18446744073709551616)),eS]) (bS d (fun _ _ d=>tP 12 1 0 ([mV ((a%18446744073709551616)/(b%18446744073709551616)),eS]) d (fun _ d=>?_) (hz:=gC (MD))));refine tP 13 0 0 ([mV ((a%18446744073709551616)%(b%18446744073709551616)),eS]) d (fun _ d=>?_) (hz:=gC (ME _<|MD));exact tV 14 6 qT (tN (kX (d.ret [(1,0,2),(0,0,2)] (.tuple #[.agg #[mV ((a%18446744073709551616)/(b%18446744073709551616)),eS],.agg #[mV ((a%18446744073709551616)%(b%18446744073709551616)),eS],qT]) (by rw[z2 has,z2 l,jw (show a/b<18446744073709551616 by have:=F2 a b;omega),jw (show a%b<18446744073709551616 by have:=z6 a I;omega)]))))
theorem Ig (a b:Nat)(hb:0<b)(J:(wds a).length<=1000000000)(Q:(wds b).length<=1000000000)(has:18446744073709551616<=a)(y:b<18446744073709551616)(w:World)(h:Hp)(g:G w h):CV 148 #[nv a,nv b] w h (.tuple #[nv (a/b),nv (a%b),.bool true]):=by
 have i:=sS g;have bn:=(co hb).2.2;have bf:=z2 y;have hcl:=fM (show b<=a by omega);refine go Tryz.func148 [(0,nv a),(1,nv b)] rfl (aD (lA 2 45 (nc a) i (fun I w2 h3 i=>lA 3 45 (nc b) i (fun D w5 h6 i=>lA 4 45 ([uV 0,eS]) i (fun V w8 h9 i=>lA 5 45 ([uV 0,eS]) i (fun U _ _ i=>lL i ac (ah (aa i [.o (nv b) 2 0 2] (aq 12 i (f0 b Q _ _ i.g) (fun _ _ i=>?_))))))))));have zb:(((nb b:Nat):Int) == (0:Int))=false:=fh oM;have bb:=aj zb;refine lB 13 zb (ag (cK (cQ (aa i [.v (qP I 1),.o (.string (hi a)) 3 1 1] (lV 18 qF ?_ (hr:=rb kR (je (fG has))))))));refine lL i ac (lG 20 ?_);refine lG 21 (lG 22 (lL i [.v qF] (ag (cK (cQ (aa i [.o (nv a) 3 0 2,.o (nv b) 2 0 2] (aq 38 i (ml a b J Q _ _ i.g) (fun zd _ i=>?_))))))));have ⟨zc,Y⟩:=dF (p:=(bV a b:Int)<(0:Int)) oM;refine lB 39 zc (ag (cK (cQ (aa i [.v (qP D 1),.o (.string (hi b)) 2 1 1] (lV 44 qT ?_ (hr:=rb kR (j8 (ff y))))))));refine ak (cQ ?_);obtain ⟨C,hK_⟩:∃ C,C=zd.heap.size:=⟨_,rfl⟩;have S:U<C:=by rw[hK_];exact fi i 0
 have bd:V<C:=by rw[hK_];exact fi i 1
 have x:D<C:=by rw[hK_];exact fi i 2
 have B:I<C:=by rw[hK_];exact fi i 3
 refine wn ⟨[],some (C,[])⟩ 0 mixed ?_;have bq:=i.g.size;replace i:=i.drew;have u:=MC hK_;refine zO 0 46 [(3,0,2)] (nv a) rfl u i (fun p W=>by obtain rfl:=sA.1 W;exact B) (zV 2 48 (pB D) (zO 3 49 [(2,0,1)] (mV (b%18446744073709551616)) rfl u i (fun p W=>by obtain rfl:=sA.1 W;exact x) (rz 1 47 (fY a oM oM _ _ i.g) rfl u ?_)));rintro _ _ _ u21 u ⟨j,rfl,F,L,bm⟩;obtain ⟨_,i,-,-⟩:=i.take u21 F L;replace i:=i.to [⟨j,43,(wds a).flatMap ao⟩,⟨U,45,[uV 0,eS]⟩,⟨V,45,[uV 0,eS]⟩,⟨D,45,nc b⟩,⟨I,45,nc a⟩] [];refine Kz 4 50 (Iu j (wds a) (wds a).length (b%18446744073709551616) oM oM (Wd.wds a) J (nR _) _ _ i.g (i.own 0) (i.jk 0)) rfl u oM ?_;rintro _ _ _ Z u ⟨z,r,rfl,hzl,hWz,M,H,hOz⟩;replace i:=(i.stepM 0 Z hOz).to [⟨j,43,(z).flatMap ao⟩,⟨U,45,[uV 0,eS]⟩,⟨V,45,[uV 0,eS]⟩,⟨D,45,nc b⟩,⟨I,45,nc a⟩] [];refine zV 5 45 (.tuple #[qS (sB j) (tl z z.length) ((wds a).length),mV r]) (zV 6 51 (qS (sB j) (tl z z.length) ((wds a).length)) (zV 7 52 (mV r) (zV 8 7 (qS (sB j) (tl z z.length) ((wds a).length)) (zV 9 8 (mV r) (rW ?_)))));have O:=z2 y;rw[ay,O] at M
 rw[O] at H
 obtain ⟨hq1,X⟩:=DJ M H;have htz:=iq z z.length;have hQ:aA (z.take (tl z z.length))=a/b:=by have e:=jR 18446744073709551616 z z.length (nR _);rw[yY] at e;exact e.trans hq1
 obtain ⟨_,i,K,bk,bl⟩:=i.pub 0;replace i:=(i.to [⟨U,45,[uV 0,eS]⟩,⟨V,45,[uV 0,eS]⟩,⟨D,45,nc b⟩,⟨I,45,nc a⟩] []).aS (SlO.of_flat (sz:=1) (f:=ao) (d:=0) (b:=j) (o:=0) (l:=z) (fun _=>rfl) K);exact lL i ac (aq 54 i (dH (sB j) ((wds a).length) (z.take (tl z z.length)) (tl z z.length) ((a/b)) (by first|rfl|assumption|(simp;done)|(simp;omega)|omega) (Dg.take hWz _) (hQ) sM sM _ _ i.g ((i.f.1).take _)) (fun _ _ i=>lL i [.c,.v (.agg #[mV r,eS])] (lP 1 0 (nc (a/b)) i (fun _ i=>lP 0 0 ([mV r,eS]) i (fun _ i=>lL i ac (ae i [(1,0,2),(0,0,2)] (.tuple #[nv (a/b),.agg #[mV r,eS],qT]) (by rw[X,jw (by have:=z6 a hb;omega)])))))))
theorem Jd (a b:Nat)(U:0<b)(d:(wds a).length<=1000000000)(j:(wds b).length<=1000000000)(e:b<=a)(has:18446744073709551616<=a)(i:18446744073709551616<=b)(w:World)(h:Hp)(g:G w h):CV 148 #[nv a,nv b] w h (.tuple #[nv (a/b),nv (a%b),.bool true]):=by
 have c:=sS g;have X:=(co U).2.2;have hcl:=fM e;have hlm:=dg e;have hl2:=de i;refine go Tryz.func148 [(0,nv a),(1,nv b)] rfl (aD (lA 2 45 (nc a) c (fun Z w2 h3 c=>lA 3 45 (nc b) c (fun b4 w5 h6 c=>lA 4 45 ([uV 0,eS]) c (fun b7 w8 h9 c=>lA 5 45 ([uV 0,eS]) c (fun b10 _ _ c=>lL c ac (ah (aa c [.o (nv b) 2 0 2] (aq 12 c (f0 b j _ _ c.g) (fun _ _ c=>?_))))))))));have W:(((nb b:Nat):Int) == (0:Int))=false:=fh oM;have S:=aj W;refine lB 13 W (ag (cK (cQ (aa c [.v (qP Z 1),.o (.string (hi a)) 3 1 1] (lV 18 qF ?_ (hr:=rb kR (je (fG has))))))));refine lL c ac (lG 20 ?_);refine lG 21 (lG 22 (lL c [.v qF] (ag (cK (cQ (aa c [.o (nv a) 3 0 2,.o (nv b) 2 0 2] (aq 38 c (ml a b d j _ _ c.g) (fun _ _ c=>?_))))))));have ⟨zb,F⟩:=dF (p:=(bV a b:Int)<(0:Int)) oM;refine lB 39 zb (ag (cK (cQ (aa c [.v (qP b4 1),.o (.string (hi b)) 2 1 1] (lV 44 qF ?_ (hr:=rb kR (je (fG i))))))));refine ag (cK (cQ (cR 8 [] mixed c ar ?_)));refine eO 0 58 [(3,0,2)] (nv a) c (eO 2 60 [(2,0,2)] (nv b) c (eC 1 59 c (fun _ _ c=>gx a oM _ _ c.g) ?_));rintro _ _ _ _ _ c ⟨L,J,rfl,V,C⟩;replace c:=c.aS C;refine eC 3 61 c (fun _ _ c=>gx b oM _ _ c.g) ?_;rintro _ _ _ _ _ c ⟨z,Q,rfl,Y,D⟩;replace c:=c.aS D;refine eC 4 62 c (fun _ _ c=>HU L J (wds a) z Q (wds b) (Wd.wds a) (Wd.wds b) d oM oM (mH U) _ _ c.g c.f.2.1 c.f.1) ?_;rintro _ _ _ _ _ c ⟨u,y,q,x,l,r,rfl,hcq,hcr,B,O,H,M,hlq,hlr,K,I⟩;replace c:=c.aP K I;exact eV 5 57 (.tuple #[qS u q.length y,qS x r.length l]) (eV 6 63 (qS u q.length y) (eV 7 64 (qS x r.length l) (bS c (fun _ _ c=>tV 8 9 (qS u q.length y) (tV 9 10 (qS x r.length l) (rW (lL c ac (aq 66 c (dH u y (q) q.length ((a/b)) (by first|rfl|assumption|(simp;done)|(simp;omega)|omega) (B) (H.trans (by rw[ay,ay])) sM sM _ _ c.g c.f.2.1) (fun _ _ c=>lL c ac (aq 68 c (dH x l (r) r.length ((a%b)) (by first|rfl|assumption|(simp;done)|(simp;omega)|omega) (O) (M.trans (by rw[ay,ay])) sM sM _ _ c.g c.f.1) (fun _ _ c=>lP 1 0 (nc (a/b)) c (fun _ c=>lP 0 0 (nc (a%b)) c (fun _ c=>lL c ac (ae c [(1,0,2),(0,0,2)] (.tuple #[nv (a/b),nv (a%b),qT]) rfl))))))))))))))
theorem IY (a b:Nat)(I:0<b)(x:(wds a).length<=1000000000)(u:(wds b).length<=1000000000)(f:a<b)(has:a<18446744073709551616)(B:18446744073709551616<=b)(w:World)(h:Hp)(g:G w h):CV 148 #[nv a,nv b] w h (.tuple #[nv (a/b),nv (a%b),.bool true]):=by
 have d:=sS g;have F:=(co I).2.2;have J:=d9 f;refine go Tryz.func148 [(0,nv a),(1,nv b)] rfl (aD (lA 2 45 (nc a) d (fun H w2 U d=>lA 3 45 (nc b) d (fun K W S d=>lA 4 45 ([uV 0,eS]) d (fun M X V d=>lA 5 45 ([uV 0,eS]) d (fun L _ _ d=>lL d ac (ah (aa d [.o (nv b) 2 0 2] (aq 12 d (f0 b u _ _ d.g) (fun _ _ d=>?_))))))))));have D:(((nb b:Nat):Int) == (0:Int))=false:=fh oM;have C:=aj D;refine lB 13 D (ag (cK (cQ (aa d [.v (qP H 1),.o (.string (hi a)) 3 1 1] (lV 18 qT ?_ (hr:=rb kR (j8 (ff has))))))));refine lL d [.c,.v (qP K 1),.o (.string (hi b)) 2 1 1] (lV 22 qF ?_ (hr:=rb kR (je (fG B))));refine lL d [.v qF] (ag (cK (cQ (aa d [.o (nv a) 3 0 2,.o (nv b) 2 0 2] (aq 38 d (ml a b x u _ _ d.g) (fun _ _ d=>?_))))));have ⟨O,y⟩:=dT (p:=(bV a b:Int)<(0:Int)) oM;refine lB 39 O (ak (cQ ?_));have z:=d;refine FF 2 [] [M,L] mixed d ar (eV 0 40 (.agg #[uV 0,eS]) (Bw 1 41 [(3,0,2)] (nv a) z d ?_ (hM:=fun p Q=>by obtain rfl:=sA.1 Q;exact fun l=>by rcases gs.1 l with e|l;exact gB d.st (i:=3) (j:=1) kR kR kR e;rcases gs.1 l with e|l;exact gB d.st (i:=3) (j:=0) kR kR kR e;cases l)));refine bS d (fun _ _ d=>tP 2 1 0 ([uV 0,eS]) d (fun _ d=>?_) (hz:=gC (MD)));refine tP 3 0 0 (nc a) d (fun _ d=>?_) (hz:=gC (ME _<|MD));exact tV 4 6 qT (tN (kX (d.ret [(1,0,2),(0,0,2)] (.tuple #[.agg #[uV 0,eS],nv a,qT]) (by have f:a<b:=(by rcases cD a b with h_|h_;exact h_;rcases fM h_ with e|e<;>omega);rw[Hi f,z2 f];rfl))))
theorem Jx (a b:Nat)(F:0<b)(u:(wds a).length<=1000000000)(l:(wds b).length<=1000000000)(d:a<b)(has:18446744073709551616<=a)(w:World)(h:Hp)(g:G w h):CV 148 #[nv a,nv b] w h (.tuple #[nv (a/b),nv (a%b),.bool true]):=by
 have c:=sS g;have C:=(co F).2.2;have H:=d9 d;refine go Tryz.func148 [(0,nv a),(1,nv b)] rfl (aD (lA 2 45 (nc a) c (fun D w2 O c=>lA 3 45 (nc b) c (fun S U M c=>lA 4 45 ([uV 0,eS]) c (fun J V Q c=>lA 5 45 ([uV 0,eS]) c (fun I _ _ c=>lL c ac (ah (aa c [.o (nv b) 2 0 2] (aq 12 c (f0 b l _ _ c.g) (fun _ _ c=>?_))))))))));have B:(((nb b:Nat):Int) == (0:Int))=false:=fh oM;have z:=aj B;refine lB 13 B (ag (cK (cQ (aa c [.v (qP D 1),.o (.string (hi a)) 3 1 1] (lV 18 qF ?_ (hr:=rb kR (je (fG has))))))));refine lL c ac (lG 20 ?_);refine lG 21 (lG 22 (lL c [.v qF] (ag (cK (cQ (aa c [.o (nv a) 3 0 2,.o (nv b) 2 0 2] (aq 38 c (ml a b u l _ _ c.g) (fun _ _ c=>?_))))))));have ⟨K,x⟩:=dT (p:=(bV a b:Int)<(0:Int)) oM;refine lB 39 K (ak (cQ ?_));have y:=c;refine FF 2 [] [J,I] mixed c ar (eV 0 40 (.agg #[uV 0,eS]) (Bw 1 41 [(3,0,2)] (nv a) y c ?_ (hM:=fun p L=>by obtain rfl:=sA.1 L;exact fun f=>by rcases gs.1 f with e|f;exact gB c.st (i:=3) (j:=1) kR kR kR e;rcases gs.1 f with e|f;exact gB c.st (i:=3) (j:=0) kR kR kR e;cases f)));refine bS c (fun _ _ c=>tP 2 1 0 ([uV 0,eS]) c (fun _ c=>?_) (hz:=gC (MD)));refine tP 3 0 0 (nc a) c (fun _ c=>?_) (hz:=gC (ME _<|MD));exact tV 4 6 qT (tN (kX (c.ret [(1,0,2),(0,0,2)] (.tuple #[.agg #[uV 0,eS],nv a,qT]) (by have d:a<b:=(by rcases cD a b with h_|h_;exact h_;rcases fM h_ with e|e<;>omega);rw[Hi d,z2 d];rfl))))
theorem Jr (a b:Nat)(e:0<b)(c:(wds a).length<=1000000000)(d:(wds b).length<=1000000000)(w:World)(h:Hp)(g:G w h):CV 148 #[nv a,nv b] w h (.tuple #[nv (a/b),nv (a%b),.bool true]):=by
 rcases cD a b with hab|hab
 ·rcases cD a 18446744073709551616 with h1|h1
  ·rcases cD b 18446744073709551616 with h2|h2
   ·exact E2 a b e c d h1 h2 w h g
   ·exact IY a b e c d hab h1 h2 w h g
  ·exact Jx a b e c d hab h1 w h g
 ·rcases cD b 18446744073709551616 with h2|h2
  ·rcases cD a 18446744073709551616 with h1|h1
   ·exact E2 a b e c d h1 h2 w h g
   ·exact Ig a b e c d h1 h2 w h g
  ·exact Jd a b e c d hab oM h2 w h g
theorem ko {z:Int}{b:Bool}{n:Nat}(a:af z=b)(hn:ab z=n):Value.agg #[.bool b,.int .u64 (lo n),.string (hi n)]=iv z:=by subst a hn;rfl
theorem jP {z:Int}{b:Bool}(a:af z=b):iv z=Value.agg #[.bool b,.int .u64 (lo (ab z)),.string (hi (ab z))]:=(ko a rfl).symm
theorem ne (x y:Int):bA (af x != af y) (ab x*ab y)=x*y:=by
 rcases hx:af x with _|_<;>rcases hy:af y with _|_
 ·have h1:=bc hx
  have c:=bc hy;obtain ⟨a,rfl⟩:=MF h1;obtain ⟨b,rfl⟩:=MF c
  simp[bA,ab,MG,MH,MI]
 ·have h1:=bc hx
  have c:=bp hy;obtain ⟨a,rfl⟩:=MF h1;obtain ⟨b,d⟩:=MF (a:=-y) oM;obtain rfl:y = -b:=by omega
  simp[bA,ab,MG,MH,MI]
 ·have h1:=bp hx
  have c:=bc hy;obtain ⟨b,rfl⟩:=MF c;obtain ⟨a,ha⟩:=MF (a:=-x) oM;obtain rfl:x = -a:=by omega
  simp[bA,ab,MG,MH,MI]
 ·have h1:=bp hx
  have c:=bp hy;obtain ⟨a,ha⟩:=MF (a:=-x) oM;obtain ⟨b,d⟩:=MF (a:=-y) oM;obtain rfl:x = -a:=by omega
  obtain rfl:y = -b:=by omega
  simp[bA,ab,MG,MH,MI]
theorem kJ {a b:Nat}:(wds (a+b)).length<=(wds a).length+(wds b).length+1:=by
 refine fg kD ?_;have h1:=dG a;have c:=dG b;have d:18446744073709551616^(wds a).length<=18446744073709551616^((wds a).length+(wds b).length):=Lw kD oM;have e:18446744073709551616^(wds b).length<=18446744073709551616^((wds a).length+(wds b).length):=Lw kD oM;rw[HA]
 omega
theorem qz {a b k:Nat}(ha:(wds a).length<=k)(c:(wds b).length<=k):(wds (a+b)).length<=k+1:=by
 refine fg kD ?_;have h1:=dG a;have d:=dG b;have e:18446744073709551616^(wds a).length<=18446744073709551616^k:=Lw kD ha;have f:18446744073709551616^(wds b).length<=18446744073709551616^k:=Lw kD c;rw[HA]
 omega
theorem dB {a b:Nat}:(wds (a*b)).length<=(wds a).length+(wds b).length:=by
 refine fg kD ?_;rw[Ly];have h1:=dG a;have c:=dG b;exact ek (Nat.mul_lt_mul'' h1 c) (Nat.le_refl _)
theorem av {a b k:Nat}(h:a<=b)(c:(wds b).length<=k):(wds a).length<=k:=eb (dg h) c
theorem xn (a:Nat)(w:World)(h:Hp)(g:G w h):CV 46 #[.bool false,nv a] w h (iv (bA false a)):=by
 have c:=sS g;refine go Tryz.func46 [(0,qF),(1,nv a)] rfl (aD (lA 3 45 (nc a) c (fun f w2 i c=>lA 4 47 ([qF,uV 0,eS]) c (fun p o e c=>ah (cR 8 [] mixed c ar ?_)))));exact eV 0 5 qF (eV 1 6 qF (eG 2 7 (eG 3 8 (eG 4 9 (eV 5 10 qF (eO 6 11 [(1,0,2)] (nv a) c (eV 7 12 (wX qF a) (bS c (fun j d c=>tP 8 0 0 (wC qF a) c (fun l c=>tN (kX (c.ret [(0,0,3)] (wX qF a) (ko (by rw[jN];rfl) (fu _ _))))))))))))))
theorem GM (j:(wds 0).length<=1000000000)(w:World)(h:Hp)(g:G w h):CV 46 #[.bool true,nv 0] w h (iv (bA true 0)):=by
 have a:=sS g;have c:nb 0=0:=rfl;refine go Tryz.func46 [(0,qT),(1,nv 0)] rfl (aD (lA 3 45 (nc 0) a (fun i w2 l a=>lA 4 47 ([qF,uV 0,eS]) a (fun x u f a=>ah (cR 8 [] mixed a ar ?_)))));refine eV 0 5 qT (eV 1 6 qT (eO 2 7 [(1,0,2)] (nv 0) a (eO 6 11 [(1,0,2)] (nv 0) a (au 3 8 a (fun _ _ a=>f0 0 aM _ _ a.g) (fun o d a=>eV 4 9 qF ?_ (hv:=fun _=>rb (e:=decide ((0:Int)<((nb 0:Nat):Int))) kR (decide_eq_false oM)))))));exact eV 5 10 qF (eV 7 12 (wX qF 0) (bS a (fun p _ a=>tP 8 0 0 (wC qF 0) a (fun _ a=>tN (kX (a.ret [(0,0,3)] (wX qF 0) (ko (by rw[jN];rfl) (fu _ _))))))))
theorem Gg (a:Nat)(ha:0<a)(l:(wds a).length<=1000000000)(w:World)(h:Hp)(g:G w h):CV 46 #[.bool true,nv a] w h (iv (bA true a)):=by
 have c:=sS g;have d:=(co ha).2.2;refine go Tryz.func46 [(0,qT),(1,nv a)] rfl (aD (lA 3 45 (nc a) c (fun j w2 o c=>lA 4 47 ([qF,uV 0,eS]) c (fun y x i c=>ah (cR 8 [] mixed c ar ?_)))));refine eV 0 5 qT (eV 1 6 qT (eO 2 7 [(1,0,2)] (nv a) c (eO 6 11 [(1,0,2)] (nv a) c (au 3 8 c (fun _ _ c=>f0 a aM _ _ c.g) (fun p f c=>eV 4 9 qT ?_ (hv:=fun _=>rb (e:=decide ((0:Int)<((nb a:Nat):Int))) kR (decide_eq_true oM)))))));exact eV 5 10 qT (eV 7 12 (wX qT a) (bS c (fun u _ c=>tP 8 0 0 (wC qT a) c (fun _ c=>tN (kX (c.ret [(0,0,3)] (wX qT a) (ko (by rw[jN];simpa using ha) (fu _ _))))))))
theorem gf (b:Bool)(a:Nat)(c:(wds a).length<=1000000000)(w:World)(h:Hp)(g:G w h):CV 46 #[.bool b,nv a] w h (iv (bA b a)):=by
 cases b
 ·exact xn a w h g
 ·rcases Aw a with h0|h0
  ·subst h0;exact GM c w h g
  ·exact Gg a h0 c w h g
theorem KL (z:Int)(h0 : -9223372036854775808<=z)(hz:z<0)(w:World)(h:Hp)(g:G w h):CV 61 #[iV z] w h (iv z):=by
 have a:=sS g;have e:ab z<=9223372036854775808:=by unfold ab;omega
 refine go Tryz.func61 [(0,iV z)] rfl (aD (lA 2 47 ([qF,uV 0,eS]) a (fun i w2 j a=>ah (aa a ac ?_))));have ⟨c,d⟩:=dT (p:=(z:Int)<(0:Int)) oM;refine lB 4 c (ak (aa a ac (lV 6 (mV (18446744073709551616-ab z)) ?_ (hr:=rU (z) kR (by rw[IntKind.wrap_u64];unfold ab;omega)))));refine lV 7 (mV (ab z)) ?_ (hr:=rU ((0-((18446744073709551616-ab z:Nat):Int))) kR (by rw[IntKind.wrap_u64];omega));exact aq 8 a (JV (ab z) oM _ _ a.g) (fun o f a=>lL a [.v (wX qT (ab z))] (lP 0 0 (wC qT (ab z)) a (fun l a=>ae a [(0,0,3)] (wX qT (ab z)) (ko (by simp[af,hz]) rfl))))
theorem Kl (n:Nat)(h1:n<9223372036854775808)(w:World)(h:Hp)(g:G w h):CV 61 #[nV n] w h (iv (n:Int)):=by
 have a:=sS g;refine go Tryz.func61 [(0,nV n)] rfl (aD (lA 2 47 ([qF,uV 0,eS]) a (fun f w2 i a=>ah (aa a ac ?_))));have ⟨c,d⟩:=dF (p:=(n:Int)<(0:Int)) oM;refine lB 4 c (ag (cK (aa a ac (lV 11 (mV n) ?_ (hr:=rU ((n:Int)) kR (be oM oM))))));exact aq 12 a (JV n oM _ _ a.g) (fun l e a=>lL a [.v (wX qF n)] (lP 0 0 (wC qF n) a (fun j a=>ae a [(0,0,3)] (wX qF n) (ko (by simp[af]) (by simp[ab])))))
theorem Le (z:Int)(h0 : -9223372036854775808<=z)(h1:z<=9223372036854775807)(w:World)(h:Hp)(g:G w h):CV 61 #[iV z] w h (iv z):=by
 rcases Int.lt_or_le z 0 with hz|hz
 ·exact KL z h0 hz w h g
 ·obtain ⟨n,rfl⟩:=MF hz
  exact Kl n oM w h g
def ei(x y:Int):Int:=if x<y then -1 else if y<x then 1 else 0
theorem CT {x y:Int}(h:x<y):ei x y = -1:=by simp[ei,h]
theorem CY {x y:Int}(h:y<x):ei x y=1:=by unfold ei;rw[if_neg oM,if_pos h]
theorem C1 {x y:Int}(e:0<=x)(d:0<=y):ei x y=bV (ab x) (ab y):=by
 unfold ei bV ab
 have a:(x<y)=(x.natAbs<y.natAbs):=by apply propext;omega
 have c:(y<x)=(y.natAbs<x.natAbs):=by apply propext;omega
 simp only[a,c]
theorem Dc {x y:Int}(e:x<0)(d:y<0):ei x y=bV (ab y) (ab x):=by
 unfold ei bV ab
 have a:(x<y)=(y.natAbs<x.natAbs):=by apply propext;omega
 have c:(y<x)=(x.natAbs<y.natAbs):=by apply propext;omega
 simp only[a,c]
theorem wG (z:Int)(w:World)(h:Hp)(g:G w h):CV 81 #[iv z] w h (nv (ab z)):=by
 have a:=sS g;exact go Tryz.func81 [(0,iv z)] rfl (aD (lA 1 47 (ic z) a (fun c w2 e a=>lA 2 45 ([uV 0,eS]) a (fun j i d a=>aG (lL a [.v (qP c 1),.o (nv (ab z)) 1 1 2] (lP 0 0 (nc (ab z)) a (fun f a=>ae a [(0,0,2)] (nv (ab z)) rfl)))))))
theorem FQ (z:Int)(hz:af z=true)(w:World)(h:Hp)(g:G w h):CV 78 #[wX (.bool true) (ab z)] w h (iV z.sign):=by
 have a:=sS g;exact go Tryz.func78 [(0,wX qT (ab z))] rfl (aD (lA 1 47 (wC qT (ab z)) a (fun d w2 e a=>lL a ac (ah (kZ (aa a [.v (pB d),.o qT 0 0 1,.c] (ak (aa a ac (ae a [] (iV (-1)) (by rw[Int.sign_eq_neg_one_of_neg (bp hz)]))))))))))
theorem G7 (z:Int)(x:(wds (ab z)).length<=1000000000)(hz:af z=false)(h0:0<ab z)(w:World)(h:Hp)(g:G w h):CV 78 #[wX (.bool false) (ab z)] w h (iV z.sign):=by
 have a:=sS g;have i:=(co h0).2.2;refine go Tryz.func78 [(0,wX qF (ab z))] rfl (aD (lA 1 47 (wC qF (ab z)) a (fun f w2 u a=>lL a ac (ah (kZ (aa a [.v (pB f),.o qF 0 0 1,.c] (ag (aa a [.v (qP f 1),.o (nv (ab z)) 0 1 2] (aq 9 a (f0 (ab z) aM _ _ a.g) (fun l j a=>?_))))))))));have ⟨d,e⟩:=dT (p:=(0:Int)<((nb (ab z):Nat):Int)) oM;exact lB 10 d (lL a ac (ak (aa a ac (ae a [] (iV 1) (by rw[Int.sign_eq_one_of_pos (by have:=bc hz;unfold ab at h0;omega)])))))
theorem FP (x:(wds (ab 0)).length<=1000000000)(w:World)(h:Hp)(g:G w h):CV 78 #[wX (.bool false) (ab 0)] w h (iV 0):=by
 have a:=sS g;have i:nb (ab 0)=0:=rfl;refine go Tryz.func78 [(0,wX qF (ab 0))] rfl (aD (lA 1 47 (wC qF (ab 0)) a (fun f w2 u a=>lL a ac (ah (kZ (aa a [.v (pB f),.o qF 0 0 1,.c] (ag (aa a [.v (qP f 1),.o (nv (ab 0)) 0 1 2] (aq 9 a (f0 (ab 0) aM _ _ a.g) (fun j l a=>?_))))))))));have ⟨d,e⟩:=dF (p:=(0:Int)<((nb (ab 0):Nat):Int)) oM;exact lB 10 d (lL a ac (ag (cK (aa a ac (ae a [] (iV 0) rfl)))))
theorem mi (z:Int)(a:(wds (ab z)).length<=1000000000)(w:World)(h:Hp)(g:G w h):CV 78 #[iv z] w h (iV z.sign):=by
 rcases hz:af z with _|_
 ·rw[jP hz]
  rcases Aw (ab z) with h0|h0
  ·have:z=0:=by unfold ab at h0;omega
   subst this;exact FP a w h g
  ·exact G7 z a hz h0 w h g
 ·rw[jP hz];exact FQ z hz w h g
theorem JD (z:Int)(i:(wds (ab z)).length<=1000000000)(hz:af z=false)(w:World)(h:Hp)(g:G w h):CV 79 #[wX (.bool false) (ab z)] w h (iv (-z)):=by
 have a:=sS g;exact go Tryz.func79 [(0,wX qF (ab z))] rfl (aD (lA 1 47 (wC qF (ab z)) a (fun c w2 j a=>lA 2 47 ([qF,uV 0,eS]) a (fun x u f a=>aG (lL a [.v (pB c),.o qF 1 0 1,.v qT,.v (qP c 1),.o (nv (ab z)) 1 1 2] (aq 8 a (gf true (ab z) aM _ _ a.g) (fun l d a=>lP 0 0 (ic (bA true (ab z))) a (fun p a=>ae a [(0,0,3)] (iv (bA true (ab z))) (by have e:=lh z;rw[hz] at e;exact congrArg iv e)))))))))
theorem I0 (z:Int)(i:(wds (ab z)).length<=1000000000)(hz:af z=true)(w:World)(h:Hp)(g:G w h):CV 79 #[wX (.bool true) (ab z)] w h (iv (-z)):=by
 have a:=sS g;exact go Tryz.func79 [(0,wX qT (ab z))] rfl (aD (lA 1 47 (wC qT (ab z)) a (fun c w2 j a=>lA 2 47 ([qF,uV 0,eS]) a (fun x u f a=>aG (lL a [.v (pB c),.o qT 1 0 1,.v qF,.v (qP c 1),.o (nv (ab z)) 1 1 2] (aq 8 a (gf false (ab z) aM _ _ a.g) (fun l d a=>lP 0 0 (ic (bA false (ab z))) a (fun p a=>ae a [(0,0,3)] (iv (bA false (ab z))) (by have e:=lh z;rw[hz] at e;exact congrArg iv e)))))))))
theorem In (z:Int)(a:(wds (ab z)).length<=1000000000)(w:World)(h:Hp)(g:G w h):CV 79 #[iv z] w h (iv (-z)):=by
 rcases hz:af z with _|_<;>rw[jP hz]
 ·exact JD z a hz w h g
 ·exact I0 z a hz w h g
theorem FO (x y:Int)(j:(wds (ab x)).length<=1000000000)(l:(wds (ab y)).length<=1000000000)(i:af x=false)(f:af y=false)(w:World)(h:Hp)(g:G w h):CV 145 #[wX (.bool false) (ab x),wX (.bool false) (ab y)] w h (iV (ei x y)):=by
 have a:=sS g;refine go Tryz.func145 [(0,wX qF (ab x)),(1,wX qF (ab y))] rfl (aD (lA 2 47 (wC qF (ab x)) a (fun d w2 z a=>lA 3 47 (wC qF (ab y)) a (fun e C u a=>lL a ac (ah (kZ (aa a [.v (pB d),.o qF 1 0 1,.c] (lG 9 ?_))))))));exact lG 10 (lL a [.v qF,.c] (ag (aa a [.v (pB d),.o qF 1 0 1,.c] (ag (aa a [.v (pB e),.o qF 0 0 1,.c] (ag (cK (aa a [.v (qP d 1),.o (nv (ab x)) 1 1 2,.v (qP e 1),.o (nv (ab y)) 0 1 2] (aq 27 a (ml (ab x) (ab y) aM aM _ _ a.g) (fun B p a=>lL a ac (ae a [] (iV (bV (ab x) (ab y))) (by rw[C1 (bc i) (bc f)]))))))))))))
theorem GA (x y:Int)(i:(wds (ab x)).length<=1000000000)(j:(wds (ab y)).length<=1000000000)(f:af x=false)(e:af y=true)(w:World)(h:Hp)(g:G w h):CV 145 #[wX (.bool false) (ab x),wX (.bool true) (ab y)] w h (iV (ei x y)):=by
 have a:=sS g;refine go Tryz.func145 [(0,wX qF (ab x)),(1,wX qT (ab y))] rfl (aD (lA 2 47 (wC qF (ab x)) a (fun d w2 u a=>lA 3 47 (wC qT (ab y)) a (fun l z p a=>lL a ac (ah (kZ (aa a [.v (pB d),.o qF 1 0 1,.c] (lG 9 ?_))))))));exact lG 10 (lL a [.v qF,.c] (ag (aa a [.v (pB d),.o qF 1 0 1,.c] (ag (aa a [.v (pB l),.o qT 0 0 1,.c] (ak (aa a ac (ae a [] (iV 1) (by rw[CY (by have:=bc f;have:=bp e;omega)])))))))))
theorem G6 (x y:Int)(i:(wds (ab x)).length<=1000000000)(j:(wds (ab y)).length<=1000000000)(f:af x=true)(e:af y=false)(w:World)(h:Hp)(g:G w h):CV 145 #[wX (.bool true) (ab x),wX (.bool false) (ab y)] w h (iV (ei x y)):=by
 have a:=sS g;exact go Tryz.func145 [(0,wX qT (ab x)),(1,wX qF (ab y))] rfl (aD (lA 2 47 (wC qT (ab x)) a (fun d w2 u a=>lA 3 47 (wC qF (ab y)) a (fun l z p a=>lL a ac (ah (kZ (aa a [.v (pB d),.o qT 1 0 1,.c,.v (pB l),.o qF 0 0 1,.v qF,.c] (ag (aa a [.v (pB d),.o qT 1 0 1,.c] (ak (aa a ac (ae a [] (iV (-1)) (by rw[CT (by have:=bp f;have:=bc e;omega)])))))))))))))
theorem Fy (x y:Int)(j:(wds (ab x)).length<=1000000000)(l:(wds (ab y)).length<=1000000000)(i:af x=true)(f:af y=true)(w:World)(h:Hp)(g:G w h):CV 145 #[wX (.bool true) (ab x),wX (.bool true) (ab y)] w h (iV (ei x y)):=by
 have a:=sS g;exact go Tryz.func145 [(0,wX qT (ab x)),(1,wX qT (ab y))] rfl (aD (lA 2 47 (wC qT (ab x)) a (fun d w2 z a=>lA 3 47 (wC qT (ab y)) a (fun e C u a=>lL a ac (ah (kZ (aa a [.v (pB d),.o qT 1 0 1,.c,.v (pB e),.o qT 0 0 1,.v qT,.c] (ak (aa a [.v (qP e 1),.o (nv (ab y)) 0 1 2,.v (qP d 1),.o (nv (ab x)) 1 1 2] (aq 16 a (ml (ab y) (ab x) aM aM _ _ a.g) (fun B p a=>lL a ac (ae a [] (iV (bV (ab y) (ab x))) (by rw[Dc (bp i) (bp f)])))))))))))))
theorem wD (x y:Int)(a:(wds (ab x)).length<=1000000000)(c:(wds (ab y)).length<=1000000000)(w:World)(h:Hp)(g:G w h):CV 145 #[iv x,iv y] w h (iV (ei x y)):=by
 rcases hx:af x with _|_<;>rcases hy:af y with _|_<;>rw[jP hx,jP hy]
 ·exact FO x y a c hx hy w h g
 ·exact GA x y a c hx hy w h g
 ·exact G6 x y a c hx hy w h g
 ·exact Fy x y a c hx hy w h g
theorem FK (x y:Int)(f:(wds (ab x)).length<=1000000000)(u:(wds (ab y)).length<=1000000000)(i:(wds (ab x+ab y)).length<=1000000000)(p:af x=false)(e:af y=false)(w:World)(h:Hp)(g:G w h):CV 297 #[wX (.bool false) (ab x),wX (.bool false) (ab y)] w h (iv (x+y)):=by
 have a:=sS g;have j:=bc p;have l:=bc e;refine go Tryz.func297 [(0,wX qF (ab x)),(1,wX qF (ab y))] rfl (aD (lA 2 47 (wC qF (ab x)) a (fun c w2 B a=>lA 3 47 (wC qF (ab y)) a (fun d F z a=>lA 4 47 ([qF,uV 0,eS]) a (fun D H C a=>ah (aa a [.v (pB c),.o qF 2 0 1,.v (pB d),.o qF 1 0 1,.v qT] (ak (cQ (cR 8 [] mixed a ar ?_)))))))));exact eV 0 14 (pB c) (eO 1 15 [(2,0,1)] qF a (eV 2 16 (qP c 1) (eO 3 17 [(2,1,2)] (nv (ab x)) a (eV 4 18 (qP d 1) (eO 5 19 [(1,1,2)] (nv (ab y)) a (au 6 20 a (fun _ _ a=>IN (ab x) (ab y) aM aM _ _ a.g) (fun _ _ a=>au 7 21 a (fun _ _ a=>gf false ((ab x)+(ab y)) (by first|assumption|exact av (MJ _ _) aM) _ _ a.g) (fun _ _ a=>bS a (fun _ _ a=>tP 8 0 0 (ic (bA false ((ab x)+(ab y)))) a (fun _ a=>tN (kX (a.ret [(0,0,3)] (iv (bA false ((ab x)+(ab y)))) (congrArg iv (by unfold bA ab at *;simp;omega))))))))))))))
theorem Cz (x y:Int)(i:(wds (ab x)).length<=1000000000)(C:(wds (ab y)).length<=1000000000)(l:(wds (ab x+ab y)).length<=1000000000)(B:af x=false)(f:af y=true)(j:ab y<=ab x)(w:World)(h:Hp)(g:G w h):CV 297 #[wX (.bool false) (ab x),wX (.bool true) (ab y)] w h (iv (x+y)):=by
 have a:=sS g;have p:=bc B;have u:=bp f;exact go Tryz.func297 [(0,wX qF (ab x)),(1,wX qT (ab y))] rfl (aD (lA 2 47 (wC qF (ab x)) a (fun d w2 F a=>lA 3 47 (wC qT (ab y)) a (fun e J D a=>lA 4 47 ([qF,uV 0,eS]) a (fun I K H a=>ah (aa a [.v (pB d),.o qF 2 0 1,.v (pB e),.o qT 1 0 1,.v qF] (ag (cK (cQ (aa a [.v (qP d 1),.o (nv (ab x)) 2 1 2,.v (qP e 1),.o (nv (ab y)) 1 1 2] (aq 27 a (Ep (ab x) (ab y) oM aM aM _ _ a.g) (fun _ _ a=>lL a [.c,.v (nv ((ab x)-(ab y))),.v qT] (lA 5 45 ([uV 0,eS]) a (fun z _ _ a=>lP 0 0 (nc ((ab x)-(ab y))) a (fun _ a=>lL a ac (aG (lL a ac (ak (aa a [.v (pB d),.o qF 3 0 1,.o (nv ((ab x)-(ab y))) 0 0 2] (aq 34 a (gf false ((ab x)-(ab y)) (by first|assumption|exact av (MJ _ _) aM) _ _ a.g) (fun _ _ a=>lP 1 0 (ic (bA false ((ab x)-(ab y)))) a (fun _ a=>ae a [(1,0,3)] (iv (bA false ((ab x)-(ab y)))) (congrArg iv (by unfold bA ab at *;simp;omega))))))))))))))))))))))))
theorem EK (x y:Int)(i:(wds (ab x)).length<=1000000000)(C:(wds (ab y)).length<=1000000000)(j:(wds (ab x+ab y)).length<=1000000000)(B:af x=false)(f:af y=true)(D:ab x<ab y)(w:World)(h:Hp)(g:G w h):CV 297 #[wX (.bool false) (ab x),wX (.bool true) (ab y)] w h (iv (x+y)):=by
 have a:=sS g;have l:=bc B;have u:=bp f;exact go Tryz.func297 [(0,wX qF (ab x)),(1,wX qT (ab y))] rfl (aD (lA 2 47 (wC qF (ab x)) a (fun e w2 H a=>lA 3 47 (wC qT (ab y)) a (fun d K F a=>lA 4 47 ([qF,uV 0,eS]) a (fun J L I a=>ah (aa a [.v (pB e),.o qF 2 0 1,.v (pB d),.o qT 1 0 1,.v qF] (ag (cK (cQ (aa a [.v (qP e 1),.o (nv (ab x)) 2 1 2,.v (qP d 1),.o (nv (ab y)) 1 1 2] (aq 27 a (E9 (ab x) (ab y) oM aM aM _ _ a.g) (fun _ _ a=>lL a [.c,.v (nv 0),.v qF] (lA 5 45 ([uV 0,eS]) a (fun z _ _ a=>lP 0 0 (nc 0) a (fun _ a=>lL a ac (aG (lL a ac (ag (cK (aa a [.v (qP d 1),.o (nv (ab y)) 2 1 2,.v (qP e 1),.o (nv (ab x)) 3 1 2] (aq 40 a (Ep (ab y) (ab x) oM aM aM _ _ a.g) (fun _ _ a=>lL a [.c,.v (nv ((ab y)-(ab x))),.v qT] (lA 7 45 ([uV 0,eS]) a (fun p _ _ a=>lP 0 0 (nc ((ab y)-(ab x))) a (fun _ a=>lL a ac (aG (lL a [.v (pB d),.o qT 3 0 1,.o (nv ((ab y)-(ab x))) 0 0 2] (aq 46 a (gf true ((ab y)-(ab x)) (by first|assumption|exact av (MJ _ _) aM) _ _ a.g) (fun _ _ a=>lP 2 0 (ic (bA true ((ab y)-(ab x)))) a (fun _ a=>ae a [(2,0,3)] (iv (bA true ((ab y)-(ab x)))) (congrArg iv (by unfold bA ab at *;simp;omega))))))))))))))))))))))))))))))))
theorem Di (x y:Int)(i:(wds (ab x)).length<=1000000000)(C:(wds (ab y)).length<=1000000000)(l:(wds (ab x+ab y)).length<=1000000000)(B:af x=true)(f:af y=false)(j:ab y<=ab x)(w:World)(h:Hp)(g:G w h):CV 297 #[wX (.bool true) (ab x),wX (.bool false) (ab y)] w h (iv (x+y)):=by
 have a:=sS g;have p:=bp B;have u:=bc f;exact go Tryz.func297 [(0,wX qT (ab x)),(1,wX qF (ab y))] rfl (aD (lA 2 47 (wC qT (ab x)) a (fun d w2 F a=>lA 3 47 (wC qF (ab y)) a (fun e J D a=>lA 4 47 ([qF,uV 0,eS]) a (fun I K H a=>ah (aa a [.v (pB d),.o qT 2 0 1,.v (pB e),.o qF 1 0 1,.v qF] (ag (cK (cQ (aa a [.v (qP d 1),.o (nv (ab x)) 2 1 2,.v (qP e 1),.o (nv (ab y)) 1 1 2] (aq 27 a (Ep (ab x) (ab y) oM aM aM _ _ a.g) (fun _ _ a=>lL a [.c,.v (nv ((ab x)-(ab y))),.v qT] (lA 5 45 ([uV 0,eS]) a (fun z _ _ a=>lP 0 0 (nc ((ab x)-(ab y))) a (fun _ a=>lL a ac (aG (lL a ac (ak (aa a [.v (pB d),.o qT 3 0 1,.o (nv ((ab x)-(ab y))) 0 0 2] (aq 34 a (gf true ((ab x)-(ab y)) (by first|assumption|exact av (MJ _ _) aM) _ _ a.g) (fun _ _ a=>lP 1 0 (ic (bA true ((ab x)-(ab y)))) a (fun _ a=>ae a [(1,0,3)] (iv (bA true ((ab x)-(ab y)))) (congrArg iv (by unfold bA ab at *;simp;omega))))))))))))))))))))))))
theorem D3 (x y:Int)(i:(wds (ab x)).length<=1000000000)(C:(wds (ab y)).length<=1000000000)(j:(wds (ab x+ab y)).length<=1000000000)(B:af x=true)(f:af y=false)(D:ab x<ab y)(w:World)(h:Hp)(g:G w h):CV 297 #[wX (.bool true) (ab x),wX (.bool false) (ab y)] w h (iv (x+y)):=by
 have a:=sS g;have l:=bp B;have u:=bc f;exact go Tryz.func297 [(0,wX qT (ab x)),(1,wX qF (ab y))] rfl (aD (lA 2 47 (wC qT (ab x)) a (fun e w2 H a=>lA 3 47 (wC qF (ab y)) a (fun d K F a=>lA 4 47 ([qF,uV 0,eS]) a (fun J L I a=>ah (aa a [.v (pB e),.o qT 2 0 1,.v (pB d),.o qF 1 0 1,.v qF] (ag (cK (cQ (aa a [.v (qP e 1),.o (nv (ab x)) 2 1 2,.v (qP d 1),.o (nv (ab y)) 1 1 2] (aq 27 a (E9 (ab x) (ab y) oM aM aM _ _ a.g) (fun _ _ a=>lL a [.c,.v (nv 0),.v qF] (lA 5 45 ([uV 0,eS]) a (fun z _ _ a=>lP 0 0 (nc 0) a (fun _ a=>lL a ac (aG (lL a ac (ag (cK (aa a [.v (qP d 1),.o (nv (ab y)) 2 1 2,.v (qP e 1),.o (nv (ab x)) 3 1 2] (aq 40 a (Ep (ab y) (ab x) oM aM aM _ _ a.g) (fun _ _ a=>lL a [.c,.v (nv ((ab y)-(ab x))),.v qT] (lA 7 45 ([uV 0,eS]) a (fun p _ _ a=>lP 0 0 (nc ((ab y)-(ab x))) a (fun _ a=>lL a ac (aG (lL a [.v (pB d),.o qF 3 0 1,.o (nv ((ab y)-(ab x))) 0 0 2] (aq 46 a (gf false ((ab y)-(ab x)) (by first|assumption|exact av (MJ _ _) aM) _ _ a.g) (fun _ _ a=>lP 2 0 (ic (bA false ((ab y)-(ab x)))) a (fun _ a=>ae a [(2,0,3)] (iv (bA false ((ab y)-(ab x)))) (congrArg iv (by unfold bA ab at *;simp;omega))))))))))))))))))))))))))))))))
theorem GQ (x y:Int)(f:(wds (ab x)).length<=1000000000)(u:(wds (ab y)).length<=1000000000)(i:(wds (ab x+ab y)).length<=1000000000)(p:af x=true)(e:af y=true)(w:World)(h:Hp)(g:G w h):CV 297 #[wX (.bool true) (ab x),wX (.bool true) (ab y)] w h (iv (x+y)):=by
 have a:=sS g;have j:=bp p;have l:=bp e;refine go Tryz.func297 [(0,wX qT (ab x)),(1,wX qT (ab y))] rfl (aD (lA 2 47 (wC qT (ab x)) a (fun c w2 B a=>lA 3 47 (wC qT (ab y)) a (fun d F z a=>lA 4 47 ([qF,uV 0,eS]) a (fun D H C a=>ah (aa a [.v (pB c),.o qT 2 0 1,.v (pB d),.o qT 1 0 1,.v qT] (ak (cQ (cR 8 [] mixed a ar ?_)))))))));exact eV 0 14 (pB c) (eO 1 15 [(2,0,1)] qT a (eV 2 16 (qP c 1) (eO 3 17 [(2,1,2)] (nv (ab x)) a (eV 4 18 (qP d 1) (eO 5 19 [(1,1,2)] (nv (ab y)) a (au 6 20 a (fun _ _ a=>IN (ab x) (ab y) aM aM _ _ a.g) (fun _ _ a=>au 7 21 a (fun _ _ a=>gf true ((ab x)+(ab y)) (by first|assumption|exact av (MJ _ _) aM) _ _ a.g) (fun _ _ a=>bS a (fun _ _ a=>tP 8 0 0 (ic (bA true ((ab x)+(ab y)))) a (fun _ a=>tN (kX (a.ret [(0,0,3)] (iv (bA true ((ab x)+(ab y)))) (congrArg iv (by unfold bA ab at *;simp;omega))))))))))))))
theorem GY (x y:Int)(i:(wds (ab x)).length<=1000000000)(p:(wds (ab y)).length<=1000000000)(j:(wds (ab x*ab y)).length<=1000000000)(f:af x=false)(c:af y=false)(w:World)(h:Hp)(g:G w h):CV 174 #[wX (.bool false) (ab x),wX (.bool false) (ab y)] w h (iv (x*y)):=by
 have a:=sS g;have l:=bc f;have o:=bc c;refine go Tryz.func174 [(0,wX qF (ab x)),(1,wX qF (ab y))] rfl (aD (lA 2 47 (wC qF (ab x)) a (fun d w2 z a=>lA 3 47 (wC qF (ab y)) a (fun e D u a=>lA 4 47 ([qF,uV 0,eS]) a (fun C F B a=>ah (cR 11 [] mixed a ar ?_))))));exact eV 0 5 (pB d) (eO 1 6 [(2,0,1)] qF a (eV 2 7 (pB e) (eO 3 8 [(1,0,1)] qF a (eV 4 9 qF (eV 5 10 (qP d 1) (eO 6 11 [(2,1,2)] (nv (ab x)) a (eV 7 12 (qP e 1) (eO 8 13 [(1,1,2)] (nv (ab y)) a (au 9 14 a (fun _ _ a=>pP (ab x) (ab y) aM aM _ _ a.g) (fun _ _ a=>au 10 15 a (fun _ _ a=>gf false ((ab x)*(ab y)) aM _ _ a.g) (fun _ _ a=>bS a (fun _ _ a=>tP 11 0 0 (ic (bA false ((ab x)*(ab y)))) a (fun _ a=>tN (kX (a.ret [(0,0,3)] (iv (bA false ((ab x)*(ab y)))) (by rw[<-ne x y,f,c];rfl))))))))))))))))
theorem Hq (x y:Int)(i:(wds (ab x)).length<=1000000000)(p:(wds (ab y)).length<=1000000000)(j:(wds (ab x*ab y)).length<=1000000000)(f:af x=false)(c:af y=true)(w:World)(h:Hp)(g:G w h):CV 174 #[wX (.bool false) (ab x),wX (.bool true) (ab y)] w h (iv (x*y)):=by
 have a:=sS g;have l:=bc f;have o:=bp c;refine go Tryz.func174 [(0,wX qF (ab x)),(1,wX qT (ab y))] rfl (aD (lA 2 47 (wC qF (ab x)) a (fun d w2 z a=>lA 3 47 (wC qT (ab y)) a (fun e D u a=>lA 4 47 ([qF,uV 0,eS]) a (fun C F B a=>ah (cR 11 [] mixed a ar ?_))))));exact eV 0 5 (pB d) (eO 1 6 [(2,0,1)] qF a (eV 2 7 (pB e) (eO 3 8 [(1,0,1)] qT a (eV 4 9 qT (eV 5 10 (qP d 1) (eO 6 11 [(2,1,2)] (nv (ab x)) a (eV 7 12 (qP e 1) (eO 8 13 [(1,1,2)] (nv (ab y)) a (au 9 14 a (fun _ _ a=>pP (ab x) (ab y) aM aM _ _ a.g) (fun _ _ a=>au 10 15 a (fun _ _ a=>gf true ((ab x)*(ab y)) aM _ _ a.g) (fun _ _ a=>bS a (fun _ _ a=>tP 11 0 0 (ic (bA true ((ab x)*(ab y)))) a (fun _ a=>tN (kX (a.ret [(0,0,3)] (iv (bA true ((ab x)*(ab y)))) (by rw[<-ne x y,f,c];rfl))))))))))))))))
theorem GV (x y:Int)(i:(wds (ab x)).length<=1000000000)(p:(wds (ab y)).length<=1000000000)(j:(wds (ab x*ab y)).length<=1000000000)(f:af x=true)(c:af y=false)(w:World)(h:Hp)(g:G w h):CV 174 #[wX (.bool true) (ab x),wX (.bool false) (ab y)] w h (iv (x*y)):=by
 have a:=sS g;have l:=bp f;have o:=bc c;refine go Tryz.func174 [(0,wX qT (ab x)),(1,wX qF (ab y))] rfl (aD (lA 2 47 (wC qT (ab x)) a (fun d w2 z a=>lA 3 47 (wC qF (ab y)) a (fun e D u a=>lA 4 47 ([qF,uV 0,eS]) a (fun C F B a=>ah (cR 11 [] mixed a ar ?_))))));exact eV 0 5 (pB d) (eO 1 6 [(2,0,1)] qT a (eV 2 7 (pB e) (eO 3 8 [(1,0,1)] qF a (eV 4 9 qT (eV 5 10 (qP d 1) (eO 6 11 [(2,1,2)] (nv (ab x)) a (eV 7 12 (qP e 1) (eO 8 13 [(1,1,2)] (nv (ab y)) a (au 9 14 a (fun _ _ a=>pP (ab x) (ab y) aM aM _ _ a.g) (fun _ _ a=>au 10 15 a (fun _ _ a=>gf true ((ab x)*(ab y)) aM _ _ a.g) (fun _ _ a=>bS a (fun _ _ a=>tP 11 0 0 (ic (bA true ((ab x)*(ab y)))) a (fun _ a=>tN (kX (a.ret [(0,0,3)] (iv (bA true ((ab x)*(ab y)))) (by rw[<-ne x y,f,c];rfl))))))))))))))))
theorem Hn (x y:Int)(i:(wds (ab x)).length<=1000000000)(p:(wds (ab y)).length<=1000000000)(j:(wds (ab x*ab y)).length<=1000000000)(f:af x=true)(c:af y=true)(w:World)(h:Hp)(g:G w h):CV 174 #[wX (.bool true) (ab x),wX (.bool true) (ab y)] w h (iv (x*y)):=by
 have a:=sS g;have l:=bp f;have o:=bp c;refine go Tryz.func174 [(0,wX qT (ab x)),(1,wX qT (ab y))] rfl (aD (lA 2 47 (wC qT (ab x)) a (fun d w2 z a=>lA 3 47 (wC qT (ab y)) a (fun e D u a=>lA 4 47 ([qF,uV 0,eS]) a (fun C F B a=>ah (cR 11 [] mixed a ar ?_))))));exact eV 0 5 (pB d) (eO 1 6 [(2,0,1)] qT a (eV 2 7 (pB e) (eO 3 8 [(1,0,1)] qT a (eV 4 9 qF (eV 5 10 (qP d 1) (eO 6 11 [(2,1,2)] (nv (ab x)) a (eV 7 12 (qP e 1) (eO 8 13 [(1,1,2)] (nv (ab y)) a (au 9 14 a (fun _ _ a=>pP (ab x) (ab y) aM aM _ _ a.g) (fun _ _ a=>au 10 15 a (fun _ _ a=>gf false ((ab x)*(ab y)) aM _ _ a.g) (fun _ _ a=>bS a (fun _ _ a=>tP 11 0 0 (ic (bA false ((ab x)*(ab y)))) a (fun _ a=>tN (kX (a.ret [(0,0,3)] (iv (bA false ((ab x)*(ab y)))) (by rw[<-ne x y,f,c];rfl))))))))))))))))
theorem IJ (x y:Int)(c:(wds (ab x)).length+(wds (ab y)).length<=999999999)(w:World)(h:Hp)(g:G w h):CV 297 #[iv x,iv y] w h (iv (x+y)):=by
 have a:(wds (ab x+ab y)).length<=1000000000:=eb kJ oM
 rcases hx:af x with _|_<;>rcases hy:af y with _|_<;>rw[jP hx,jP hy]
 ·exact FK x y oM oM a hx hy w h g
 ·rcases cD (ab x) (ab y) with hc|hc
  ·exact EK x y oM oM a hx hy hc w h g
  ·exact Cz x y oM oM a hx hy hc w h g
 ·rcases cD (ab x) (ab y) with hc|hc
  ·exact D3 x y oM oM a hx hy hc w h g
  ·exact Di x y oM oM a hx hy hc w h g
 ·exact GQ x y oM oM a hx hy w h g
theorem EJ (x y:Int)(c:(wds (ab x)).length+(wds (ab y)).length<=1000000000)(w:World)(h:Hp)(g:G w h):CV 174 #[iv x,iv y] w h (iv (x*y)):=by
 have a:(wds (ab x*ab y)).length<=1000000000:=eb dB oM
 rcases hx:af x with _|_<;>rcases hy:af y with _|_<;>rw[jP hx,jP hy]
 ·exact GY x y oM oM a hx hy w h g
 ·exact Hq x y oM oM a hx hy w h g
 ·exact GV x y oM oM a hx hy w h g
 ·exact Hn x y oM oM a hx hy w h g
theorem wF (n:Nat)(Y:(wds n).length<=1000000000)(w:World)(h:Hp)(g:G w h):CR 140 #[nv n] w h (fun v h1=>∃ A,v=.slice A ((nb n+7)/8) ((nb n+7)/8)/\SlO 1 nq 0 h1 A (fZ n ((nb n+7)/8))):=by
 have c:=sS g;have hnb:=mU n;have Z:=mn n;refine go Tryz.func140 [(0,nv n)] rfl (aD (lA 1 45 (nc n) c (fun F w2 h3 c=>lL c ac (aG (lL c [.o (nv n) 0 0 2] (aq 8 c (f0 n Y _ _ c.g) (fun w4 h5 c=>bv 9 ((nb n:Nat)+7) ((nb n)+7) (lV 10 (nV (((nb n)+7)/8)) ?_ (hr:=aI (dD (t:=3) (u:=3) (x:=.tmp 9) (y:=.const (iV 8)) (k:=.i64) (a:=(((nb n)+7:Nat):Int)) (b:=(8:Int)) kR kR kR oM _) (dI ((nb n)+7) 8 oM))))))))));refine lL c ac (aG (lL c ac (lK 12 5 (((nb n)+7)/8:Nat) 1 1 (.int .u8 0) nq 0 c (fun p w7 h8 c=>?_))));have J:(zZ (((nb n)+7)/8:Nat) 0).length=(((nb n)+7)/8:Nat):=by simp
 refine lL c ac (aG (lL c [.o (nv n) 1 0 2] (lC 14 c (gx n oM _ _ c.g) ?_)));rintro _ _ zd c ⟨z,C,rfl,O,H⟩;replace c:=c.aS H;refine lL c ac (ah (aa c ax (aZ ?_)));refine bH _ (CG.loop (fun I Γ X=>∃ (i:Nat)(l:List Nat)(K:Hp),I=((nb n+7)/8)-i/\Γ=[(2,sZ),(3,nV (((nb n)+7)/8)),(4,qS (sB p) (((nb n)+7)/8:Nat) (((nb n)+7)/8:Nat)),(5,qS z ((wds n).length) C),(15,nV (((nb n)+7)/8)),(16,nV i)]/\SS w h X K [⟨p,5,(l).flatMap nq⟩,⟨F,45,nc n⟩] [] [fun K=>SlO 1 ao 0 K z (wds n)]/\i<=((nb n+7)/8)/\l.length=((nb n+7)/8)/\(∀ j,j<i->l.getD (((nb n+7)/8)-1-j) 0=n/256^j%256)) _ ⟨0,zZ (((nb n)+7)/8:Nat) 0,zd,rfl,rfl,c.to _ _,Mv _,J,(fun j U=>absurd U oM)⟩ ?_);rintro _ _ _ ⟨i,l,ze,Q,rfl,c,hi,e,V⟩;have W:=pe n (i/8);refine aD ?_;cases D:(decide ((i:Int)<((((nb n)+7)/8:Nat):Int)))
 .
  have zb:=oF D;refine lB 17 D (ah (dC (CG.exit ?_)))
  show CG _ _ _ _ _ _ _ _
  refine aa c ax (lN (kX ?_));have him:i=((nb n+7)/8):=by omega
  have L:l=fZ n ((nb n+7)/8):=rH e (fun j U=>V j oM);rw[L] at c
  obtain ⟨_,c,B,S,M⟩:=c.pub 0;replace c:=(c.to [⟨F,45,nc n⟩] []).aS (SlO.of_flat (sz:=1) (f:=nq) (d:=0) (b:=p) (o:=0) (l:=fZ n ((nb n+7)/8)) (fun _=>rfl) B);exact c.ret [] (qS (sB p) (((nb n)+7)/8:Nat) (((nb n)+7)/8:Nat)) (⟨sB p,rfl,c.f.1⟩)
 have zb:=oT D;refine lB 17 D (ah (cn (cK (cQ (kZ (aa c ax (lN (kQ (lL c ax (bv 21 ((((nb n)+7)/8:Nat)-1) ((((nb n)+7)/8:Nat)-1) ?_))))))))));refine lL c ac (bv 23 (((((nb n)+7)/8:Nat)-1:Nat)-(i:Nat)) (((((nb n)+7)/8:Nat)-1:Nat)-i) ?_);refine lL c ax (lV 26 (nV (i/8)) ?_ (hr:=aI (dD (t:=3) (u:=3) (x:=.tmp 25) (y:=.const (iV 8)) (k:=.i64) (a:=(i:Int)) (b:=(8:Int)) kR kR kR oM _) (dI i 8 oM)));refine lX 27 z ((wds n).length) C 1 (i/8:Nat) (i/8) ((c.f.1).ok oM) (lH 28 (mV ((wds n).getD (i/8) 0)) c ((c.f.1).el (i/8) oM) (lL c ac (lV 30 (nV (i%8)) ?_ (hr:=aI (fq (t:=3) (u:=3) (x:=.tmp 29) (y:=.const (iV 8)) (k:=.i64) (a:=(i:Int)) (b:=(8:Int)) kR kR kR oM _) (dk i 8)))));refine bv 31 (8*(i%8:Nat)) (8*(i%8)) (lV 32 (mV (((wds n).getD (i/8) 0)/2^(8*(i%8)))) ?_ (hr:=gF (t:=43) (u:=3) (x:=.tmp 28) (y:=.tmp 31) (ky:=.i64) (a:=((wds n).getD (i/8) 0)) (n:=(8*(i%8))) kR kR kR oM _));refine lV 33 (.int .u8 ((wds n).getD (i/8) 0/2^(8*(i%8))%256:Nat)) ?_ (hr:=aI (n:=IntKind.wrap .u8 (((wds n).getD (i/8) 0/2^(8*(i%8)):Nat):Int)) kR (Dq _));refine lX 34 (sB p) (((nb n)+7)/8:Nat) (((nb n)+7)/8:Nat) 1 (((((nb n)+7)/8:Nat)-1:Nat)-i:Nat) (((((nb n)+7)/8:Nat)-1:Nat)-i:Nat) rfl (lW 0 l nq 1 (((((nb n)+7)/8:Nat)-1:Nat)-i:Nat) ((wds n).getD (i/8) 0/2^(8*(i%8))%256:Nat) c oM (fun _ c=>?_));have zc:((l).set (((((nb n)+7)/8:Nat)-1:Nat)-i:Nat) ((wds n).getD (i/8) 0/2^(8*(i%8))%256:Nat)).length=(((nb n)+7)/8:Nat):=by rw[Md];exact e
 replace c:=c.to [⟨p,5,((l).set (((((nb n)+7)/8:Nat)-1:Nat)-i:Nat) ((wds n).getD (i/8) 0/2^(8*(i%8))%256:Nat)).flatMap nq⟩,⟨F,45,nc n⟩] [];refine lN (kQ (bv 35 ((i:Nat)+1) (i+1) ?_));refine lL c ac (lD ?_);intro a_ ka;refine ⟨_,_,?_,⟨i+1,(l).set (((((nb n)+7)/8:Nat)-1:Nat)-i:Nat) ((wds n).getD (i/8) 0/2^(8*(i%8))%256:Nat),ze,rfl,rfl,c.to _ _,oM,zc,(gy e oM V (wT n i))⟩,ka.to _ kR⟩
 omega
theorem wJ (n m:Nat)(A:Z9)(c:Nat)(hc:m<=c)(hm:m<=10000000000)(hn:n<256^m)(w:World)(h:Hp)(g:G w h)(Z:SlO 1 nq 0 h A (fZ n m)):CV 83 #[.slice A m c] w h (nv n):=by
 have e:=((sS g).aS Z);have Y:=j6 n m;refine go Tryz.func83 [(0,qS A m c)] rfl (aD (lA 2 45 ([uV 0,eS]) e (fun z w2 h3 e=>aG (lL e [.c,.v (nV m)] (bv 7 ((m:Nat)+7) (m+7) ?_)))));refine lV 8 (nV ((m+7)/8)) ?_ (hr:=aI (dD (t:=3) (u:=3) (x:=.tmp 7) (y:=.const (iV 8)) (k:=.i64) (a:=((m+7:Nat):Int)) (b:=(8:Int)) kR kR kR oM _) (dI (m+7) 8 oM));refine lK 9 43 ((m+7)/8) 1 8 (uV 0) ao 0 e (fun j w5 V e=>?_);have J:(zZ ((m+7)/8) 0).length=((m+7)/8):=by simp
 refine lL e ac (ah (aa e [.c,.v (nV m),.c] (aZ ?_)));refine bH _ (CG.loop (fun C Γ W=>∃ (i:Nat)(l:List Nat)(I:Hp),C=m-i/\Γ=[(0,qS A m c),(2,pB z),(3,qS (sB j) ((m+7)/8) ((m+7)/8)),(11,nV m),(12,nV i)]/\SS w h W I [⟨j,43,(l).flatMap ao⟩,⟨z,45,[uV 0,eS]⟩] [] [fun I=>SlO 1 nq 0 I A (fZ n m)]/\i<=m/\l.length=(m+7)/8/\Wd l/\aA l=n%256^i) _ ⟨0,zZ ((m+7)/8) 0,V,rfl,rfl,e.to _ _,Mv _,J,Wd.rep _,(by show ai _ _=_;rw[dJ,Mw,Nat.mod_one])⟩ ?_);rintro _ _ w8 ⟨i,l,h9,O,rfl,e,hi,D,L,inv⟩;have U:=kI n m (m-1-i);refine aD ?_;cases B:(decide ((i:Int)<(m:Int)))
 .
  have zb:=oF B;refine lB 13 B (ah (dC (CG.exit ?_)))
  show CG _ _ _ _ _ _ _ _
  refine aD ?_;have K:i=m:=by omega
  have X:aA l=n:=by rw[inv,K];exact z2 hn
  obtain ⟨_,e,p,S,Q⟩:=e.pub 0;replace e:=(e.to [⟨z,45,[uV 0,eS]⟩] []).aS (SlO.of_flat (sz:=1) (f:=ao) (d:=0) (b:=j) (o:=0) (l:=l) (fun _=>rfl) p);exact lL e ac (aq 37 e (dH (sB j) ((m+7)/8) (l) ((m+7)/8) (n) (by first|rfl|assumption|(simp;done)|(simp;omega)|omega) (L) (X) sM sM _ _ e.g e.f.1) (fun _ _ e=>lP 0 0 (nc n) e (fun _ e=>ae e [(0,0,2)] (nv n) rfl)))
 have zb:=oT B;refine lB 13 B (ah (cn (cK (cQ (kZ (aa e ax (lN (cR 19 [] mixed e ar ?_))))))));refine eV 0 15 (qS (sB j) ((m+7)/8) ((m+7)/8)) (eV 1 16 (nV i) (eV 2 17 (nV (i/8)) ?_ (hv:=fun _=>aI (dD (t:=3) (u:=3) (x:=.tmp 16) (y:=.const (iV 8)) (k:=.i64) (a:=(i:Int)) (b:=(8:Int)) kR kR kR oM _) (dI i 8 oM))));refine eX 3 18 (sB j) ((m+7)/8) ((m+7)/8) 1 (i/8:Nat) (i/8) rfl (eQ 4 19 0 l ao 1 0 (i/8) (mV ((l).getD (i/8) 0)) e oM (eV 5 20 (qS A m c) (eV 6 21 (qS A m c) (eV 7 22 (nV m) (j4 8 23 ((m:Nat)-1) (m-1) (eV 9 24 (nV i) (j4 10 25 ((m-1:Nat)-(i:Nat)) ((m-1)-i) (eX 11 26 A m c 1 ((m-1)-i:Nat) ((m-1)-i) ((e.f.1).ok oM) (eH 12 27 (.int .u8 ((fZ n m).getD ((m-1)-i) 0:Nat)) e ((e.f.1).el ((m-1)-i) oM) (eV 13 28 (mV ((fZ n m).getD ((m-1)-i) 0)) ?_ (hv:=fun _=>rU ((((fZ n m).getD ((m-1)-i) 0:Nat):Int)) kR (be oM oM))))))))))));refine eV 14 29 (nV i) (eV 15 30 (nV (i%8)) ?_ (hv:=fun _=>aI (fq (t:=3) (u:=3) (x:=.tmp 29) (y:=.const (iV 8)) (k:=.i64) (a:=(i:Int)) (b:=(8:Int)) kR kR kR oM _) (dk i 8)));refine j4 16 31 (8*(i%8:Nat)) (8*(i%8)) (eV 17 32 (mV (((fZ n m).getD ((m-1)-i) 0:Nat)*2^(8*(i%8))%18446744073709551616)) ?_ (hv:=fun _=>ig (t:=43) (u:=3) (x:=.tmp 28) (y:=.tmp 31) (ky:=.i64) (a:=((fZ n m).getD ((m-1)-i) 0:Nat)) (n:=(8*(i%8))) kR kR kR _));obtain ⟨H,F,M⟩:=tA oM inv (show (fZ n m).getD (m-1-i) 0=n/256^i%256 by rw[iz n m _ oM,show m-1-(m-1-i)=i by omega]);have hlg:=L.get (i/8);refine eV 18 33 (mV (l.getD (i/8) 0+(fZ n m).getD (m-1-i) 0*2^(8*(i%8)))) ?_ (hv:=fun _=>aI (ir (t:=43) (u:=43) (x:=.tmp 19) (y:=.tmp 32) (a:=((l).getD (i/8) 0)) (b:=(((fZ n m).getD ((m-1)-i) 0:Nat)*2^(8*(i%8))%18446744073709551616:Nat)) kR kR kR oM oM _) (by rw[H]));refine bS e (fun _ zd e=>tX 19 34 (sB j) ((m+7)/8) ((m+7)/8) 1 (i/8:Nat) (i/8) rfl (tW 20 0 l ao 1 (i/8) (l.getD (i/8) 0+(fZ n m).getD (m-1-i) 0*2^(8*(i%8)):Nat) e oM (fun _ e=>?_)));have zc:((l).set (i/8) (l.getD (i/8) 0+(fZ n m).getD (m-1-i) 0*2^(8*(i%8)):Nat)).length=((m+7)/8):=by rw[Md];exact D
 replace e:=e.to [⟨j,43,((l).set (i/8) (l.getD (i/8) 0+(fZ n m).getD (m-1-i) 0*2^(8*(i%8)):Nat)).flatMap ao⟩,⟨z,45,[uV 0,eS]⟩] [];refine tN (kQ (bv 35 ((i:Nat)+1) (i+1) ?_));refine lL e ac (lD ?_);intro a_ ka;refine ⟨_,_,?_,⟨i+1,(l).set (i/8) (l.getD (i/8) 0+(fZ n m).getD (m-1-i) 0*2^(8*(i%8)):Nat),zd,rfl,rfl,e.to _ _,oM,zc,(L.set _ F),M⟩,ka.to _ kR⟩
 omega
theorem Gm (n k:Nat)(B:(wds n).length<=1000000000)(hk:k<=65536)(w:World)(h:Hp)(g:G w h):CV 184 #[nv n,nV k] w h (nv (n*2^k)):=by
 have a:=sS g;refine go Tryz.func184 [(0,nv n),(1,nV k)] rfl (aD (lA 2 45 (nc n) a (fun I w2 J a=>lA 4 45 ([uV 0,eS]) a (fun L M H a=>aG (lL a ac (lV 6 (nV k) ?_ (hr:=aI (n:=if (65536:Int)<(k:Int) then (65536:Int) else (k:Int)) kR (if_neg oM))))))));refine lV 7 (nV k) ?_ (hr:=aI (n:=if (k:Int)>(-65536:Int) then (k:Int) else (-65536:Int)) kR (if_pos oM));refine lL a ac (ah (aa a ac ?_));have ⟨d,x⟩:=dF (p:=(k:Int)<(0:Int)) oM;refine lB 9 d (ag (cK (aa a [.o (nv n) 1 0 2] (lC 17 a (gx n oM _ _ a.g) ?_))));rintro _ O K a ⟨l,j,rfl,u,c⟩;replace a:=a.aS c;refine lL a ac (lC 19 a (Bl l j (wds n) (Wd.wds n) B k oM _ _ a.g a.f.1) ?_);rintro _ _ _ a ⟨y,F,z,rfl,C,D,i,e,hz⟩;replace a:=a.aS hz;exact aq 20 a (dH y F (z) z.length ((n*2^k)) (by first|rfl|assumption|(simp;done)|(simp;omega)|omega) (i) (by rw[e,ay]) sM sM _ _ a.g a.f.1) (fun _ _ a=>lP 0 0 (nc (n*2^k)) a (fun _ a=>ae a [(0,0,2)] (nv (n*2^k)) rfl))
section
variable {P:Program}{Γ:cl}{o:Oper}
theorem Jn {t e:TypeId}{x ix:Operand}{b off sz len:Nat}{i:Int}{kk:IntKind}(k:Nat)(j:o.op=.indexAddr t x ix)(p:ev Γ x=.pointer (some ⟨b,off,none⟩))(hi:ev Γ ix=.int kk i)
    (h:P.underlying t=some (.array len e))(c:(P.info? e).map (·.size)=some sz)(hk:i=k)(u:k<len)(w:World) :
    (execOp (ev Γ) o).run P w=.ok (.value (.pointer (some ⟨b,off+k*sz,none⟩))) w:=by
  subst hk
  unfold execOp
  simp only[j]
  rw[p,hi];have d:P.elem t=e:=by unfold Program.elem;rw[h]
  have f:P.arrayLen t=len:=by unfold Program.arrayLen;rw[h]
  have h1:=run_indexAt_array (P:=P) w t ⟨b,off,none⟩ kk (k:Int) (by rw[d,f];exact h);rw[f,if_pos ⟨by omega,by omega⟩,d] at h1
  have l:(sizeOf e).run P w=.ok sz w:=by
    cases a:P.info? e with
    | none=>rw[a] at c;cases c
    | some i =>
      rw[a] at c
      simp at c
      simp[sizeOf,typeInfo,a,c]
  rw[l] at h1
  simp[h1,Result.andThen,Addr.add]
end
def Tz (n k m:Nat):Prop:=n=2^k*m/\m%2=1
theorem HT {x:Nat}(h0:x≠0)(h:x<18446744073709551616):∃ m,Tz x (Lib.ctz 64 x) m/\Lib.ctz 64 x<64:=by
 unfold Lib.ctz
 rw[if_neg h0];obtain ⟨m,e,a⟩:=Lib.ctzFrom_spec 64 x oM h;exact ⟨2*m+1,⟨e,by omega⟩,a⟩
theorem Tz.odd_pos {n k m:Nat}(h:Tz n k m):0<m:=by have:=h.2;omega
theorem Tz.word {n i x k m r:Nat}(e:n=18446744073709551616^i*(x+18446744073709551616*r))(t:Tz x k m)(hk:k<64):Tz n (64*i+k) (m+2^(64-k)*r):=by
 obtain ⟨d,f⟩:=t;refine ⟨?_,?_⟩
 ·have a:(18446744073709551616:Nat)=2^k*2^(64-k):=by rw[<-Ly,show k+(64-k)=64 by omega]
  have c:(18446744073709551616:Nat)^i=2^(64*i):=by rw[LB]
  rw[e,c,d]
  conv=>lhs;rw[a]
  rw[Ly,Ln (2^k),<-Lm,<-Ln]
 ·obtain ⟨j,hj⟩:∃ j,64-k=j+1:=⟨63-k,by omega⟩
  rw[hj,HA,H1 (2^j) 2,Ln]
  omega
theorem Tz.uniq {n k m c f:Nat}(a:Tz n k m)(b:Tz n c f):k=c/\m=f:=by
 obtain ⟨j,x⟩:=a;obtain ⟨i,p⟩:=b
 have key:∀ {k m c f:Nat},2^k*m=2^c*f->m%2=1->c<=k:=fun {k m c f} e u=>by
  rcases cD k c with h|h
  ·exfalso
   obtain ⟨d,rfl⟩:∃ d,c=k+(d+1):=⟨c-k-1,by omega⟩;rw[Ly,Ln] at e
   have o:=MK (Lv k) e;rw[HA,H1 (2^d) 2,Ln] at o
   omega
  ·exact h
 have h1:=key (j.symm.trans i) x;have y:=key (i.symm.trans j) p;have l:k=c:=by omega
 subst l;exact ⟨rfl,MK (Lv k) (j.symm.trans i)⟩
theorem pi {x y:Nat}(c:y%2=1):My (2*x) y=My x y:=by
 have a:Nat.Coprime 2 y:=by
  unfold Nat.Coprime
  rw[Nat.gcd_rec,c];rfl
 exact a.gcd_mul_left_cancel x
theorem fK {x y:Nat}(a:y%2=1):∀ k,My (2^k*x) y=My x y
  | 0=>by simp
  | k+1=>by
    rw[HA,H1 (2^k) 2,Ln,pi a];exact fK a k
theorem xd {x y k l m n:Nat}(a:Tz x k m)(b:Tz y l n):My x y=My m n*2^min k l:=by
 obtain ⟨c,f⟩:=a;obtain ⟨e,i⟩:=b;subst c e
 rcases ML k l with h|h
 ·rw[Lq h]
  obtain ⟨d,rfl⟩:∃ d,l=k+d:=⟨l-k,by omega⟩;rw[Ly,Ln,MM,MA m,fK f,MA n,H1]
 ·rw[LS h]
  obtain ⟨d,rfl⟩:∃ d,k=l+d:=⟨k-l,by omega⟩;rw[Ly,Ln,MM,fK i,H1]
theorem ug {x y k m:Nat}(c:y<x)(a:y%2=1)(t:Tz (x-y) k m):My m y=My x y:=by
 rw[<-fK a k,<-t.1];have e:=Nat.gcd_add_self_left (m:=y) (n:=x-y);rw[show x-y+y=x by omega] at e
 exact e.symm
theorem SlO.win {α:Type}{f:α->List Value}{d:α}{h:Hp}{b:Nat}{l:List α}(hf:∀ x,(f x).length=1)(c:Seg h b 0 (l.flatMap f))(o n:Nat):SlO 1 f d h (some ⟨b,o,none⟩) ((l.drop o).take n):=by
  have a:=c.part o ((l.drop o).take n).length;rw[y9] at a
  have e:∀ (l:List α) (o n:Nat),((l.flatMap f).drop o).take ((l.drop o).take n).length=((l.drop o).take n).flatMap f:=by
    have j:∀ (l:List α),(l.flatMap f).length=l.length:=fun l=>by
      induction l with
      | nil=>rfl
      | cons x l ih=>rw[wj,List.length_append,hf,ih,List.length_cons];omega
    have i:∀ (l:List α) (o:Nat),(l.flatMap f).drop o=(l.drop o).flatMap f:=fun l=>by
      induction l with
      | nil=>intro o;simp
      | cons x l ih =>
        intro o;cases o with
        | zero=>rfl
        | succ o =>
          rw[wj,List.drop_append,hf,Mm (by rw[hf];omega),List.nil_append,List.drop_succ_cons,L5];exact ih o
    have et:∀ (l:List α) (n:Nat),(l.flatMap f).take n=(l.take n).flatMap f:=fun l=>by
      induction l with
      | nil=>intro n;simp
      | cons x l ih =>
        intro n;cases n with
        | zero=>rfl
        | succ n =>
          rw[wj,List.take_append,hf,LO (by rw[hf];omega),List.take_succ_cons,wj,L5,ih n]
    intro l o n;rw[i,et,Lp]
    congr 1
    rcases ML n (l.drop o).length with h|h
    . rw[Lq h]
    . rw[LS h,yY,LO h]
  rw[e] at a
  exact SlO.of_flat hf a
def Tab (h:Hp):Prop:=Seg h 2 0 (Lib.deBruijn64tab.map fun k=>Value.int .u8 ((k:Nat):Int))
theorem Tab.gw {h a:Hp}(t:Tab h)(u:Gw h a):Tab a:=Seg.gw t u
theorem SS.aWt {w0 w:World}{h0 h:Hp}{B:List Bx}{R:List Rw}{F:List (Hp->Prop)}(s:SS w0 h0 w h B R F)(p:Tab h):SS w0 h0 w h B R ((fun h=>Tab h)::F):=s.add (K:=fun h=>Tab h) p
theorem Tab.at {h:Hp}(t:Tab h){k i:Nat}(e:i<64/\Lib.deBruijn64tab.getD i 0=k):Seg h 2 i [.int .u8 ((k:Nat):Int)]:=by
 have a:=Seg.part t i 1;obtain ⟨hi,rfl⟩:=e;rw[y9] at a
 have c:i<Lib.deBruijn64tab.length:=by show i<64;exact hi
 have d:((Lib.deBruijn64tab.map fun k=>Value.int .u8 ((k:Nat):Int)).drop i).take 1=[.int .u8 ((Lib.deBruijn64tab.getD i 0:Nat):Int)]:=by
  rw[List.drop_eq_getElem_cons (by simpa using c)]
  simp[c]
 rw[d] at a
 exact a
theorem J2 {s:Result Next}{b z:Nat}{w:World}(h:s=.ok (.value (.pointer (some ⟨b,0+z*1,none⟩))) w):s=.ok (.value (.pointer (some ⟨b,z,none⟩))) w:=by rw[h,LL,y9]
theorem AW {l:List Nat}(a:Wd l)(d:l.length<=(wds (aA l)).length):wds (aA l)=l:=by
 have e:=ox a;have h1:(wds (aA l)).length=min (tl l l.length) l.length:=by rw[e,Lp]
 have c:=iq l l.length;rw[e,LO oM]
theorem Kk {l:List Nat}(a:Wd l):aA l<256^(8*l.length):=by
 have:=bL a;rw[LB];exact this
theorem GC {a b:Nat}(h:wds a=wds b):a=b:=by rw[<-ay a,<-ay b,h]
theorem wU {l:List Nat}{i:Nat}(h:i<l.length)(h0:l.getD i 0=0){n:Nat}(inv:n=18446744073709551616^i*ai 18446744073709551616 (l.drop i)):n=18446744073709551616^(i+1)*ai 18446744073709551616 (l.drop (i+1)):=by
 rw[inv,fX _ h,h0,y9,HA,Ln]
theorem Ik (x:Nat)(o:x≠0)(C:x<18446744073709551616)(w:World)(h:Hp)(g:G w h)(F:Tab h):CV 209 #[mV x] w h (nV (Lib.ctz 64 x)):=by
 have d:=((sS g).add (K:=fun D=>Tab D) F);obtain ⟨j,hk⟩:=Lib.lowest_bit 64 x o C;have c:=Lib.deBruijn64_at _ hk
 generalize Lib.ctz 64 x=k at *
 generalize hp:2^k=p at *
 obtain ⟨y,hy⟩:∃ y,p*285870213051353865%18446744073709551616=y:=⟨_,rfl⟩;rw[hy] at c
 obtain ⟨z,hz⟩:∃ z,y/288230376151711744=z:=⟨_,rfl⟩;rw[hz] at c
 refine go Tryz.func209 [(0,mV x)] rfl (aa d ac (ah (aa d ac ?_)));have l:((x:Int) == (0:Int))=false:=fh oM;have B:=aj l;refine lB 4 l (ag (cK (aa d ax (lV 7 (mV (18446744073709551616-x)) ?_ (hr:=rU ((0-(x:Int))) kR (by rw[IntKind.wrap_u64];omega))))));refine lV 8 (mV p) ?_ (hr:=aI (n:=bits .and .u64 (x:Int) ((18446744073709551616-x:Nat):Int)) kR (by rw[bits_and_u64_nat _ _ C oM];exact congrArg _ j));refine lV 9 (mV y) ?_ (hr:=rU (((p:Int)*285870213051353865)) kR ((jW p 285870213051353865).trans (congrArg _ hy)));refine lV 10 (mV z) ?_ (hr:=aI (gF (t:=43) (u:=140) (x:=.tmp 9) (y:=.const (uV 58)) (ky:=.u64) (a:=y) (n:=58) kR kR kR oM _) (congrArg _ (by rw[show (2:Nat)^58=288230376151711744 from rfl];exact hz)));refine lV 11 (qP 2 z) ?_ (hr:=J2 (Jn (t:=280) (e:=5) (x:=.global 2) (ix:=.tmp 10) (b:=2) (off:=0) (sz:=1) (len:=64) (kk:=.u64) (i:=(z:Int)) z kR kR kR kR kR rfl c.1 _));refine lH 12 (.int .u8 (k:Int)) d (Tab.at d.f.1 c) (lV 13 (nV k) ?_ (hr:=rS ((k:Int)) kR (pm oM oM)));exact lL d ac (ae d [] (nV k) rfl)
theorem ru (A:Z9)(c:Nat)(l:List Nat)(n:Nat)(hn:l.length=n)(z:Wd l)(L:0<aA l)(M:l.length<=1000000000)(w:World)(h:Hp)(g:G w h)(D:Tab h)(H:SlO 1 ao 0 h A l):CR 179 #[.slice A n c] w h (fun v _=>∃ k m:Nat,v=nV k/\Tz (aA l) k m/\k/64<l.length):=by
 have a:=(((sS g).add (K:=fun d=>Tab d) D).aS H);refine go Tryz.func179 [(0,qS A n c)] rfl (aa a ac (aG (lL a ac (ah (kZ ?_)))));refine bH _ (CG.loop (fun u Γ C=>∃ (i:Nat)(d:Hp),u=l.length-i/\Γ=[(0,qS A n c),(2,iV 0),(3,nV i)]/\SS w h C d [] [] [fun d=>SlO 1 ao 0 d A l,fun d=>Tab d]/\i<=l.length/\aA l=18446744073709551616^i*ai 18446744073709551616 (l.drop i)) _ ⟨0,h,rfl,rfl,a.to _ _,Mv _,(by show ai _ _=_;rw[Mw,LP,yy])⟩ ?_);rintro _ _ w1 ⟨i,F,B,rfl,a,hi,inv⟩;have j:i<l.length:=by rcases cD i l.length with d|d;exact d;rw[Mm d] at inv;simp[ai] at inv;omega
 refine cQ (aa a ax (lX 6 A n c 1 (i:Nat) i ((a.f.1).ok oM) ?_));refine lH 7 (mV (l.getD i 0)) a ((a.f.1).el i oM) ?_;cases e:(((l.getD i 0:Nat):Int) == (0:Int))
 .
  have p:=aj e;refine lB 8 e (ag (CG.exit ?_))
  show CG _ _ _ _ _ _ _ _
  refine aa a ac (lI 12 (64*(i:Nat)) ?_);refine lL a ax (lX 15 A n c 1 (i:Nat) i ((a.f.1).ok oM) ?_);refine lH 16 (mV (l.getD i 0)) a ((a.f.1).el i oM) (aq 17 a (Ik (l.getD i 0) oM (z.get i) _ _ a.g a.f.2.1) (fun S J a=>?_));obtain ⟨O,y,o⟩:=HT (x:=l.getD i 0) oM (z.get i);exact lI 18 ((64*(i:Nat))+(Lib.ctz 64 (l.getD i 0):Nat)) (lL a ac (ae a [] (iV ((64*(i:Nat))+(Lib.ctz 64 (l.getD i 0):Nat))) (⟨_,_,rfl,Tz.word (by rw[inv,fX _ j]) y o,by omega⟩)))
 have p:=eq_of_beq e;refine lB 8 e (ak (cK (kZ (kQ (lL a ac (bv 10 ((i:Nat)+1) (i+1) ?_))))));refine lL a ac (lD ?_);intro Q I;refine ⟨_,_,?_,⟨i+1,F,rfl,rfl,a.to _ _,oM,(wU j oM inv)⟩,I.to _ kR⟩
 omega
theorem E6 (A:Z9)(c:Nat)(l:List Nat)(n:Nat)(hn:l.length=n)(D:l.length<=1099511627776)(F:l.length<=c)(w:World)(h:Hp)(g:G w h)(B:SlO 1 ao 0 h A l):CV 210 #[.slice A n c] w h (.slice A (tl l n) c):=by
 have a:=((sS g).aS B);refine go Tryz.func210 [(0,qS A n c)] rfl (aa a ac (ah (kZ ?_)));refine bH _ (CG.loop (fun o Γ y=>∃ (m:Nat)(u:Hp),o=m/\Γ=[(2,sZ),(0,qS A m c)]/\SS w h y u [] [] [fun u=>SlO 1 ao 0 u A l]/\m<=n/\tl l n=tl l m) _ ⟨n,h,rfl,rfl,a.to _ _,nR _,rfl⟩ ?_);rintro _ _ w1 ⟨m,z,x,rfl,a,H,p⟩;refine cQ (aa a [.c,.v (nV m)] ?_);cases d:(decide ((0:Int)<(m:Int)))
 .
  have i:=oF d;refine lB 5 d (lL a ac (lG 7 ?_));refine lG 8 (lG 9 (lG 10 (lG 11 (lG 12 (lG 13 (lL a [.v qF] (ag (CG.exit ?_))))))))
  show CG _ _ _ _ _ _ _ _
  exact aa a ax (ae a [] (qS A m c) (by rw[p,og oM]))
 have i:=oT d;refine lB 5 d (lL a [.c,.c,.c,.v (nV m)] (bv 10 ((m:Nat)-1) (m-1) ?_));refine lX 11 A m c 1 (m-1:Nat) (m-1) ((a.f.1).ok oM) (lH 12 (mV (l.getD (m-1) 0)) a ((a.f.1).el (m-1) oM) ?_);cases e:(((l.getD (m-1) 0:Nat):Int) == (0:Int))
 .
  have j:=aj e;refine lB 13 e (lL a [.v qF] (ag (CG.exit ?_)))
  show CG _ _ _ _ _ _ _ _
  exact aa a ax (ae a [] (qS A m c) (by rw[p,og oM]))
 have j:=eq_of_beq e;refine lB 13 e (lL a [.v qT] (ak (cK (kZ (kQ (lL a [.c,.c,.v (nV m)] (bv 18 ((m:Nat)-1) (m-1) ?_)))))));refine lT 19 A m c 1 (m-1:Nat) (m-1) (lL a ac (lD ?_));intro I C;refine ⟨_,_,?_,⟨m-1,z,rfl,rfl,a.to _ _,oM,(by rw[p];exact BW oM oM)⟩,C.to _ kR⟩
 omega
theorem wx (A:Z9)(c:Nat)(D:Z9)(d:Nat)(x y n i:Nat)(hn:(wds x).length=n)(V:(wds y).length=i)(M:(wds x).length<=1000000000)(W:(wds y).length<=1000000000)(w:World)(h:Hp)(g:G w h)(O:SlO 1 ao 0 h A (wds x))(K:SlO 1 ao 0 h D (wds y)):CV 181 #[.slice A n c,.slice D i d] w h (iV (bV x y)):=by
 have a:=(((sS g).aS O).aS K);refine go Tryz.func181 [(0,qS A n c),(1,qS D i d)] rfl (aa a ac (ah (aa a [.c,.v (nV n),.c,.v (nV i)] ?_)));cases o:((n:Int) != (i:Int))
 .
  have u:=aW o;refine lB 10 o (ag (cK (cQ (aa a [.c,.v (nV n)] (lV 18 (iV ((n:Int)-1)) ?_ (hr:=rS (((n:Nat)-1)) kR ((gH oM oM).trans oM)))))));refine lL a ac (aZ ?_);refine bH _ (CG.loop (fun I Γ L=>∃ (m:Nat)(B:Hp),I=m/\Γ=[(0,qS A n c),(1,qS D i d),(5,iV ((m:Int)-1))]/\SS w h L B [] [] [fun B=>SlO 1 ao 0 B D (wds y),fun B=>SlO 1 ao 0 B A (wds x)]/\m<=n/\(wds x).length=(wds y).length/\(wds x).drop m=(wds y).drop m) _ ⟨n,h,rfl,rfl,a.to _ _,nR _,oM,(by rw[Mm oM,Mm oM])⟩ ?_);rintro _ _ w2 ⟨m,Y,Q,rfl,a,Z,e,j⟩;refine cQ (aa a ac ?_);cases l:(decide ((0:Int)<=((m:Int)-1:Int)))
  .
   have C:=oF l;refine lB 20 l (ag (CG.exit ?_))
   show CG _ _ _ _ _ _ _ _
   exact aa a ac (ae a [] (iV 0) (by rw[i7 (GC (by rw[show m=0 by omega] at j;simpa using j))]))
  have C:=oT l;refine lB 20 l (ak (cK (cQ (kZ (cQ (cR 9 [] mixed a ar ?_))))));refine eV 0 23 (qS A n c) (eV 1 24 (iV ((m:Int)-1)) (eX 2 25 A n c 1 ((m:Int)-1) (m-1) ((a.f.2.1).ok oM) (eH 3 26 (mV ((wds x).getD (m-1) 0)) a ((a.f.2.1).el (m-1) oM) (eV 4 27 (qS D i d) (eV 5 28 (iV ((m:Int)-1)) (eX 6 29 D i d 1 ((m:Int)-1) (m-1) ((a.f.1).ok oM) (eH 7 30 (mV ((wds y).getD (m-1) 0)) a ((a.f.1).el (m-1) oM) ?_)))))));cases p:((((wds x).getD (m-1) 0:Nat):Int) != (((wds y).getD (m-1) 0:Nat):Int))
  .
   have z:=aW p;refine eB 8 31 p (bS a (fun w7 J a=>tN (dC (cK (kQ (lL a ac (lV 22 (iV (((m-1:Nat):Int)-1)) ?_ (hr:=rS ((((m:Int)-1)-1)) kR ((gH oM oM).trans oM)))))))));refine lL a ac (lD ?_);intro a_ S;refine ⟨_,_,?_,⟨m-1,J,rfl,rfl,a.to _ _,oM,e,(fO (k:=m-1) e oM (by rw[show m-1+1=m by omega];exact j) oM)⟩,S.to _ kR⟩
   omega
  have z:=aK p;refine eB 8 31 p (bS a (fun _ _ a=>tN (cn (cQ (cQ (cR 9 [] mixed a ar ?_))))));refine eV 0 32 (qS A n c) (eV 1 33 (iV ((m:Int)-1)) (eX 2 34 A n c 1 ((m:Int)-1) (m-1) ((a.f.2.1).ok oM) (eH 3 35 (mV ((wds x).getD (m-1) 0)) a ((a.f.2.1).el (m-1) oM) (eV 4 36 (qS D i d) (eV 5 37 (iV ((m:Int)-1)) (eX 6 38 D i d 1 ((m:Int)-1) (m-1) ((a.f.1).ok oM) (eH 7 39 (mV ((wds y).getD (m-1) 0)) a ((a.f.1).el (m-1) oM) ?_)))))));cases F:(decide ((((wds x).getD (m-1) 0:Nat):Int)<(((wds y).getD (m-1) 0:Nat):Int)))
  .
   have U:=oF F;exact eB 8 40 F (bS a (fun _ _ a=>tN (dC (cK (aa a ac (ae a [] (iV 1) (by rw[<-lk (k:=m-1) e oM (by rw[show m-1+1=m by omega];exact j) oM,fR oM])))))))
  have U:=oT F;exact eB 8 40 F (bS a (fun _ _ a=>tN (cn (aa a ac (ae a [] (iV (-1)) (by rw[<-lk (k:=m-1) e oM (by rw[show m-1+1=m by omega];exact j) oM,d9 oM]))))))
 have u:=aK o;refine lB 10 o (ak (cQ (aa a [.c,.v (nV n),.c,.v (nV i)] ?_)));cases H:(decide ((n:Int)<(i:Int)))
 .
  have X:=oF H;exact lB 15 H (ag (cK (aa a ac (ae a [] (iV 1) (by rw[fR (gu oM)])))))
 have X:=oT H;exact lB 15 H (ak (aa a ac (ae a [] (iV (-1)) (by rw[d9 (gu oM)]))))
end Go.Proofs.YtlidpooijdogdaaGreatDoor
