/- Laws and contracts that the card of this claim stands on, part 3. No condition of ours. -/
import Derived.Test.YtnflfcbfifhpaaaGreatDoorPz0
import Derived.Test.YtnflfcbfifhpaaaGreatDoorPz1
set_option maxRecDepth 100000
set_option maxHeartbeats 4000000
open Go.IntKind renaming wrap → JJ, wrap_u64 → JP
open Int renaming eq_ofNat_of_zero_le → Lh, mul_neg → Li, neg_mul → Lj, neg_neg → Lk
open List renaming drop_eq_nil_of_le → KY, length_drop → Kx, length_set → KP, length_take → J4, mem_cons → g7, mem_cons_of_mem → Lg, mem_cons_self → Lf, mem_singleton → pa, replicate → Am, set_set → Lc, take_length → zy, take_of_length_le → Ks
open Nat renaming add_mul → Kr, add_zero → y8, div_add_mod → Ku, div_eq_of_lt → JW, div_le_self → JT, div_mul_le_self → KE, eq_zero_or_pos → HA, le_of_eq → Le, le_trans → ez, lt_of_lt_of_le → e6, lt_or_ge → ep, min_eq_left → J5, mod_eq_of_lt → AS, mod_lt → A4, mul_add → J1, mul_assoc → J2, mul_comm → JZ, mul_le_mul_left → Ke, mul_le_mul_right → z7, mul_lt_mul_of_pos_left → Ko, mul_lt_mul_of_pos_right → KK, mul_one → Kp, mul_zero → J6, one_mul → Kt, pow_add → Kd, pow_le_pow_right → Kb, pow_succ → JY, pow_zero → K8, sub_le → Ll, succ_pos → K9, two_pow_pos → Ka, zero_add → z6, zero_le → K7, zero_mul → zZ
namespace Go.Proofs.YtnflfcbfifhpaaaGreatDoor
open Go.RowKit
theorem Dk (A:Option Addr)(c:Nat)(l:List Nat)(F:l.length≤1099511627776)(C:l.length≤c)(w:World)(h:Hp)(g:G w h)(x:SlO 1 am 0 h A l):CV 175 #[.slice A l.length c] w h (.slice A (tl l l.length) c):=by
 have a:=((sS g).aS x);refine go Tryz.func175 [(0,qS A l.length c)] rfl (aa a [.v 2 (sZ)] (ah (kZ ?_)));refine bH _ (CG.loop (fun k Γ y=>∃ (m:Nat) (o:Hp),k=m∧Γ=[(2,sZ),(0,qS A m c)]∧SS w h y o [] [] [fun o=>SlO 1 am 0 o A l]∧m≤l.length∧tl l l.length=tl l m) _ ⟨l.length,h,rfl,rfl,a.to _ _,nR _,rfl⟩ ?_);rintro _ _ w1 ⟨m,p,z,rfl,a,D,j⟩;refine cQ (aa a [.m 3 0,.v 4 (nV m)] ?_);cases b:(decide ((0:Int)<(m:Int)))
 ·
  have e:=oF b;refine lB 5 b (lL a [.m 6 5] (lG 7 ?_));refine lG 8 (lG 9 (lG 10 (lG 11 (lG 12 (lG 13 (lL a [.v 14 qF] (af (CG.exit ?_))))))))
  show CG _ _ _ _ _ _ _ _
  exact aa a [.m 20 0,.m 2 20] (ac a [] (qS A m c) (by rw[j,mQ oM]))
 have e:=oT b;refine lB 5 b (lL a [.m 6 5,.m 7 0,.m 8 0,.v 9 (nV m)] (bD 10 ((m:Nat)-1) (m-1) ?_));refine lX 11 A m c 1 (m-1:Nat) (m-1) ((a.f.1).ok oM) (lH 12 (mV (l.getD (m-1) 0)) a ((a.f.1).el (m-1) oM) ?_);cases d:(((l.getD (m-1) 0:Nat):Int) == (0:Int))
 ·
  have i:=ae d;refine lB 13 d (lL a [.v 14 qF] (af (CG.exit ?_)))
  show CG _ _ _ _ _ _ _ _
  exact aa a [.m 20 0,.m 2 20] (ac a [] (qS A m c) (by rw[j,mQ oM]))
 have i:=ML d;refine lB 13 d (lL a [.v 14 qT] (ak (cK (kZ (kQ (lL a [.m 15 0,.m 16 0,.v 17 (nV m)] (bD 18 ((m:Nat)-1) (m-1) ?_)))))));refine lT 19 A m c 1 (m-1:Nat) (m-1) (lL a [.m 0 19] (lD ?_));intro B u;refine ⟨_,_,?_,⟨m-1,p,rfl,rfl,a.to _ _,oM,(by rw[j];exact wO oM oM)⟩,u.to _ kR⟩
 omega
theorem o9 {l m:List Nat}(b:l.length=m.length)(h:∀ j,j<l.length→l.getD j 0=m.getD j 0):l=m:=by
 apply List.ext_getElem b
 intro i h1 a;have:=h i h1
 simpa [h1,a] using this
theorem pF {l m:List Nat}{i x:Nat}(hi:i<l.length)(h:∀ j,j<i→l.getD j 0=m.getD j 0)(a:x=m.getD i 0):∀ j,j<i+1→(l.set i x).getD j 0=m.getD j 0:=fun j b=>by
 rw[bF hi]
 split
 ·rename_i e;rw[←e];exact a
 ·exact h j oM
def Ay (h h1:Hp)(v:Value)(l:List Nat):Prop:=∃ b,v=.slice (some ⟨b,0,none⟩) l.length l.length∧h.size≤b∧h1[b]?=some (.cells (l.flatMap am).toArray 34 (0,0))∧SlO 1 am 0 h1 (some ⟨b,0,none⟩) l
theorem jr  (w:World)(h:Hp)(g:G w h):CV 168 #[nv 0] w h sZ:=by
 have a:=sS g;exact go Tryz.func168 [(0,nv 0)] rfl (av (lA 1 36 ([uV 0,eS]) a (fun b w2 c a=>lL a [.v 2 (sZ)] (ah (aa a [.v 5 (qP b 1),.o 6 (eS) 0 1 1,.v 7 qT,.m 8 7,.v 9 (pB b),.o 10 (uV 0) 0 0 1,.v 11 qT,.v 12 qT] (ak (aa a [.v 2 (sZ)] (ac a [] (sZ) rfl))))))))
theorem gG (s:ByteArray)(k:Nat):(s.extract k s.size).size=s.size-k:=by
 simp[ByteArray.size_extract]
theorem oJ {n L:Nat}(a:0<L):∀ j,j<1→((Am L 0).set 0 (n%18446744073709551616)).getD j 0=(wds n).getD j 0:=fun j b=>by
 have:j=0:=by omega
 subst this;rw[bF (by simpa using a),MN rfl];have:=qD n
 unfold lo at this
 exact Int.ofNat.inj this
theorem BF (n:Nat)(O:0<n)(hl:(wds n).length≤1000000000)(z:n<18446744073709551616)(w:World)(h:Hp)(g:G w h):CR 168 #[nv n] w h (fun v h1=>Ay h h1 v (wds n)):=by
 have c:=sS g;have hz:=iu n;have hp:=kw.2 O;have W:=jo z;have L:=congrArg List.length (jO O z)
 simp only[List.length_singleton] at L
 refine go Tryz.func168 [(0,nv n)] rfl (av (lA 1 36 (nc n) c (fun e w2 h3 c=>lL c [.v 2 (sZ)] (ah (aa c [.v 5 (qP e 1),.o 6 (.string (hi n)) 0 1 1] (lV 7 qT ?_ (hr:=rb kR (iO (dX z)))))))));refine lL c [.m 8 7,.v 9 (pB e),.o 10 (mV (n%18446744073709551616)) 0 0 1] ?_;have B:(((n%18446744073709551616:Nat):Int) == (0:Int))=false:=bJ oM;have Q:=ae B;refine lB 11 B (lL c [.v 12 qF] (af (cK (aa c [.v 13 (qP e 1),.o 14 (.string (hi n)) 0 1 1,.v 15 (nV ((hi n).size))] (lV 16 (nV (((hi n).size)/8)) ?_ (hr:=aK (dl (t:=3) (u:=3) (x:=.tmp 15) (y:=.const (iV 8)) (k:=.i64) (a:=(((hi n).size:Nat):Int)) (b:=(8:Int)) kR kR kR oM _) (dh ((hi n).size) 8 oM)))))));refine bD 17 (1+(((hi n).size)/8:Nat)) ((wds n).length) (lK 18 34 ((wds n).length) 1 8 (uV 0) am 0 c (fun p w6 Y c=>?_));have H:(Am ((wds n).length) 0).length=((wds n).length):=by simp
 refine lL c [.m 3 18] (aI (lL c [.m 19 3,.v 20 (pB e),.o 21 (mV (n%18446744073709551616)) 1 0 1] (lX 22 (sB p) ((wds n).length) ((wds n).length) 1 0 0 rfl ?_)));refine lW 0 (Am ((wds n).length) 0) am 1 0 (n%18446744073709551616) c oM (fun w9 c=>?_);have V:((Am ((wds n).length) 0).set 0 (n%18446744073709551616)).length=((wds n).length):=by rw[KP];exact H
 replace c:=c.to [⟨p,34,((Am ((wds n).length) 0).set 0 (n%18446744073709551616)).flatMap am⟩,⟨e,36,nc n⟩] [];refine ah (aa c [.v 4 (iV 1)] (a8 ?_));refine bH _ (CG.loop (fun J Γ w_=>∃ (i:Nat) (l:List Nat) (h_:Hp),J=(wds n).length-i∧Γ=[(1,pB e),(2,sZ),(3,qS (sB p) ((wds n).length) ((wds n).length)),(4,nV i)]∧SS w h w_ h_ [⟨p,34,(l).flatMap am⟩,⟨e,36,nc n⟩] [] []∧1≤i∧i≤(wds n).length∧l.length=(wds n).length∧(∀ j,j<i→l.getD j 0=(wds n).getD j 0)) _ ⟨1,(Am ((wds n).length) 0).set 0 (n%18446744073709551616),Y,rfl,rfl,c.to _ _,nR _,by omega,V,oJ oM⟩ ?_);rintro _ _ _ ⟨i,l,_,M,rfl,c,U,X,K,S⟩;refine cQ (aa c [.m 23 4,.m 24 3,.v 25 (nV ((wds n).length))] ?_);cases za:(decide ((i:Int)<((((wds n).length):Nat):Int)))
 ·
  have zb:=oF za;refine lB 26 za (af (CG.exit ?_))
  show CG _ _ _ _ _ _ _ _
  refine aa c [.m 39 3,.m 2 39] (lN (kX ?_));have hiL:i=(wds n).length:=by omega
  have I:l=wds n:=o9 oM (fun j hj=>S j oM);rw[I] at c
  obtain ⟨_,c,F,C,D⟩:=c.pub 0;replace c:=(c.to [⟨e,36,nc n⟩] []).aS (SlO.of_flat (sz:=1) (f:=am) (d:=0) (b:=p) (o:=0) (l:=wds n) (fun _=>rfl) F);exact c.ret [] (qS (sB p) ((wds n).length) ((wds n).length)) (⟨p,rfl,C,D,c.f.1⟩)
 have zb:=oT za;refine lB 26 za (ak (cK (cQ (kZ (kQ (lL c [.m 29 3,.m 30 4,.v 31 (qP e 1),.o 32 (.string (hi n)) 1 1 1,.m 33 4] (lI 34 ((i:Nat)-1) ?_)))))));refine bD 35 (8*((i:Nat)-1)) (8*(i-1)) (lV 36 (.string ((hi n).extract (8*(i-1)) (hi n).size)) ?_ (hr:=om (tx:=9) (x:=.tmp 32) (i:=.tmp 35) (k:=.i64) (s:=hi n) (n:=(8*(i-1))) (j:=((8*(i-1):Nat):Int)) kR kR kR kR oM oM _));refine ag 37 c (o5 ((hi n).extract (8*(i-1)) (hi n).size) (by rw[gG];omega) _ _ c.g) (fun _ ze c=>lX 38 (sB p) ((wds n).length) ((wds n).length) 1 (i:Nat) i rfl (lW 0 l am 1 i (wv ((hi n).extract (8*(i-1)) (hi n).size):Nat) c oM (fun _ c=>?_)));have Z:((l).set i (wv ((hi n).extract (8*(i-1)) (hi n).size):Nat)).length=((wds n).length):=by rw[KP];exact K
 replace c:=c.to [⟨p,34,((l).set i (wv ((hi n).extract (8*(i-1)) (hi n).size):Nat)).flatMap am⟩,⟨e,36,nc n⟩] [];refine lN (kQ (lL c [.m 27 4] (bD 28 ((i:Nat)+1) (i+1) ?_)));refine lL c [.m 4 28] (lD ?_);intro a_ ka;refine ⟨_,_,?_,⟨i+1,(l).set i (wv ((hi n).extract (8*(i-1)) (hi n).size):Nat),ze,rfl,rfl,c.to _ _,oM,oM,Z,(pF oM S (by rw[iz n (i-1) oM,show i-1+1=i by omega]))⟩,ka.to _ kR⟩
 omega
theorem Ba (n:Nat)(U:0<n)(hl:(wds n).length≤1000000000)(D:18446744073709551616≤n)(w:World)(h:Hp)(g:G w h):CR 168 #[nv n] w h (fun v h1=>Ay h h1 v (wds n)):=by
 have c:=sS g;have hz:=iu n;have hp:=kw.2 U;refine go Tryz.func168 [(0,nv n)] rfl (av (lA 1 36 (nc n) c (fun e w2 h3 c=>lL c [.v 2 (sZ)] (ah (aa c [.v 5 (qP e 1),.o 6 (.string (hi n)) 0 1 1] (lV 7 qF ?_ (hr:=rb kR (iB (eM D)))))))));refine lL c [.m 8 7] (lG 9 ?_);refine lG 10 (lG 11 (lL c [.v 12 qF] (af (cK (aa c [.v 13 (qP e 1),.o 14 (.string (hi n)) 0 1 1,.v 15 (nV ((hi n).size))] (lV 16 (nV (((hi n).size)/8)) ?_ (hr:=aK (dl (t:=3) (u:=3) (x:=.tmp 15) (y:=.const (iV 8)) (k:=.i64) (a:=(((hi n).size:Nat):Int)) (b:=(8:Int)) kR kR kR oM _) (dh ((hi n).size) 8 oM))))))));refine bD 17 (1+(((hi n).size)/8:Nat)) ((wds n).length) (lK 18 34 ((wds n).length) 1 8 (uV 0) am 0 c (fun p w5 O c=>?_));have K:(Am ((wds n).length) 0).length=((wds n).length):=by simp
 refine lL c [.m 3 18] (aI (lL c [.m 19 3,.v 20 (pB e),.o 21 (mV (n%18446744073709551616)) 1 0 1] (lX 22 (sB p) ((wds n).length) ((wds n).length) 1 0 0 rfl ?_)));refine lW 0 (Am ((wds n).length) 0) am 1 0 (n%18446744073709551616) c oM (fun w8 c=>?_);have F:((Am ((wds n).length) 0).set 0 (n%18446744073709551616)).length=((wds n).length):=by rw[KP];exact K
 replace c:=c.to [⟨p,34,((Am ((wds n).length) 0).set 0 (n%18446744073709551616)).flatMap am⟩,⟨e,36,nc n⟩] [];refine ah (aa c [.v 4 (iV 1)] (a8 ?_));refine bH _ (CG.loop (fun I Γ Z=>∃ (i:Nat) (l:List Nat) (h_:Hp),I=(wds n).length-i∧Γ=[(1,pB e),(2,sZ),(3,qS (sB p) ((wds n).length) ((wds n).length)),(4,nV i)]∧SS w h Z h_ [⟨p,34,(l).flatMap am⟩,⟨e,36,nc n⟩] [] []∧1≤i∧i≤(wds n).length∧l.length=(wds n).length∧(∀ j,j<i→l.getD j 0=(wds n).getD j 0)) _ ⟨1,(Am ((wds n).length) 0).set 0 (n%18446744073709551616),O,rfl,rfl,c.to _ _,nR _,by omega,F,oJ oM⟩ ?_);rintro _ _ _ ⟨i,l,_,M,rfl,c,Q,V,J,L⟩;refine cQ (aa c [.m 23 4,.m 24 3,.v 25 (nV ((wds n).length))] ?_);cases za:(decide ((i:Int)<((((wds n).length):Nat):Int)))
 ·
  have zb:=oF za;refine lB 26 za (af (CG.exit ?_))
  show CG _ _ _ _ _ _ _ _
  refine aa c [.m 39 3,.m 2 39] (lN (kX ?_));have Y:i=(wds n).length:=by omega
  have H:l=wds n:=o9 oM (fun j hj=>L j oM);rw[H] at c
  obtain ⟨_,c,z,C,B⟩:=c.pub 0;replace c:=(c.to [⟨e,36,nc n⟩] []).aS (SlO.of_flat (sz:=1) (f:=am) (d:=0) (b:=p) (o:=0) (l:=wds n) (fun _=>rfl) z);exact c.ret [] (qS (sB p) ((wds n).length) ((wds n).length)) (⟨p,rfl,C,B,c.f.1⟩)
 have zb:=oT za;refine lB 26 za (ak (cK (cQ (kZ (kQ (lL c [.m 29 3,.m 30 4,.v 31 (qP e 1),.o 32 (.string (hi n)) 1 1 1,.m 33 4] (lI 34 ((i:Nat)-1) ?_)))))));refine bD 35 (8*((i:Nat)-1)) (8*(i-1)) (lV 36 (.string ((hi n).extract (8*(i-1)) (hi n).size)) ?_ (hr:=om (tx:=9) (x:=.tmp 32) (i:=.tmp 35) (k:=.i64) (s:=hi n) (n:=(8*(i-1))) (j:=((8*(i-1):Nat):Int)) kR kR kR kR oM oM _));refine ag 37 c (o5 ((hi n).extract (8*(i-1)) (hi n).size) (by rw[gG];omega) _ _ c.g) (fun _ W c=>lX 38 (sB p) ((wds n).length) ((wds n).length) 1 (i:Nat) i rfl (lW 0 l am 1 i (wv ((hi n).extract (8*(i-1)) (hi n).size):Nat) c oM (fun _ c=>?_)));have S:((l).set i (wv ((hi n).extract (8*(i-1)) (hi n).size):Nat)).length=((wds n).length):=by rw[KP];exact J
 replace c:=c.to [⟨p,34,((l).set i (wv ((hi n).extract (8*(i-1)) (hi n).size):Nat)).flatMap am⟩,⟨e,36,nc n⟩] [];refine lN (kQ (lL c [.m 27 4] (bD 28 ((i:Nat)+1) (i+1) ?_)));refine lL c [.m 4 28] (lD ?_);intro a_ X;refine ⟨_,_,?_,⟨i+1,(l).set i (wv ((hi n).extract (8*(i-1)) (hi n).size):Nat),W,rfl,rfl,c.to _ _,oM,oM,S,(pF oM L (by rw[iz n (i-1) oM,show i-1+1=i by omega]))⟩,X.to _ kR⟩
 omega
theorem eK (n:Nat)(a:0<n)(b:(wds n).length≤1000000000)(w:World)(h:Hp)(g:G w h):CR 168 #[nv n] w h (fun v h1=>Ay h h1 v (wds n)):=by
 rcases ep n 18446744073709551616 with hs|hs
 ·exact BF n a b hs w h g
 ·exact Ba n a b hs w h g
open Go.RowKit Go.Shelf
def vN:Go.Shelf.Ren:=⟨fun|167=>177|240=>154|276=>181|n=>n,fun|0=>0|4=>4|5=>5|9=>9|20=>20|37=>122|70=>121|72=>124|75=>162|164=>221|80=>126|n=>n,fun n=>n⟩
theorem An:Go.Proofs.Lays.n167 Tryz.prog vN:={
 mixed:=by kernel_rfl
 f167:=Tryz.func177.trans (congrArg some kR)
 f240:=Tryz.func154.trans (congrArg some kR)
 f276:=Tryz.func181.trans (congrArg some kR)
 t0:=Tryz.underlying0
 a0:=Tryz.isAgg0
 z0:=Tryz.sizeOf0
 v0:=Tryz.zeroValue0
 t4:=Tryz.underlying4
 a4:=Tryz.isAgg4
 z4:=Tryz.sizeOf4
 v4:=Tryz.zeroValue4
 t5:=Tryz.underlying5
 a5:=Tryz.isAgg5
 z5:=Tryz.sizeOf5
 v5:=Tryz.zeroValue5
 t9:=Tryz.underlying9
 a9:=Tryz.isAgg9
 z9:=Tryz.sizeOf9
 v9:=Tryz.zeroValue9
 t20:=Tryz.underlying20
 a20:=Tryz.isAgg20
 z20:=Tryz.sizeOf20
 v20:=Tryz.zeroValue20
 t37:=Tryz.underlying122
 a37:=Tryz.isAgg122
 z37:=Tryz.sizeOf122
 v37:=Tryz.zeroValue122
 t70:=Tryz.underlying121
 a70:=Tryz.isAgg121
 z70:=Tryz.sizeOf121
 v70:=Tryz.zeroValue121
 t72:=Tryz.underlying124
 a72:=Tryz.isAgg124
 z72:=Tryz.sizeOf124
 v72:=Tryz.zeroValue124
 t75:=Tryz.underlying162
 a75:=Tryz.isAgg162
 z75:=Tryz.sizeOf162
 v75:=Tryz.zeroValue162
 t164:=Tryz.underlying221
 a164:=Tryz.isAgg221
 z164:=Tryz.sizeOf221
 v164:=Tryz.zeroValue221 }
theorem v8:Builder.Extra Tryz.prog vN:={
 sizeBuilder:=by kernel_rfl
 liesBuilder:=by kernel_rfl
 t5:=Tryz.underlying5
 a5:=Tryz.isAgg5
 z5:=Tryz.sizeOf5
 v5:=Tryz.zeroValue5
 infoByte:=by kernel_rfl
 cellsByte:=by kernel_rfl
 sizeByte:=by kernel_rfl
 neB5:=by decide }
theorem wD (A:Option Addr)(c:Nat)(l:List Nat)(X:Wd l)(hl:l.length≤1099511627776)(W:l.length≤c)(w:World)(h:Hp)(g:G w h)(hA:SlO 1 am 0 h A l):CV 139 #[.slice A l.length c] w h (nv (aD l)):=by
 have d:=((sS g).aS hA);have htl:=gu l l.length;have hdl:(l.drop 1).length=l.length-1:=Kx;refine go Tryz.func139 [(0,qS A l.length c)] rfl (av (lA 2 36 ([uV 0,eS]) d (fun O w2 h3 d=>aI (lL d [.m 7 0] (ag 8 d (Dk A c l hl W _ _ d.g d.f.1) (fun e h5 d=>lL d [.m 0 8] (ah (aa d [.m 9 0,.v 10 (nV (tl l l.length))] (a8 (av ?_))))))))));cases B:((((tl l l.length):Nat):Int) == (0:Int))
 ·
  have K:=ae B;refine lB 12 B (lL d [.m 11 12] (af (av ?_)));cases D:((((tl l l.length):Nat):Int) == (1:Int))
  ·
   have J:=ae D;refine lB 15 D (lL d [.m 14 15] (af (cK (av ?_))));have i:=d;refine Je 3 124 [.pointer none,sZ] d (fun w8 j Q S=>?_);obtain ⟨h9,d,-⟩:=i.liftJ j;refine aI (lL d [.m 20 0,.v 21 (nV (tl l l.length))] (bD 22 (((tl l l.length):Nat)-1) ((tl l l.length)-1) ?_));refine bD 23 (8*((tl l l.length)-1:Nat)) (8*((tl l l.length)-1)) (H4 24 i j (Tryz.Builder_Grow_fresh e.heap.size e.heap.size (8*((tl l l.length)-1):Nat) _ (nR _) S Q oM) (fun _ ze d o F=>?_))
   clear j
   have j:=o;clear o;have C:Lib.IsBuilder 124 5 e.heap.size e.heap.size (Lib.byteCells (((l.drop 1).take 0).flatMap b8)) _:=.inr F;refine ah (aa d [.m 25 0] (lF 26 A (tl l l.length) c 1 1 1 ?_));replace d:=d.aS (d.f.1.drop 1 c W);replace i:=i.aS (i.f.1.drop 1 c W);refine lL d [.v 27 (nV ((tl l l.length)-1)),.v 28 (iV 0)] (a8 ?_);refine bH _ (CG.loop (fun H Γ I=>∃ (k:Nat) (p:Hp),H=(tl l l.length)-k∧Γ=[(0,qS A (tl l l.length) c),(2,pB O),(3,.pointer (some ⟨e.heap.size,0,none⟩)),(26,qS (if c=1 then A else A.map (·.add (1*1))) ((tl l l.length)-1) (c-1)),(27,nV ((tl l l.length)-1)),(28,nV k)]∧SS w h I p [⟨O,36,[uV 0,eS]⟩] [] [fun p=>SlO 1 am 0 p (if c=1 then A else A.map (·.add (1*1))) (l.drop 1),fun p=>SlO 1 am 0 p A l]∧k≤(tl l l.length)-1∧Ext e I∧Lib.IsBuilder 124 5 e.heap.size e.heap.size (Lib.byteCells (((l.drop 1).take k).flatMap b8)) I) _ ⟨0,ze,rfl,rfl,d.to _ _,K7 _,j,C⟩ ?_);rintro _ _ zf ⟨k,zg,Z,rfl,d,hk,j,C⟩;have hxk:(l.drop 1).getD k 0<18446744073709551616:=Dg.getD (Dg.drop X 1) kD k;refine av ?_;cases za:(decide ((k:Int)<(((tl l l.length)-1:Nat):Int)))
   ·
    have zc:=oF za;refine lB 29 za (ah (cv (CG.exit ?_)))
    show CG _ _ _ _ _ _ _ _
    refine cQ (xD ⟨Cs e.heap.size zf.heap.size,none⟩ 5 mixed ?_);obtain ⟨_,d,hj⟩:=i.liftJ j.drew;refine aV 0 43 (qS A (tl l l.length) c) (aX 1 44 A (tl l l.length) c 1 0 0 ((d.f.2.1).ok oM) (aH 2 45 (mV (l.getD 0 0)) d ((d.f.2.1).el 0 oM) ?_ (fun b hb=>hj b (lf.1 hb).1 (lf.1 hb).2)));refine aC 3 46 ((Tryz.Builder_String_any e.heap.size e.heap.size (((l.drop 1).take k).flatMap b8) _ (qp C ((Ext.refl _).drew)) j.size).mono fun e_ _ ⟨Y,L⟩=>⟨_,Y,vS L,?_⟩);obtain ⟨_,d,-⟩:=i.liftJ (Below.trans j.drew L);refine aV 4 47 (.agg #[mV (l.getD 0 0),.string (⟨(((l.drop 1).take k).flatMap b8).toArray⟩)]) (tP 5 0 0 ([mV (l.getD 0 0),.string (⟨(((l.drop 1).take k).flatMap b8).toArray⟩)]) d (fun _ d=>tN (kX ?_)));have U:k=(tl l l.length)-1:=by omega
    exact d.ret [(0,0,2)] (.agg #[mV (l.getD 0 0),.string (⟨(((l.drop 1).take k).flatMap b8).toArray⟩)]) (by rw[U];exact Bu X oM)
   have zc:=oT za;refine lB 29 za (ah (ce (cK (cQ (kZ (av (lX 30 (if c=1 then A else A.map (·.add (1*1))) ((tl l l.length)-1) (c-1) 1 (k:Nat) k ((d.f.1).ok oM) ?_)))))));refine lH 31 (mV ((l.drop 1).getD k 0)) d ((d.f.1).el k oM) (lL d [.m 5 31] (aI (lL d [.v 32 (iV 0)] (a8 ?_))));refine bH _ (CG.loop (fun H Γ I=>∃ (m:Nat) (p:Hp),H=8-m∧Γ=[(0,qS A (tl l l.length) c),(2,pB O),(3,.pointer (some ⟨e.heap.size,0,none⟩)),(26,qS (if c=1 then A else A.map (·.add (1*1))) ((tl l l.length)-1) (c-1)),(27,nV ((tl l l.length)-1)),(28,nV k),(5,mV ((l.drop 1).getD k 0)),(32,nV m)]∧SS w h I p [⟨O,36,[uV 0,eS]⟩] [] [fun p=>SlO 1 am 0 p (if c=1 then A else A.map (·.add (1*1))) (l.drop 1),fun p=>SlO 1 am 0 p A l]∧m≤8∧Ext e I∧Lib.IsBuilder 124 5 e.heap.size e.heap.size (Lib.byteCells (((l.drop 1).take k).flatMap b8++(b8 ((l.drop 1).getD k 0)).take m)) I) _ ⟨0,zg,rfl,rfl,d.to _ _,K7 _,j,(by simpa using C)⟩ ?_);rintro _ _ _ ⟨m,zi,bb,rfl,d,hm,j,z⟩;refine av ?_;cases zb:(decide ((m:Int)<(8:Int)))
   ·
    have zd:=oF zb;refine lB 33 zb (ah (cv (CG.exit ?_)))
    show CG _ _ _ _ _ _ _ _
    refine kQ (bD 42 ((k:Nat)+1) (k+1) ?_);refine lL d [.m 28 42] (lD ?_);intro a_ V;refine ⟨_,_,?_,⟨k+1,zi,rfl,rfl,d.to _ _,oM,j,(by rw[show m=8 by omega,sR oM] at z;exact z)⟩,V.to _ kR⟩
    omega
   have zd:=oT zb;refine lB 33 zb (ah (ce (cK (cQ (kZ (aa d [.m 34 32,.m 6 34] (lN (kQ (lL d [.m 35 5,.m 36 6] (bD 37 (8*(m:Nat)) (8*m) ?_))))))))));refine lV 38 (mV (((l.drop 1).getD k 0)/2^(8*m))) ?_ (hr:=fV (t:=34) (u:=3) (x:=.tmp 35) (y:=.tmp 37) (ky:=.i64) (a:=((l.drop 1).getD k 0)) (n:=(8*m)) kR kR kR oM _);refine lV 39 (.int .u8 ((((l.drop 1).getD k 0)/2^(8*m):Nat)%256:Nat)) ?_ (hr:=aK (n:=JJ .u8 ((((l.drop 1).getD k 0)/2^(8*m):Nat):Int)) kR (AV _));refine H4 40 i j (Any.Builder_WriteByte An v8 e.heap.size e.heap.size _ ((((l.drop 1).getD k 0)/2^(8*m)%256:Nat):Int) _ z (ug oM oM oM) j.size) (fun _ zj d o F=>?_)
   clear j
   have j:=o;clear o;rw[qE oM] at F
   have M:Lib.IsBuilder 124 5 e.heap.size e.heap.size _ _:=.inr F;refine lN (kQ (bD 41 ((m:Nat)+1) (m+1) ?_));refine lL d [.m 32 41] (lD ?_);intro a_ V;refine ⟨_,_,?_,⟨m+1,zj,rfl,rfl,d.to _ _,oM,j,M⟩,V.to _ kR⟩
   omega
  have J:=ML D;refine lB 15 D (lL d [.m 14 15] (ak (aa d [.m 16 0] (lX 17 A (tl l l.length) c 1 0 0 ((d.f.1).ok oM) ?_))));exact lH 18 (mV (l.getD 0 0)) d ((d.f.1).el 0 oM) (lL d [.v 19 (.agg #[mV (l.getD 0 0),eS])] (lP 0 0 ([mV (l.getD 0 0),eS]) d (fun _ d=>ac d [(0,0,2)] (.agg #[mV (l.getD 0 0),eS]) (Fl X oM))))
 have K:=ML B;exact lB 12 B (lL d [.m 11 12] (ak (aa d [.v 13 (.agg #[uV 0,eS])] (lP 0 0 ([uV 0,eS]) d (fun _ d=>ac d [(0,0,2)] (.agg #[uV 0,eS]) (Ai oM))))))
theorem GB (n:Nat)(b:n<18446744073709551616)(w:World)(h:Hp)(g:G w h):CV 74 #[mV n] w h (nv n):=by
 have a:=sS g;exact go Tryz.func74 [(0,mV n)] rfl (av (lA 2 36 ([uV 0,eS]) a (fun c w2 e a=>aI (lL a [.m 3 0,.v 4 (.agg #[mV n,eS])] (lP 0 0 ([mV n,eS]) a (fun d a=>ac a [(0,0,2)] (.agg #[mV n,eS]) (iR b)))))))
theorem i9 (n:Nat)(c:n<18446744073709551616)(w:World)(h:Hp)(g:G w h):CV 173 #[nv n] w h (.tuple #[mV n,.bool true]):=by
 have a:=sS g;refine go Tryz.func173 [(0,nv n)] rfl (av (lA 1 36 (nc n) a (fun b w2 d a=>lL a [.v 2 (uV 0),.v 3 qF] (ah (aa a [.v 4 (qP b 1),.o 5 (.string (hi n)) 0 1 1] (lV 6 qF ?_ (hr:=rb kR (Gn (dX c)))))))));exact af (cK (aa a [.v 7 (pB b),.o 8 (mV (n%18446744073709551616)) 0 0 1,.m 2 8,.v 3 qT] (ac a [] (.tuple #[mV (n%18446744073709551616),qT]) (by rw[AS c]))))
theorem BS (n:Nat)(c:18446744073709551616≤n)(w:World)(h:Hp)(g:G w h):CV 173 #[nv n] w h (.tuple #[uV 0,.bool false]):=by
 have a:=sS g;refine go Tryz.func173 [(0,nv n)] rfl (av (lA 1 36 (nc n) a (fun b w2 d a=>lL a [.v 2 (uV 0),.v 3 qF] (ah (aa a [.v 4 (qP b 1),.o 5 (.string (hi n)) 0 1 1] (lV 6 qT ?_ (hr:=rb kR (Gf (eM c)))))))));exact ak (aa a [.v 2 (uV 0),.v 3 qF] (ac a [] (.tuple #[uV 0,qF]) rfl))
theorem Di (a b:Nat)(w:World)(h:Hp)(g:G w h):CV 129 #[mV a,mV b] w h (iV (cD a b)):=by
 have c:=sS g;refine go Tryz.func129 [(0,mV a),(1,mV b)] rfl (aa c [.v 4 (iV 0)] (ah (kZ (aa c [.m 6 0,.m 7 1] ?_))));cases d:(decide ((a:Int)<(b:Int)))
 ·
  have i:=oF d;refine lB 8 d (lL c [.m 5 8] (af (aa c [.m 10 0,.m 11 1] ?_)));cases e:(decide ((b:Int)<(a:Int)))
  ·
   have f:=oF e;exact lB 12 e (lL c [.m 9 12] (af (cK (aa c [.v 4 (iV 0)] (ac c [] (iV 0) (by rw[ij oM]))))))
  have f:=oT e;exact lB 12 e (lL c [.m 9 12] (ak (aa c [.v 4 (iV 1)] (ac c [] (iV 1) (by rw[fe oM])))))
 have i:=oT d;exact lB 8 d (lL c [.m 5 8] (ak (aa c [.v 4 (iV (-1))] (ac c [] (iV (-1)) (by rw[dB oM])))))
theorem E2 (n:Nat)(c:n<18446744073709551616)(w:World)(h:Hp)(g:G w h):CV 70 #[nv n] w h (nV (nb n)):=by
 have a:=sS g;refine go Tryz.func70 [(0,nv n)] rfl (av (lA 1 36 (nc n) a (fun b w2 e a=>lL a [.v 2 (iV 0)] (ah (aa a [.v 3 (qP b 1),.o 4 (.string (hi n)) 0 1 1] (lV 5 qT ?_ (hr:=rb kR (iO (dX c)))))))));exact ak (aa a [.v 6 (pB b),.o 7 (mV (n%18446744073709551616)) 0 0 1] (ag 8 a (xw (n%18446744073709551616) wM _ _ a.g) (fun d f a=>lL a [.m 2 8] (ac a [] (nV (nb (n%18446744073709551616))) (by rw[AS c])))))
theorem FI (n:Nat)(e:18446744073709551616≤n)(F:(wds n).length≤1000000000)(w:World)(h:Hp)(g:G w h):CV 70 #[nv n] w h (nV (nb n)):=by
 have a:=sS g;have hz:=iu n;have z:=du e;refine go Tryz.func70 [(0,nv n)] rfl (av (lA 1 36 (nc n) a (fun b w2 C a=>lL a [.v 2 (iV 0)] (ah (aa a [.v 3 (qP b 1),.o 4 (.string (hi n)) 0 1 1] (lV 5 qF ?_ (hr:=rb kR (iB (eM e)))))))));refine af (cK (cQ (cR 14 [] mixed a ar ?_)));refine eV 0 9 (qP b 1) (eO 1 10 [(0,1,1)] (.string (hi n)) a (eV 2 11 (nV ((hi n).size)) (jy 3 12 (8*((hi n).size:Nat)) (8*(hi n).size) (eV 4 13 (qP b 1) (eO 5 14 [(0,1,1)] (.string (hi n)) a (eV 6 15 (qP b 1) (eO 7 16 [(0,1,1)] (.string (hi n)) a (eV 8 17 (nV ((hi n).size)) (jy 9 18 (((hi n).size:Nat)-8) (8*((wds n).length-2)) (eV 10 19 (.string ((hi n).extract (8*((wds n).length-2):Nat) (hi n).size)) ?_ (hv:=fun _=>om (tx:=9) (x:=.tmp 14) (i:=.tmp 18) (k:=.i64) (s:=hi n) (n:=(8*((wds n).length-2):Nat)) (j:=((8*((wds n).length-2):Nat):Int)) kR kR kR kR oM oM _)))))))))));refine aq 11 20 a (fun _ _ a=>o5 ((hi n).extract (8*((wds n).length-2):Nat) (hi n).size) (by rw[gG];omega) _ _ a.g) (fun p u a=>aq 12 21 a (fun _ _ a=>xw (wv ((hi n).extract (8*((wds n).length-2):Nat) (hi n).size):Nat) wM _ _ a.g) (fun y B a=>?_));have d:=iz n ((wds n).length-2) oM;rw[show (wds n).length-2+1=(wds n).length-1 by omega] at d
 have c:=wP (n:=n) oM;have f:nb (wv ((hi n).extract (8*((wds n).length-2)) (hi n).size))≤64:=kh (k:=64) (DB _);rw[←d] at c
 exact jy 13 22 ((8*(hi n).size:Nat)+(nb (wv ((hi n).extract (8*((wds n).length-2):Nat) (hi n).size):Nat):Nat)) (nb n) (ck a (fun l D a=>tV 14 2 (nV (nb n)) (tN (kX (a.ret [] (nV (nb n)) rfl)))))
theorem eu (n:Nat)(a:(wds n).length≤1000000000)(w:World)(h:Hp)(g:G w h):CV 70 #[nv n] w h (nV (nb n)):=by
 rcases ep n 18446744073709551616 with hs|hs
 ·exact E2 n hs w h g
 ·exact FI n hs a w h g
theorem lk (a b:Nat)(W:(wds a).length≤1000000000)(J:(wds b).length≤1000000000)(w:World)(h:Hp)(g:G w h):CV 72 #[nv a,nv b] w h (iV (cD a b)):=by
 have c:=sS g;have Q:=iu a;have S:=iu b;refine go Tryz.func72 [(0,nv a),(1,nv b)] rfl (av (lA 2 36 (nc a) c (fun f w2 Z c=>lA 3 36 (nc b) c (fun l w5 I c=>lL c [.v 4 (iV 0)] (ah (aa c [.v 8 (qP f 1),.o 9 (.string (hi a)) 1 1 1,.v 10 (nV ((hi a).size)),.v 11 (qP l 1),.o 12 (.string (hi b)) 0 1 1,.v 13 (nV ((hi b).size))] ?_))))));cases d:((((hi a).size:Nat):Int) != (((hi b).size:Nat):Int))
 ·
  have p:=aJ d;refine lB 14 d (af (cK (cQ (aa c [.v 22 (qP f 1),.o 23 (.string (hi a)) 1 1 1,.v 24 (nV ((hi a).size))] (lV 25 (iV (8*(((wds a).length-1:Nat):Int)-8)) ?_ (hr:=rS ((((hi a).size:Nat)-8)) kR ((fX oM oM).trans oM)))))));refine lL c [.m 5 25] (a8 ?_);refine bH _ (CG.loop (fun D Γ U=>∃ (m:Nat) (h_:Hp),D=m∧Γ=[(2,pB f),(3,pB l),(5,iV (8*(m:Int)-8))]∧SS w h U h_ [⟨l,36,nc b⟩,⟨f,36,nc a⟩] [] []∧m≤(wds a).length-1∧(wds a).length-1=(wds b).length-1∧(wds a).drop (m+1)=(wds b).drop (m+1)) _ ⟨(wds a).length-1,I,rfl,rfl,c.to _ _,nR _,oM,(by rw[KY oM,KY oM])⟩ ?_);rintro _ _ X ⟨m,h9,H,rfl,c,hm,u,e⟩;refine cQ (aa c [.m 26 5] ?_);cases za:(decide ((0:Int)≤(8*(m:Int)-8:Int)))
  ·
   have L:=oF za;refine lB 27 za (af (CG.exit ?_))
   show CG _ _ _ _ _ _ _ _
   exact aa c [.v 46 (pB f),.o 47 (mV (a%18446744073709551616)) 1 0 1,.v 48 (pB l),.o 49 (mV (b%18446744073709551616)) 0 0 1] (ag 50 c (Di (a%18446744073709551616) (b%18446744073709551616) _ _ c.g) (fun _ _ c=>lL c [.m 4 50] (ac c [] (iV (cD (a%18446744073709551616) (b%18446744073709551616))) (by rw[oY (a:=a) (b:=b) oM (by have B:m=0:=oM;rw[B] at e;exact e)]))))
  have L:=oT za;refine lB 27 za (ak (cK (cQ (kZ (cQ ?_)))));have z:=c;refine BR 10 [] [] mixed c ar (eV 0 30 (qP f 1) (eO 1 31 [(1,1,1)] (.string (hi a)) c (eV 2 32 (iV (8*(m:Int)-8)) (eV 3 33 (.string ((hi a).extract (8*(m-1)) (hi a).size)) ?_ (hv:=fun _=>om (tx:=9) (x:=.tmp 31) (i:=.tmp 32) (k:=.i64) (s:=hi a) (n:=8*(m-1)) (j:=(8*(m:Int)-8:Int)) kR kR kR kR oM oM _)))));refine eV 5 35 (qP l 1) (ut 6 36 [(0,1,1)] (.string (hi b)) z c (eV 7 37 (iV (8*(m:Int)-8)) (eV 8 38 (.string ((hi b).extract (8*(m-1)) (hi b).size)) ?_ (hv:=fun _=>om (tx:=9) (x:=.tmp 36) (i:=.tmp 37) (k:=.i64) (s:=hi b) (n:=8*(m-1)) (j:=(8*(m:Int)-8:Int)) kR kR kR kR oM oM _))));refine aq 4 34 c (fun _ _ c=>o5 ((hi a).extract (8*(m-1)) (hi a).size) (by rw[gG];omega) _ _ c.g) (fun _ _ c=>aq 9 39 c (fun _ _ c=>o5 ((hi b).extract (8*(m-1)) (hi b).size) (by rw[gG];omega) _ _ c.g) (fun _ _ c=>ck c (fun _ O c=>tV 10 6 (mV (wv ((hi a).extract (8*(m-1)) (hi a).size))) (tV 11 7 (mV (wv ((hi b).extract (8*(m-1)) (hi b).size))) (th ?_)))));have F:=iz a (m-1) oM;have C:=iz b (m-1) oM;rw[show m-1+1=m by omega] at F C
  refine lL c [.m 40 6,.m 41 7] ?_;cases zb:(((wv ((hi a).extract (8*(m-1)) (hi a).size):Nat):Int) != ((wv ((hi b).extract (8*(m-1)) (hi b).size):Nat):Int))
  ·
   have V:=aJ zb;refine lB 42 zb (af (cK (kQ (lL c [.m 28 5] (lV 29 (iV (8*((m-1:Nat):Int)-8)) ?_ (hr:=rS (((8*(m:Int)-8)-8)) kR ((fX oM oM).trans oM)))))));refine lL c [.m 5 29] (lD ?_);intro Y M;refine ⟨_,_,?_,⟨m-1,O,rfl,rfl,c.to _ _,oM,u,(by rw[show m-1+1=m by omega];exact eZ oM oM e oM)⟩,M.to _ kR⟩
   omega
  have V:=aW zb;exact lB 42 zb (ak (aa c [.m 43 6,.m 44 7] (ag 45 c (Di (wv ((hi a).extract (8*(m-1)) (hi a).size):Nat) (wv ((hi b).extract (8*(m-1)) (hi b).size):Nat) _ _ c.g) (fun _ _ c=>lL c [.m 4 45] (ac c [] (iV (cD (wv ((hi a).extract (8*(m-1)) (hi a).size):Nat) (wv ((hi b).extract (8*(m-1)) (hi b).size):Nat))) (by rw[iz a (m-1) oM,iz b (m-1) oM,show m-1+1=m by omega];exact congrArg (Value.int .i64) (kK oM oM e oM)))))))
 have p:=aW d;refine lB 14 d (ak (cQ (aa c [.v 15 (qP f 1),.o 16 (.string (hi a)) 1 1 1,.v 17 (nV ((hi a).size)),.v 18 (qP l 1),.o 19 (.string (hi b)) 0 1 1,.v 20 (nV ((hi b).size))] ?_)));cases y:(decide ((((hi a).size:Nat):Int)<(((hi b).size:Nat):Int)))
 ·
  have K:=oF y;exact lB 21 y (af (cK (aa c [.v 4 (iV 1)] (ac c [] (iV 1) (by rw[fe (fS oM)])))))
 have K:=oT y;exact lB 21 y (ak (aa c [.v 4 (iV (-1))] (ac c [] (iV (-1)) (by rw[dB (fS oM)]))))
theorem xp (hi lo y:Nat)(S:hi<y)(hy:y<18446744073709551616)(hlo:lo<18446744073709551616)(w:World)(h:Hp)(g:G w h):CR 208 #[mV hi,mV lo,mV y] w h (fun v _=>∃ q r:Nat,v=.tuple #[uV q,uV r]∧hi*18446744073709551616+lo=y*q+r∧r<y∧q<18446744073709551616):=by
 have c:=sS g;refine go Tryz.func208 [(0,mV hi),(1,mV lo),(2,mV y)] rfl (aa c [.v 6 (uV 0),.v 7 (uV 0)] (ah (aa c [.m 19 2] ?_)));have U:((y:Int) == (0:Int))=false:=bJ oM;have bm:=ae U;refine lB 20 U (af (cK (cQ (aa c [.m 22 2,.m 23 0] ?_))));have ⟨hb2,bd⟩:=dF (p:=(y:Int)≤(hi:Int)) oM;refine lB 24 hb2 (af (cK (cQ (aa c [.m 26 0] ?_))));cases F:((hi:Int) == (0:Int))
 ·
  have Q:=ae F;refine lB 27 F (af (cK (aa c [.m 34 2] (ag 35 c (DJ y wM _ _ c.g) (fun w4 h5 c=>?_)))));obtain ⟨s,hsd⟩:∃ e,e=64-nb y:=⟨_,rfl⟩;refine lV 36 (mV s) ?_ (hr:=aK (aK (n:=JJ .u64 ((64-nb y:Nat):Int)) kR (ba oM oM)) (by rw[hsd]));refine lL c [.m 8 36] (aI (lL c [.m 37 2,.m 38 8] ?_));obtain ⟨Y,hY⟩:∃ e,e=y*2^s:=⟨_,rfl⟩;have hn:=sq (y:=y) oM oM;rw[←hsd,←hY] at hn
  refine lV 39 (mV Y) ?_ (hr:=aK (gf (t:=34) (u:=140) (x:=.tmp 37) (y:=.tmp 38) (ky:=.u64) (a:=y) (n:=s) kR kR kR _) (by rw[←hY,AS hn.2]));refine lL c [.m 2 39] (aI (lL c [.m 40 2] ?_));obtain ⟨y1,hy1⟩:∃ e,e=Y/4294967296:=⟨_,rfl⟩;refine lV 41 (mV y1) ?_ (hr:=aK (aK (n:=Int.fdiv (Y:Int) 4294967296) kR (dN _ 4294967296)) (by rw[hy1]));refine lL c [.m 9 41] (aI (lL c [.m 42 2] ?_));obtain ⟨y0,hy0⟩:∃ e,e=Y%4294967296:=⟨_,rfl⟩;refine lV 43 (mV y0) ?_ (hr:=aK (qf (t:=34) (u:=34) (x:=.tmp 42) (y:=.const (uV 4294967295)) (a:=Y) (m:=4294967295) 32 kR kR kR oM kD _) (by rw[hy0]));refine lL c [.m 10 43] (aI (lL c [.m 44 0,.m 45 8] ?_));have hhi:hi*2^s<Y:=by rw[hY];exact KK S (Ka s)
  obtain ⟨L,hsl⟩:=C1 (hi:=hi) (lo:=lo) (s:=s) oM hlo;have hdl:=JT lo (2^(64-s));have d:Y=y1*4294967296+y0:=by omega
  refine lV 46 (mV (hi*2^s)) ?_ (hr:=aK (gf (t:=34) (u:=140) (x:=.tmp 44) (y:=.tmp 45) (ky:=.u64) (a:=hi) (n:=s) kR kR kR _) (by rw[AS oM]));refine lL c [.m 47 1,.m 48 8] (lV 49 (mV (64-s)) ?_ (hr:=rU (((64:Int)-(s:Int))) kR (d9 64 s oM oM)));refine lV 50 (mV (lo/2^(64-s))) ?_ (hr:=fV (t:=34) (u:=140) (x:=.tmp 47) (y:=.tmp 49) (ky:=.u64) (a:=lo) (n:=(64-s)) kR kR kR oM _);obtain ⟨u32,hu32⟩:∃ e,e=hi*2^s+lo/2^(64-s):=⟨_,rfl⟩;rw[←hu32] at L
  have D:u32<Y:=by
    have e2:(hi+1)*2^s≤y*2^s:=z7 _ S;rw[Kr,Kt,←hY] at e2
    omega
  refine lV 51 (mV u32) ?_ (hr:=aK (gB (t:=34) (u:=34) (x:=.tmp 46) (y:=.tmp 50) (a:=(hi*2^s)) (b:=(lo/2^(64-s))) kR kR kR oM oM _) (by rw[hu32,Nat.or_comm,f5 s hsl,Nat.add_comm]));refine lL c [.m 11 51] (aI (lL c [.m 52 1,.m 53 8] ?_));obtain ⟨u10,hu10⟩:∃ e,e=lo*2^s%18446744073709551616:=⟨_,rfl⟩;rw[←hu10] at L
  have bb:u10<18446744073709551616:=by omega
  refine lV 54 (mV u10) ?_ (hr:=aK (gf (t:=34) (u:=140) (x:=.tmp 52) (y:=.tmp 53) (ky:=.u64) (a:=lo) (n:=s) kR kR kR _) (by rw[hu10]));refine lL c [.m 12 54] (aI (lL c [.m 55 12] ?_));obtain ⟨u1,hu1⟩:∃ e,e=u10/4294967296:=⟨_,rfl⟩;refine lV 56 (mV u1) ?_ (hr:=aK (aK (n:=Int.fdiv (u10:Int) 4294967296) kR (dN _ 4294967296)) (by rw[hu1]));refine lL c [.m 13 56] (lN (bH [(2,mV Y),(6,uV 0),(7,uV 0),(8,mV s),(9,mV y1),(10,mV y0),(11,mV u32),(12,mV u10),(13,mV u1)] ?_));refine aa c [.m 57 12] ?_;obtain ⟨u0,hu0⟩:∃ e,e=u10%4294967296:=⟨_,rfl⟩;refine lV 58 (mV u0) ?_ (hr:=aK (qf (t:=34) (u:=34) (x:=.tmp 57) (y:=.const (uV 4294967295)) (a:=u10) (m:=4294967295) 32 kR kR kR oM kD _) (by rw[hu0]));refine lL c [.m 14 58] (aI (lL c [.m 59 11,.m 60 9] ?_));have H:=lJ (Y:=Y) (y1:=y1) (y0:=y0) (u:=u32) (u1:=u1) d oM oM oM D;have hR0:=mI (u:=u32) (y1:=y1) oM;have hM0:=KE u32 y1;obtain ⟨qa,hqa⟩:∃ e,e=u32/y1:=⟨_,rfl⟩;rw[←hqa] at H hR0 hM0
  refine lV 61 (mV qa) ?_ (hr:=aK (aK (dl (t:=34) (u:=34) (x:=.tmp 59) (y:=.tmp 60) (k:=.u64) (a:=(u32:Int)) (b:=(y1:Int)) kR kR kR oM _) (jZ u32 y1 oM)) (by rw[hqa]));refine lL c [.m 15 61] (aI (lL c [.m 62 11,.m 63 15,.m 64 9] (lV 65 (mV (qa*y1)) ?_ (hr:=rU (((qa:Int)*(y1:Int))) kR (fT qa y1 oM)))));obtain ⟨ra,hra⟩:∃ e,e=u32-qa*y1:=⟨_,rfl⟩;rw[←hra] at H hR0
  refine lV 66 (mV ra) ?_ (hr:=aK (aK (n:=JJ .u64 ((u32:Int)-((qa*y1:Nat):Int))) kR (d9 u32 (qa*y1) oM oM)) (by rw[hra]));refine lL c [.m 16 66] (lN (CG.join (fun Γ I=>∃ (j:Nat) (h_:Hp),Γ=[(2,mV Y),(6,uV 0),(7,uV 0),(8,mV s),(9,mV y1),(10,mV y0),(11,mV u32),(13,mV u1),(14,mV u0),(15,mV j)]∧SS w h I h_ [] [] []∧j=(u32*4294967296+u1)/Y∧(u32*4294967296+u1)-j*Y=(u32*4294967296+u1)%Y∧j*Y≤u32*4294967296+u1) ?_ ?_))
  ·
   refine kZ ?_;refine bH _ (CG.loop (fun J Γ I=>∃ (q:Nat) (r:Nat) (h_:Hp),J=q∧Γ=[(2,mV Y),(6,uV 0),(7,uV 0),(8,mV s),(9,mV y1),(10,mV y0),(11,mV u32),(13,mV u1),(14,mV u0),(15,mV q),(16,mV r)]∧SS w h I h_ [] [] []∧HalfQ Y y1 y0 u32 u1 q r∧r<4294967296) _ ⟨qa,ra,h5,rfl,rfl,c.to _ _,H,oM⟩ ?_);rintro _ _ w6 ⟨q,r,V,hm8,rfl,c,M,hr⟩;have bn:=M.qb;refine cQ (aa c [.m 67 15] ?_);cases C:(decide ((4294967296:Int)≤(q:Int)))
   ·
    have W:=oF C;refine lB 68 C (lL c [.m 69 68,.m 70 15,.m 71 10] (lV 72 (mV (q*y0)) ?_ (hr:=rU (((q:Int)*(y0:Int))) kR (fT q y0 (DH oM oM)))));refine lL c [.m 73 16] (lV 74 (mV (4294967296*r)) ?_ (hr:=rU (((4294967296:Int)*(r:Int))) kR (fT 4294967296 r oM)));refine lL c [.m 75 13] (lV 76 (mV ((4294967296*r)+u1)) ?_ (hr:=rU ((((4294967296*r:Nat):Int)+(u1:Int))) kR (dD (4294967296*r) u1 oM)));cases za:(decide ((((4294967296*r)+u1:Nat):Int)<((q*y0:Nat):Int)))
    ·
     have zj:=oF za;refine lB 77 za (lL c [.v 78 qF] (af (CG.exit ?_)));intro B i;exact ⟨_,⟨q,V,rfl,c.to _ _,(by first|exact M.fin d oM|exact l.brk d oM oM (by have:=l.qb;omega))⟩,i.to _ kR⟩
    have zj:=oT za;refine lB 77 za (lL c [.v 78 qT] (ak (cK (kZ (aa c [.m 79 15] ?_)))));have hq1:0<q:=by first|omega|exact cI (show 4294967296*r+u1<q*y0 by omega)
    have l:=M.dec d oM D (by first|exact .inl oM|exact .inr oM);refine lV 80 (mV (q-1)) ?_ (hr:=rU (((q:Int)-(1:Int))) kR (d9 q 1 oM oM));refine lL c [.m 15 80] (aI (lL c [.m 81 16,.m 82 9] (lV 83 (mV (r+y1)) ?_ (hr:=rU (((r:Int)+(y1:Int))) kR (dD r y1 oM)))));refine lL c [.m 16 83] (aI (lL c [.m 84 16] ?_));cases zb:(decide ((4294967296:Int)≤((r+y1:Nat):Int)))
    ·
     have zk:=oF zb;refine lB 85 zb (af (CG.skip ?_));intro B i;refine ⟨_,_,?_,⟨q-1,r+y1,V,rfl,rfl,c.to _ _,l,oM⟩,i.to _ kR⟩
     omega
    have zk:=oT zb;refine lB 85 zb (ak (CG.exit ?_));intro B i;exact ⟨_,⟨(q-1),V,rfl,c.to _ _,(by first|exact M.fin d oM|exact l.brk d oM oM (by have:=l.qb;omega))⟩,i.to _ kR⟩
   have W:=oT C;refine lB 68 C (lL c [.m 69 68] (lG 70 ?_));refine lG 71 (lG 72 (lG 73 (lG 74 (lG 75 (lG 76 (lG 77 (lL c [.v 78 qT] (ak (cK (kZ (aa c [.m 79 15] ?_)))))))))));have hq1:0<q:=by first|omega|exact cI (show 4294967296*r+u1<q*y0 by omega)
   have l:=M.dec d oM D (by first|exact .inl oM|exact .inr oM);refine lV 80 (mV (q-1)) ?_ (hr:=rU (((q:Int)-(1:Int))) kR (d9 q 1 oM oM));refine lL c [.m 15 80] (aI (lL c [.m 81 16,.m 82 9] (lV 83 (mV (r+y1)) ?_ (hr:=rU (((r:Int)+(y1:Int))) kR (dD r y1 oM)))));refine lL c [.m 16 83] (aI (lL c [.m 84 16] ?_));cases zc:(decide ((4294967296:Int)≤((r+y1:Nat):Int)))
   ·
    have zl:=oF zc;refine lB 85 zc (af (CG.skip ?_));intro B i;refine ⟨_,_,?_,⟨q-1,r+y1,V,rfl,rfl,c.to _ _,l,oM⟩,i.to _ kR⟩
    omega
   have zl:=oT zc;refine lB 85 zc (ak (CG.exit ?_));intro B i;exact ⟨_,⟨(q-1),V,rfl,c.to _ _,(by first|exact M.fin d oM|exact l.brk d oM oM (by have:=l.qb;omega))⟩,i.to _ kR⟩
  rintro _ _ ⟨j,zq,rfl,c,hF⟩;refine av ?_;obtain ⟨hF1,hF2,hF3⟩:=hF;have hF4:=ot (u1:=u1) D oM;rw[←hF1] at hF4
  refine lL c [.m 86 11] (lV 87 (mV ((u32*4294967296)%18446744073709551616)) ?_ (hr:=rU (((u32:Int)*(4294967296:Int))) kR (ja u32 4294967296)));refine lL c [.m 88 13] (lV 89 (mV ((((u32*4294967296)%18446744073709551616)+u1)%18446744073709551616)) ?_ (hr:=rU (((((u32*4294967296)%18446744073709551616:Nat):Int)+(u1:Int))) kR (uT ((u32*4294967296)%18446744073709551616) u1)));refine lL c [.m 90 15,.m 91 2] (lV 92 (mV ((j*Y)%18446744073709551616)) ?_ (hr:=rU (((j:Int)*(Y:Int))) kR (ja j Y)));obtain ⟨r1,hr1⟩:∃ e,e=(u32*4294967296+u1)%Y:=⟨_,rfl⟩;have z:r1<Y:=by rw[hr1];exact A4 _ oM
  refine lV 93 (mV r1) ?_ (hr:=aK (aK (n:=JJ .u64 ((((((u32*4294967296)%18446744073709551616)+u1)%18446744073709551616:Nat):Int)-(((j*Y)%18446744073709551616:Nat):Int))) kR (kc ((((u32*4294967296)%18446744073709551616)+u1)%18446744073709551616:Nat) ((j*Y)%18446744073709551616) oM)) (by rw[mS hF3 (hF2.trans hr1.symm) oM]));refine lL c [.m 17 93] (aI (lL c [.m 94 17,.m 95 9] ?_));have K:=lJ (Y:=Y) (y1:=y1) (y0:=y0) (u:=r1) (u1:=u0) d oM oM oM z;have Z:=mI (u:=r1) (y1:=y1) oM;have hL0:=KE r1 y1;obtain ⟨qb,hqb⟩:∃ e,e=r1/y1:=⟨_,rfl⟩;rw[←hqb] at K Z hL0
  refine lV 96 (mV qb) ?_ (hr:=aK (aK (dl (t:=34) (u:=34) (x:=.tmp 94) (y:=.tmp 95) (k:=.u64) (a:=(r1:Int)) (b:=(y1:Int)) kR kR kR oM _) (jZ r1 y1 oM)) (by rw[hqb]));refine lL c [.m 18 96] (aI (lL c [.m 97 17,.m 98 18,.m 99 9] (lV 100 (mV (qb*y1)) ?_ (hr:=rU (((qb:Int)*(y1:Int))) kR (fT qb y1 oM)))));obtain ⟨rb,hrb⟩:∃ e,e=r1-qb*y1:=⟨_,rfl⟩;rw[←hrb] at K Z
  refine lV 101 (mV rb) ?_ (hr:=aK (aK (n:=JJ .u64 ((r1:Int)-((qb*y1:Nat):Int))) kR (d9 r1 (qb*y1) oM oM)) (by rw[hrb]));refine lL c [.m 16 101] (lN (CG.join (fun Γ I=>∃ (o:Nat) (h_:Hp),Γ=[(2,mV Y),(6,uV 0),(7,uV 0),(8,mV s),(14,mV u0),(15,mV j),(17,mV r1),(18,mV o)]∧SS w h I h_ [] [] []∧o=(r1*4294967296+u0)/Y∧(r1*4294967296+u0)-o*Y=(r1*4294967296+u0)%Y∧o*Y≤r1*4294967296+u0) ?_ ?_))
  ·
   refine kZ ?_;refine bH _ (CG.loop (fun J Γ I=>∃ (p:Nat) (t:Nat) (h_:Hp),J=p∧Γ=[(2,mV Y),(6,uV 0),(7,uV 0),(8,mV s),(9,mV y1),(10,mV y0),(14,mV u0),(15,mV j),(17,mV r1),(18,mV p),(16,mV t)]∧SS w h I h_ [] [] []∧HalfQ Y y1 y0 r1 u0 p t∧t<4294967296) _ ⟨qb,rb,zq,rfl,rfl,c.to _ _,K,oM⟩ ?_);rintro _ _ _ ⟨p,t,X,bq,rfl,c,O,ht⟩;have bk:=O.qb;refine cQ (aa c [.m 102 18] ?_);cases zd:(decide ((4294967296:Int)≤(p:Int)))
   ·
    have zm:=oF zd;refine lB 103 zd (lL c [.m 104 103,.m 105 18,.m 106 10] (lV 107 (mV (p*y0)) ?_ (hr:=rU (((p:Int)*(y0:Int))) kR (fT p y0 (DH oM oM)))));refine lL c [.m 108 16] (lV 109 (mV (4294967296*t)) ?_ (hr:=rU (((4294967296:Int)*(t:Int))) kR (fT 4294967296 t oM)));refine lL c [.m 110 14] (lV 111 (mV ((4294967296*t)+u0)) ?_ (hr:=rU ((((4294967296*t:Nat):Int)+(u0:Int))) kR (dD (4294967296*t) u0 oM)));cases ze:(decide ((((4294967296*t)+u0:Nat):Int)<((p*y0:Nat):Int)))
    ·
     have zn:=oF ze;refine lB 112 ze (lL c [.v 113 qF] (af (CG.exit ?_)));intro B i;exact ⟨_,⟨p,X,rfl,c.to _ _,(by first|exact O.fin d oM|exact f.brk d oM oM (by have:=f.qb;omega))⟩,i.to _ kR⟩
    have zn:=oT ze;refine lB 112 ze (lL c [.v 113 qT] (ak (cK (kZ (aa c [.m 114 18] ?_)))));have hq2:0<p:=by first|omega|exact cI (show 4294967296*t+u0<p*y0 by omega)
    have f:=O.dec d oM z (by first|exact .inl oM|exact .inr oM);refine lV 115 (mV (p-1)) ?_ (hr:=rU (((p:Int)-(1:Int))) kR (d9 p 1 oM oM));refine lL c [.m 18 115] (aI (lL c [.m 116 16,.m 117 9] (lV 118 (mV (t+y1)) ?_ (hr:=rU (((t:Int)+(y1:Int))) kR (dD t y1 oM)))));refine lL c [.m 16 118] (aI (lL c [.m 119 16] ?_));cases zf:(decide ((4294967296:Int)≤((t+y1:Nat):Int)))
    ·
     have zo:=oF zf;refine lB 120 zf (af (CG.skip ?_));intro B i;refine ⟨_,_,?_,⟨p-1,t+y1,X,rfl,rfl,c.to _ _,f,oM⟩,i.to _ kR⟩
     omega
    have zo:=oT zf;refine lB 120 zf (ak (CG.exit ?_));intro B i;exact ⟨_,⟨(p-1),X,rfl,c.to _ _,(by first|exact O.fin d oM|exact f.brk d oM oM (by have:=f.qb;omega))⟩,i.to _ kR⟩
   have zm:=oT zd;refine lB 103 zd (lL c [.m 104 103] (lG 105 ?_));refine lG 106 (lG 107 (lG 108 (lG 109 (lG 110 (lG 111 (lG 112 (lL c [.v 113 qT] (ak (cK (kZ (aa c [.m 114 18] ?_)))))))))));have hq2:0<p:=by first|omega|exact cI (show 4294967296*t+u0<p*y0 by omega)
   have f:=O.dec d oM z (by first|exact .inl oM|exact .inr oM);refine lV 115 (mV (p-1)) ?_ (hr:=rU (((p:Int)-(1:Int))) kR (d9 p 1 oM oM));refine lL c [.m 18 115] (aI (lL c [.m 116 16,.m 117 9] (lV 118 (mV (t+y1)) ?_ (hr:=rU (((t:Int)+(y1:Int))) kR (dD t y1 oM)))));refine lL c [.m 16 118] (aI (lL c [.m 119 16] ?_));cases zg:(decide ((4294967296:Int)≤((t+y1:Nat):Int)))
   ·
    have zp:=oF zg;refine lB 120 zg (af (CG.skip ?_));intro B i;refine ⟨_,_,?_,⟨p-1,t+y1,X,rfl,rfl,c.to _ _,f,oM⟩,i.to _ kR⟩
    omega
   have zp:=oT zg;refine lB 120 zg (ak (CG.exit ?_));intro B i;exact ⟨_,⟨(p-1),X,rfl,c.to _ _,(by first|exact O.fin d oM|exact f.brk d oM oM (by have:=f.qb;omega))⟩,i.to _ kR⟩
  rintro _ _ ⟨o,_,rfl,c,hE⟩;refine av ?_;obtain ⟨hE1,hE2,hE3⟩:=hE;have hE4:=ot (u1:=u0) z oM;rw[←hE1] at hE4
  refine lL c [.m 121 15] (lV 122 (mV (j*4294967296)) ?_ (hr:=rU (((j:Int)*(4294967296:Int))) kR (fT j 4294967296 oM)));refine lL c [.m 123 18] (lV 124 (mV ((j*4294967296)+o)) ?_ (hr:=rU ((((j*4294967296:Nat):Int)+(o:Int))) kR (dD (j*4294967296) o oM)));refine lL c [.m 125 17] (lV 126 (mV ((r1*4294967296)%18446744073709551616)) ?_ (hr:=rU (((r1:Int)*(4294967296:Int))) kR (ja r1 4294967296)));refine lL c [.m 127 14] (lV 128 (mV ((((r1*4294967296)%18446744073709551616)+u0)%18446744073709551616)) ?_ (hr:=rU (((((r1*4294967296)%18446744073709551616:Nat):Int)+(u0:Int))) kR (uT ((r1*4294967296)%18446744073709551616) u0)));refine lL c [.m 129 18,.m 130 2] (lV 131 (mV ((o*Y)%18446744073709551616)) ?_ (hr:=rU (((o:Int)*(Y:Int))) kR (ja o Y)));obtain ⟨R,hR⟩:∃ e,e=(r1*4294967296+u0)%Y:=⟨_,rfl⟩;have hRY:R<Y:=by rw[hR];exact A4 _ oM
  refine lV 132 (mV R) ?_ (hr:=aK (aK (n:=JJ .u64 ((((((r1*4294967296)%18446744073709551616)+u0)%18446744073709551616:Nat):Int)-(((o*Y)%18446744073709551616:Nat):Int))) kR (kc ((((r1*4294967296)%18446744073709551616)+u0)%18446744073709551616:Nat) ((o*Y)%18446744073709551616) oM)) (by rw[mS hE3 (hE2.trans hR.symm) oM]));refine lL c [.m 133 8] (lV 134 (mV (R/2^s)) ?_ (hr:=fV (t:=34) (u:=140) (x:=.tmp 132) (y:=.tmp 133) (ky:=.u64) (a:=R) (n:=s) kR kR kR oM _));refine lL c [.m 6 124,.m 7 134] (lN (kX ?_));obtain ⟨hB1,hB2⟩:=tK (A:=hi*18446744073709551616+lo) (y:=y) hY L (show u10=u1*4294967296+u0 by omega) oM hF1 hr1 hE1 hR;exact c.ret [] (.tuple #[mV ((j*4294967296)+o),mV (R/2^s)]) (⟨_,_,rfl,hB1,hB2,by omega⟩)
 have Q:=ML F;refine lB 27 F (ak (cQ (cR 6 [] mixed c ar ?_)));refine eV 0 28 (mV lo) (eV 1 29 (mV y) (eV 2 30 (mV (lo/y)) ?_ (hv:=fun _=>aK (dl (t:=34) (u:=34) (x:=.tmp 28) (y:=.tmp 29) (k:=.u64) (a:=(lo:Int)) (b:=(y:Int)) kR kR kR oM _) (jZ lo y oM))));refine eV 3 31 (mV lo) (eV 4 32 (mV y) (eV 5 33 (mV (lo%y)) ?_ (hv:=fun _=>aK (dU (t:=34) (u:=34) (x:=.tmp 31) (y:=.tmp 32) (k:=.u64) (a:=(lo:Int)) (b:=(y:Int)) kR kR kR oM _) (cp lo y))));refine ck c (fun _ _ c=>tV 6 6 (mV (lo/y)) (tV 7 7 (mV (lo%y)) (tN (kX ?_))));have hdm:=Ku lo y;have hml:=A4 lo (show 0<y by omega);have bl:=JT lo y;have hh0:hi=0:=by omega
 subst hh0;exact c.ret [] (.tuple #[mV (lo/y),mV (lo%y)]) (⟨lo/y,lo%y,rfl,by rw[zZ,z6];exact hdm.symm,hml,by omega⟩)
def CW (h1:Hp)(v:Value)(m:Nat)(Q:List Nat→Prop):Prop:=∃ A c,∃ z:List Nat,v=.slice A z.length c∧z.length≤c∧z.length=m∧Wd z∧Q z∧SlO 1 am 0 h1 A z
theorem Wd.set {l:List Nat}(h:Wd l)(k:Nat){x:Nat}(a:x<18446744073709551616):Wd (l.set k x):=Dg.set h k a
theorem Wd.rep (n:Nat):Wd (Am n 0):=Dg.rep kD
theorem ox {l:List Nat}{k j x:Nat}(a:k<l.length)(h:∀ i,j≤i→l.getD i 0=0)(b:k<j):∀ i,j≤i→(l.set k x).getD i 0=0:=fun i hi=>by rw[bF a,MM oM];exact h i hi
theorem C9 (A:Option Addr)(c:Nat)(x:List Nat)(D:Option Addr)(d:Nat)(y:List Nat)(hx:Wd x)(hy:Wd y)(hlx:x.length≤1000000000)(hly:y.length≤1000000000)(w:World)(h:Hp)(g:G w h)(hA:SlO 1 am 0 h A x)(hD:SlO 1 am 0 h D y):CR 167 #[.slice A x.length c,.slice D y.length d] w h (fun v h1=>CW h1 v (x.length+y.length) (fun z=>aD z=aD x*aD y)):=by
 have e:=(((sS g).aS hA).aS hD);refine go Tryz.func167 [(0,qS A x.length c),(1,qS D y.length d)] rfl (aa e [.v 4 (sZ)] (aI (lL e [.m 15 0,.v 16 (nV x.length),.m 17 1,.v 18 (nV y.length)] (bD 19 ((x.length:Nat)+(y.length:Nat)) (x.length+y.length) ?_))));refine lK 20 34 (x.length+y.length) 1 8 (uV 0) am 0 e (fun B w2 h3 e=>?_);have Y:(Am (x.length+y.length) 0).length=(x.length+y.length):=by simp
 refine lL e [.m 5 20] (ah (aa e [.m 21 0,.v 22 (nV x.length),.v 23 (iV 0)] (a8 ?_)));refine bH _ (CG.loop (fun M Γ w_=>∃ (i:Nat) (l:List Nat) (C:Hp),M=x.length-i∧Γ=[(1,qS D y.length d),(4,sZ),(5,qS (sB B) (x.length+y.length) (x.length+y.length)),(21,qS A x.length c),(22,nV x.length),(23,nV i)]∧SS w h w_ C [⟨B,34,(l).flatMap am⟩] [] [fun C=>SlO 1 am 0 C D y,fun C=>SlO 1 am 0 C A x]∧i≤x.length∧l.length=x.length+y.length∧Wd l∧aD l=aj 18446744073709551616 (x.take i)*aD y∧(∀ k,i+y.length≤k→l.getD k 0=0)) _ ⟨0,Am (x.length+y.length) 0,h3,rfl,rfl,e.to _ _,K7 _,Y,Wd.rep _,(by show aj _ _=_;rw[dk];simp[aj]),fun k _=>dM⟩ ?_);rintro _ _ w5 ⟨i,l,h6,hm7,rfl,e,hi,K,hW,hv,hz⟩;refine av ?_;cases I:(decide ((i:Int)<(x.length:Int)))
 ·
  have S:=oF I;refine lB 24 I (ah (cv (CG.exit ?_)))
  show CG _ _ _ _ _ _ _ _
  refine aa e [.m 79 5,.m 4 79] (lN (kX ?_));have hix:i=x.length:=by omega
  rw[hix,zy] at hv
  obtain ⟨h9,e,V,bq,bw⟩:=e.pub 0;replace e:=(e.to [] []).aS (SlO.of_flat (sz:=1) (f:=am) (d:=0) (b:=B) (o:=0) (l:=l) (fun _=>rfl) V);exact e.ret [] (qS (sB B) (x.length+y.length) (x.length+y.length)) (⟨sB B,_,l,by rw[K],by omega,K,hW,hv,e.f.1⟩)
 have S:=oT I;refine lB 24 I (ah (ce (cK (cQ (kZ (aa e [.m 25 23] (lX 26 A x.length c 1 (i:Nat) i ((e.f.2.1).ok oM) ?_)))))));refine lH 27 (mV (x.getD i 0)) e ((e.f.2.1).el i oM) (lL e [.m 6 25,.m 7 27] (aI (lL e [.v 8 (uV 0)] (ah (aa e [.m 28 1,.v 29 (nV y.length),.v 30 (iV 0)] (a8 ?_))))));refine bH _ (CG.loop (fun M Γ w_=>∃ (j:Nat) (l2:List Nat) (F:Nat) (C:Hp),M=y.length-j∧Γ=[(1,qS D y.length d),(4,sZ),(5,qS (sB B) (x.length+y.length) (x.length+y.length)),(21,qS A x.length c),(22,nV x.length),(23,nV i),(6,nV i),(7,mV (x.getD i 0)),(28,qS D y.length d),(29,nV y.length),(30,nV j),(8,mV F)]∧SS w h w_ C [⟨B,34,(l2).flatMap am⟩] [] [fun C=>SlO 1 am 0 C D y,fun C=>SlO 1 am 0 C A x]∧j≤y.length∧l2.length=x.length+y.length∧Wd l2∧F<18446744073709551616∧aj 18446744073709551616 l2+18446744073709551616^(i+j)*F=aD l+18446744073709551616^i*(x.getD i 0*aj 18446744073709551616 (y.take j))∧(∀ k,i+y.length≤k→l2.getD k 0=0)) _ ⟨0,l,0,h6,rfl,rfl,e.to _ _,K7 _,K,hW,by omega,(by show aj _ l+_=aj _ l+_;simp[aj]),hz⟩ ?_);rintro _ _ _ ⟨j,l2,F,zi,bm,rfl,e,hj,J,L,hc,inv,O⟩;have hlk:=L.get (i+j);refine av ?_;cases X:(decide ((j:Int)<(y.length:Int)))
 ·
  have zd:=oF X;refine lB 31 X (ah (cv (CG.exit ?_)))
  show CG _ _ _ _ _ _ _ _
  refine kQ (lL e [.m 71 5,.m 72 6,.m 73 1,.v 74 (nV y.length)] (bD 75 ((i:Nat)+(y.length:Nat)) (i+y.length) ?_));refine lL e [.m 76 8] (lX 77 (sB B) (x.length+y.length) (x.length+y.length) 1 (i+y.length:Nat) (i+y.length) rfl ?_);refine lW 0 l2 am 1 (i+y.length) F e oM (fun _ e=>?_);have zf:((l2).set (i+y.length) F).length=(x.length+y.length):=by rw[KP];exact J
  replace e:=e.to [⟨B,34,((l2).set (i+y.length) F).flatMap am⟩] [];refine lN (kQ (bD 78 ((i:Nat)+1) (i+1) ?_));refine lL e [.m 23 78] (lD ?_);intro a_ Z;refine ⟨_,_,?_,⟨i+1,(l2).set (i+y.length) F,zi,rfl,rfl,e.to _ _,oM,zf,(L.set _ hc),(by have hjy:j=y.length:=oM;rw[hjy] at inv;exact (rN oM inv (O _ oM)).trans (sx hv)),(ox oM (fun k hk=>O k oM) oM)⟩,Z.to _ kR⟩
  omega
 have zd:=oT X;refine lB 31 X (ah (ce (cK (cQ (kZ (aa e [.m 32 30] (lX 33 D y.length d 1 (j:Nat) j ((e.f.1).ok oM) ?_)))))));refine lH 34 (mV (y.getD j 0)) e ((e.f.1).el j oM) (lL e [.m 9 32,.m 10 34] (aI (lL e [.m 36 7,.m 37 10] (lC 38 e (kP (x.getD i 0) (y.getD j 0) wM wM _ _ e.g) ?_))));rintro _ _ zj e ⟨p,ze,rfl,b3,bn,bt,bb⟩;have W:=gM (a:=(x.getD i 0)) (b:=(y.getD j 0)) wM wM;refine lL e [.m 35 38,.v 39 (mV p),.v 40 (mV ze),.m 11 39,.m 12 40] (aI (lL e [.m 42 12,.m 43 5,.m 44 6,.m 45 9] (bD 46 ((i:Nat)+(j:Nat)) (i+j) ?_)));refine lX 47 (sB B) (x.length+y.length) (x.length+y.length) 1 (i+j:Nat) (i+j) rfl (lQ 48 0 l2 am 1 0 (i+j) (mV ((l2).getD (i+j) 0)) e oM ?_);obtain ⟨H,za,br,bk,bl,Q⟩:=cP ze ((l2).getD (i+j) 0) 0 wM wM oM;refine lV 49 (.tuple #[mV H,mV za]) ?_ (hr:=cJ kR (Q _));refine lL e [.m 41 49,.v 50 (mV H),.v 51 (mV za),.m 13 50,.m 14 51] (aI (lL e [.m 52 11,.m 53 14] (lV 54 (mV (p+za)) ?_ (hr:=rU (((p:Int)+(za:Int))) kR (dD p za oM)))));refine lL e [.m 11 54] (lN (bH [(1,qS D y.length d),(4,sZ),(5,qS (sB B) (x.length+y.length) (x.length+y.length)),(21,qS A x.length c),(22,nV x.length),(23,nV i),(6,nV i),(7,mV (x.getD i 0)),(28,qS D y.length d),(29,nV y.length),(30,nV j),(8,mV F),(9,nV j),(11,mV (p+za)),(13,mV H),(14,mV za)] ?_));refine aa e [.m 56 13,.m 57 8] ?_;obtain ⟨u,zb,b2,b0,bd,U⟩:=cP H F 0 wM wM oM;refine lV 58 (.tuple #[mV u,mV zb]) ?_ (hr:=cJ kR (U _));refine lL e [.m 55 58,.v 59 (mV u),.v 60 (mV zb),.m 13 59,.m 14 60] (lN (kQ (lL e [.m 61 5,.m 62 6,.m 63 9] (bD 64 ((i:Nat)+(j:Nat)) (i+j) ?_))));refine lL e [.m 65 13,.m 66 11,.m 67 14] (lV 68 (mV ((p+za)+zb)) ?_ (hr:=rU ((((p+za:Nat):Int)+(zb:Int))) kR (dD (p+za) zb oM)));refine lX 69 (sB B) (x.length+y.length) (x.length+y.length) 1 (i+j:Nat) (i+j) rfl (lW 0 l2 am 1 (i+j) u e oM (fun _ e=>?_));have zg:((l2).set (i+j) u).length=(x.length+y.length):=by rw[KP];exact J
 replace e:=e.to [⟨B,34,((l2).set (i+j) u).flatMap am⟩] [];refine lL e [.m 8 68] (lN (kQ (bD 70 ((j:Nat)+1) (j+1) ?_)));refine lL e [.m 30 70] (lD ?_);intro a_ Z;refine ⟨_,_,?_,⟨j+1,(l2).set (i+j) u,((p+za)+zb),zj,rfl,rfl,e.to _ _,oM,zg,(L.set _ oM),oM,(mf oM inv oM),(ox oM O oM)⟩,Z.to _ kR⟩
 omega
theorem BD {x:List Nat}(a:Wd x){n:Nat}(h:x.length≤n/64):aD x<2^n:=by
 have h1:=bP a;have c:(18446744073709551616:Nat)^x.length=2^(64*x.length):=by rw[Nat.pow_mul]
 have b:(2:Nat)^(64*x.length)≤2^n:=Kb oM oM
 show aj _ x<_
 omega
theorem mH {l:List Nat}{k x:Nat}(a:k<l.length)(h:∀ i,k≤i→l.getD i 0=0):∀ i,k+1≤i→(l.set k x).getD i 0=0:=fun i hi=>by rw[bF a,MM oM];exact h i oM
theorem uF (A:Option Addr)(c:Nat)(x:List Nat)(hx:Wd x)(Z:x.length≤1000000000)(n:Nat)(hn:n≤1000000000)(w:World)(h:Hp)(g:G w h)(hA:SlO 1 am 0 h A x):CR 223 #[.slice A x.length c,nV n] w h (fun v h1=>CW h1 v (x.length+n/64+1) (fun z=>aD z=aD x*2^n)):=by
 have e:=((sS g).aS hA);refine go Tryz.func223 [(0,qS A x.length c),(1,nV n)] rfl (aa e [.v 4 (sZ)] (aI (lL e [.m 10 1] (lV 11 (nV (n/64)) ?_ (hr:=aK (dl (t:=3) (u:=3) (x:=.tmp 10) (y:=.const (iV 64)) (k:=.i64) (a:=(n:Int)) (b:=(64:Int)) kR kR kR oM _) (dh n 64 oM))))));refine lL e [.m 12 1] (lV 13 (nV (n%64)) ?_ (hr:=aK (dU (t:=3) (u:=3) (x:=.tmp 12) (y:=.const (iV 64)) (k:=.i64) (a:=(n:Int)) (b:=(64:Int)) kR kR kR oM _) (cp n 64)));refine lV 14 (mV (n%64)) ?_ (hr:=rU (((n%64:Nat):Int)) kR (ba oM oM));refine lL e [.m 5 11,.m 6 14] (aI (lL e [.m 15 0,.v 16 (nV x.length),.m 17 5] (bD 18 ((x.length:Nat)+(n/64:Nat)) (x.length+(n/64)) ?_)));refine bD 19 ((x.length+(n/64):Nat)+1) ((x.length+(n/64))+1) (lK 20 34 ((x.length+(n/64))+1:Nat) 1 8 (uV 0) am 0 e (fun j w2 h3 e=>?_));have H:(Am ((x.length+(n/64))+1:Nat) 0).length=((x.length+(n/64))+1:Nat):=by simp
 refine lL e [.m 7 20] (ah (aa e [.m 21 0,.v 22 (nV x.length),.v 23 (iV 0)] (a8 ?_)));refine bH _ (CG.loop (fun M Γ w_=>∃ (i:Nat) (l:List Nat) (Q:Hp),M=x.length-i∧Γ=[(4,sZ),(5,nV (n/64)),(6,mV (n%64)),(7,qS (sB j) ((x.length+(n/64))+1:Nat) ((x.length+(n/64))+1:Nat)),(21,qS A x.length c),(22,nV x.length),(23,nV i)]∧SS w h w_ Q [⟨j,34,(l).flatMap am⟩] [] [fun Q=>SlO 1 am 0 Q A x]∧i≤x.length∧l.length=x.length+n/64+1∧Wd l∧aD l=2^(n%64)*(18446744073709551616^(n/64)*aj 18446744073709551616 (x.take i))∧l.getD (i+n/64) 0<2^(n%64)∧(∀ k,i+n/64+1≤k→l.getD k 0=0)) _ ⟨0,Am ((x.length+(n/64))+1:Nat) 0,h3,rfl,rfl,e.to _ _,K7 _,H,Wd.rep _,(by show aj _ _=_;rw[dk];simp[aj]),(by rw[dM];exact Ka _),fun k _=>dM⟩ ?_);rintro _ _ w5 ⟨i,l,X,hm7,rfl,e,hi,C,O,hv,ho,hz⟩;refine av ?_;cases B:(decide ((i:Int)<(x.length:Int)))
 ·
  have F:=oF B;refine lB 24 B (ah (cv (CG.exit ?_)))
  show CG _ _ _ _ _ _ _ _
  refine aa e [.m 50 7,.m 4 50] (lN (kX ?_));have L:i=x.length:=by omega
  rw[L,zy] at hv
  obtain ⟨h9,e,D,W,V⟩:=e.pub 0;replace e:=(e.to [] []).aS (SlO.of_flat (sz:=1) (f:=am) (d:=0) (b:=j) (o:=0) (l:=l) (fun _=>rfl) D);exact e.ret [] (qS (sB j) ((x.length+(n/64))+1:Nat) ((x.length+(n/64))+1:Nat)) (⟨sB j,_,l,by rw[C],by omega,C,O,(by show aD l=_;rw[hv,wY n];show _*(_*aD x)=_;ac_rfl),e.f.1⟩)
 have F:=oT B;refine lB 24 B (ah (ce (cK (cQ (kZ (aa e [.m 25 23] (lX 26 A x.length c 1 (i:Nat) i ((e.f.1).ok oM) ?_)))))));refine lH 27 (mV (x.getD i 0)) e ((e.f.1).el i oM) (lL e [.m 8 25,.m 9 27] (aI (lL e [.m 28 7,.m 29 8,.m 30 5] (bD 31 ((i:Nat)+(n/64:Nat)) (i+(n/64)) ?_))));refine lX 32 (sB j) ((x.length+(n/64))+1:Nat) ((x.length+(n/64))+1:Nat) 1 (i+(n/64):Nat) (i+(n/64)) rfl (lQ 33 0 l am 1 0 (i+(n/64)) (mV ((l).getD (i+(n/64)) 0)) e oM (lL e [.m 34 9,.m 35 6] (lV 36 (mV ((x.getD i 0)*2^(n%64)%18446744073709551616)) ?_ (hr:=gf (t:=34) (u:=140) (x:=.tmp 34) (y:=.tmp 35) (ky:=.u64) (a:=(x.getD i 0)) (n:=(n%64)) kR kR kR _))));have J:=hx.get i;obtain ⟨S,K,I,U⟩:=uI (x:=x.getD i 0) (p:=n%64) (o:=l.getD (i+n/64) 0) oM J ho;have Y:=O.get (i+n/64);refine lV 37 (mV (l.getD (i+n/64) 0+x.getD i 0*2^(n%64)%18446744073709551616)) ?_ (hr:=aK (gB (t:=34) (u:=34) (x:=.tmp 33) (y:=.tmp 36) (a:=((l).getD (i+(n/64)) 0:Nat)) (b:=((x.getD i 0)*2^(n%64)%18446744073709551616)) kR kR kR oM oM _) (by rw[S]));refine lX 38 (sB j) ((x.length+(n/64))+1:Nat) ((x.length+(n/64))+1:Nat) 1 (i+(n/64):Nat) (i+(n/64)) rfl (lW 0 l am 1 (i+(n/64)) (l.getD (i+n/64) 0+x.getD i 0*2^(n%64)%18446744073709551616) e oM (fun _ e=>?_));have za:((l).set (i+(n/64)) (l.getD (i+n/64) 0+x.getD i 0*2^(n%64)%18446744073709551616)).length=((x.length+(n/64))+1:Nat):=by rw[KP];exact C
 replace e:=e.to [⟨j,34,((l).set (i+(n/64)) (l.getD (i+n/64) 0+x.getD i 0*2^(n%64)%18446744073709551616)).flatMap am⟩] [];refine lN (kQ (lL e [.m 39 7,.m 40 8,.m 41 5] (bD 42 ((i:Nat)+(n/64:Nat)) (i+(n/64)) ?_)));refine bD 43 ((i+(n/64):Nat)+1) ((i+(n/64))+1) (lL e [.m 44 9,.m 45 6] (lV 46 (mV (64-(n%64))) ?_ (hr:=rU (((64:Int)-((n%64:Nat):Int))) kR (d9 64 (n%64) oM oM))));refine lV 47 (mV ((x.getD i 0)/2^(64-(n%64)))) ?_ (hr:=fV (t:=34) (u:=140) (x:=.tmp 44) (y:=.tmp 46) (ky:=.u64) (a:=(x.getD i 0)) (n:=(64-(n%64))) kR kR kR oM _);refine lX 48 (sB j) ((x.length+(n/64))+1:Nat) ((x.length+(n/64))+1:Nat) 1 ((i+(n/64))+1:Nat) ((i+(n/64))+1:Nat) rfl (lW 0 ((l).set (i+(n/64)) (l.getD (i+n/64) 0+x.getD i 0*2^(n%64)%18446744073709551616)) am 1 ((i+(n/64))+1:Nat) ((x.getD i 0)/2^(64-(n%64)):Nat) e oM (fun _ e=>?_));have zb:(((l).set (i+(n/64)) (l.getD (i+n/64) 0+x.getD i 0*2^(n%64)%18446744073709551616)).set ((i+(n/64))+1:Nat) ((x.getD i 0)/2^(64-(n%64)):Nat)).length=((x.length+(n/64))+1:Nat):=by rw[KP];exact za
 replace e:=e.to [⟨j,34,(((l).set (i+(n/64)) (l.getD (i+n/64) 0+x.getD i 0*2^(n%64)%18446744073709551616)).set ((i+(n/64))+1:Nat) ((x.getD i 0)/2^(64-(n%64)):Nat)).flatMap am⟩] [];refine lN (kQ (bD 49 ((i:Nat)+1) (i+1) ?_));refine lL e [.m 23 49] (lD ?_);intro a_ ka;refine ⟨_,_,?_,⟨i+1,((l).set (i+(n/64)) (l.getD (i+n/64) 0+x.getD i 0*2^(n%64)%18446744073709551616)).set ((i+(n/64))+1:Nat) ((x.getD i 0)/2^(64-(n%64)):Nat),X,rfl,rfl,e.to _ _,oM,zb,((O.set _ K).set _ (by have:=JT (x.getD i 0) (2^(64-n%64));omega)),(xx oM hv (hz _ oM) I rfl rfl),(by rw[show i+1+n/64=i+n/64+1 by omega,bF (by rw[KP];omega),MN rfl];exact U),(fun k hk=>by rw[bF (by rw[KP];omega),MM oM,bF oM,MM oM];exact hz k oM)⟩,ka.to _ kR⟩
 omega
theorem HU (A:Option Addr)(c:Nat)(x:List Nat)(Y:Wd x)(hlx:x.length≤1000000000)(n:Nat)(hn:n≤1000000000)(w:World)(h:Hp)(g:G w h)(hA:SlO 1 am 0 h A x):CR 225 #[.slice A x.length c,nV n] w h (fun v h1=>CW h1 v (x.length-n/64) (fun z=>aD z=aD x/2^n)):=by
 have e:=((sS g).aS hA);refine go Tryz.func225 [(0,qS A x.length c),(1,nV n)] rfl (aa e [.v 4 (sZ)] (aI (lL e [.m 9 1] (lV 10 (nV (n/64)) ?_ (hr:=aK (dl (t:=3) (u:=3) (x:=.tmp 9) (y:=.const (iV 64)) (k:=.i64) (a:=(n:Int)) (b:=(64:Int)) kR kR kR oM _) (dh n 64 oM))))));refine lL e [.m 11 1] (lV 12 (nV (n%64)) ?_ (hr:=aK (dU (t:=3) (u:=3) (x:=.tmp 11) (y:=.const (iV 64)) (k:=.i64) (a:=(n:Int)) (b:=(64:Int)) kR kR kR oM _) (cp n 64)));refine lV 13 (mV (n%64)) ?_ (hr:=rU (((n%64:Nat):Int)) kR (ba oM oM));refine lL e [.m 5 10,.m 6 13] (ah (aa e [.m 14 5,.m 15 0,.v 16 (nV x.length)] ?_));cases D:(decide ((x.length:Int)≤((n/64:Nat):Int)))
 ·
  have I:=oF D;refine lB 17 D (af (cK (aa e [.m 18 0,.v 19 (nV x.length),.m 20 5] (bD 21 ((x.length:Nat)-(n/64:Nat)) (x.length-(n/64)) ?_))));refine lK 22 34 (x.length-(n/64)) 1 8 (uV 0) am 0 e (fun B w3 h4 e=>?_);have X:(Am (x.length-(n/64)) 0).length=(x.length-(n/64)):=by simp
  refine lL e [.m 7 22] (ah (aa e [.m 23 7,.v 24 (nV (x.length-(n/64))),.v 25 (iV 0)] (a8 ?_)));refine bH _ (CG.loop (fun Q Γ w_=>∃ (i:Nat) (l:List Nat) (U:Hp),Q=x.length-n/64-i∧Γ=[(0,qS A x.length c),(4,sZ),(5,nV (n/64)),(6,mV (n%64)),(7,qS (sB B) (x.length-(n/64)) (x.length-(n/64))),(24,nV (x.length-(n/64))),(25,nV i)]∧SS w h w_ U [⟨B,34,(l).flatMap am⟩] [] [fun U=>SlO 1 am 0 U A x]∧i≤x.length-n/64∧l.length=x.length-n/64∧Wd l∧2^(n%64)*aj 18446744073709551616 l+(x.drop (n/64)).getD 0 0%2^(n%64)=aj 18446744073709551616 ((x.drop (n/64)).take i)+18446744073709551616^i*((x.drop (n/64)).getD i 0%2^(n%64))∧(∀ k,i≤k→l.getD k 0=0)) _ ⟨0,Am (x.length-(n/64)) 0,h4,rfl,rfl,e.to _ _,K7 _,X,Wd.rep _,(by rw[dk];simp[aj]),fun k _=>dM⟩ ?_);rintro _ _ w6 ⟨i,l,h7,hm8,rfl,e,hi,J,S,inv,hz⟩;refine av ?_;cases C:(decide ((i:Int)<(((x.length-(n/64)):Nat):Int)))
  ·
   have K:=oF C;refine lB 26 C (ah (cv (CG.exit ?_)))
   show CG _ _ _ _ _ _ _ _
   refine aa e [.m 63 7,.m 4 63] (lN (kX ?_));have hix:i=x.length-n/64:=by omega
   have hE:=Ak (W:=x.drop (n/64)) (m:=i) (by rw[Kx];omega) inv;rw[m6 Y oM,Nat.div_div_eq_div_mul,←wY n] at hE
   obtain ⟨_,e,H,bd,bb⟩:=e.pub 0;replace e:=(e.to [] []).aS (SlO.of_flat (sz:=1) (f:=am) (d:=0) (b:=B) (o:=0) (l:=l) (fun _=>rfl) H);exact e.ret [] (qS (sB B) (x.length-(n/64)) (x.length-(n/64))) (⟨sB B,_,l,by rw[J],by omega,by omega,S,hE,e.f.1⟩)
  have K:=oT C;refine lB 26 C (ah (ce (cK (cQ (kZ (aa e [.m 27 25,.m 8 27] (aI (lL e [.m 28 7,.m 29 8,.m 30 0,.m 31 8,.m 32 5] (bD 33 ((i:Nat)+(n/64:Nat)) (i+(n/64)) ?_)))))))));refine lX 34 A x.length c 1 (i+(n/64):Nat) (i+(n/64)) ((e.f.1).ok oM) (lH 35 (mV (x.getD (i+(n/64)) 0)) e ((e.f.1).el (i+(n/64)) oM) (lL e [.m 36 6] ?_));have M:=Y.get (i+n/64);refine lV 37 (mV ((x.getD (i+(n/64)) 0:Nat)/2^(n%64))) ?_ (hr:=fV (t:=34) (u:=140) (x:=.tmp 35) (y:=.tmp 36) (ky:=.u64) (a:=(x.getD (i+(n/64)) 0:Nat)) (n:=(n%64)) kR kR kR oM _);refine lX 38 (sB B) (x.length-(n/64)) (x.length-(n/64)) 1 (i:Nat) i rfl (lW 0 l am 1 i ((x.getD (i+(n/64)) 0:Nat)/2^(n%64):Nat) e oM (fun _ e=>?_));have zb:((l).set i ((x.getD (i+(n/64)) 0:Nat)/2^(n%64):Nat)).length=(x.length-(n/64)):=by rw[KP];exact J
  replace e:=e.to [⟨B,34,((l).set i ((x.getD (i+(n/64)) 0:Nat)/2^(n%64):Nat)).flatMap am⟩] [];refine aI (lL e [.m 39 8,.m 40 5] (bD 41 ((i:Nat)+(n/64:Nat)) (i+(n/64)) ?_));refine bD 42 ((i+(n/64):Nat)+1) ((i+(n/64))+1) (lL e [.m 43 0,.v 44 (nV x.length)] ?_);cases za:(decide ((((i+(n/64))+1:Nat):Int)<(x.length:Int)))
  ·
   have zc:=oF za;refine lB 45 za (af (cK (kQ (bD 62 ((i:Nat)+1) (i+1) ?_))));refine lL e [.m 25 62] (lD ?_);intro a_ V;refine ⟨_,_,?_,⟨i+1,(l).set i ((x.getD (i+(n/64)) 0:Nat)/2^(n%64):Nat),h7,rfl,rfl,e.to _ _,oM,zb,(S.set _ (by have:=JT (x.getD (i+n/64) 0) (2^(n%64));omega)),(oo oM inv (hz _ (nR _)) (by rw[bG,bG,show n/64+i=i+n/64 by omega,bM (show x.length≤n/64+(i+1) by omega),Nat.zero_mod,J6,y8];exact Ku _ _)),(mH oM hz)⟩,V.to _ kR⟩
   omega
  have zc:=oT za;refine lB 45 za (ak (cR 15 [] mixed e ar ?_));refine eV 0 46 (qS (sB B) (x.length-(n/64)) (x.length-(n/64))) (eV 1 47 (nV i) (eX 2 48 (sB B) (x.length-(n/64)) (x.length-(n/64)) 1 (i:Nat) i rfl (eQ 3 49 0 ((l).set i ((x.getD (i+(n/64)) 0:Nat)/2^(n%64):Nat)) am 1 0 i (mV (((l).set i ((x.getD (i+(n/64)) 0:Nat)/2^(n%64):Nat)).getD i 0)) e oM (eV 4 50 (qS A x.length c) (eV 5 51 (nV i) (eV 6 52 (nV (n/64)) (jy 7 53 ((i:Nat)+(n/64:Nat)) (i+(n/64)) (jy 8 54 ((i+(n/64):Nat)+1) ((i+(n/64))+1) (eX 9 55 A x.length c 1 ((i+(n/64))+1:Nat) ((i+(n/64))+1:Nat) ((e.f.1).ok oM) (eH 10 56 (mV (x.getD ((i+(n/64))+1:Nat) 0)) e ((e.f.1).el ((i+(n/64))+1:Nat) oM) (eV 11 57 (mV (n%64)) (eV 12 58 (mV (64-(n%64))) ?_ (hv:=fun _=>rU (((64:Int)-((n%64:Nat):Int))) kR (d9 64 (n%64) oM oM))))))))))))));refine eV 13 59 (mV ((x.getD ((i+(n/64))+1:Nat) 0:Nat)*2^(64-(n%64))%18446744073709551616)) ?_ (hv:=fun _=>gf (t:=34) (u:=140) (x:=.tmp 56) (y:=.tmp 58) (ky:=.u64) (a:=(x.getD ((i+(n/64))+1:Nat) 0:Nat)) (n:=(64-(n%64))) kR kR kR _);obtain ⟨Z,O,L⟩:=pL (x:=x.getD (i+n/64) 0) (y:=x.getD (i+n/64+1) 0) (p:=n%64) oM M;have hdv:=JT (x.getD (i+n/64) 0) (2^(n%64));have F:=bF (l:=l) (k:=i) (j:=i) (x:=x.getD (i+n/64) 0/2^(n%64)) oM;rw[MN rfl] at F
  refine eV 14 60 (mV (x.getD (i+n/64) 0/2^(n%64)+x.getD (i+n/64+1) 0*2^(64-n%64)%18446744073709551616)) ?_ (hv:=fun _=>aK (gB (t:=34) (u:=34) (x:=.tmp 49) (y:=.tmp 59) (a:=(((l).set i ((x.getD (i+(n/64)) 0:Nat)/2^(n%64):Nat)).getD i 0:Nat)) (b:=((x.getD ((i+(n/64))+1:Nat) 0:Nat)*2^(64-(n%64))%18446744073709551616:Nat)) kR kR kR oM oM _) (by rw[F,Z]));refine ck e (fun _ ze e=>tX 15 61 (sB B) (x.length-(n/64)) (x.length-(n/64)) 1 (i:Nat) i rfl (tW 16 0 ((l).set i ((x.getD (i+(n/64)) 0:Nat)/2^(n%64):Nat)) am 1 i (x.getD (i+n/64) 0/2^(n%64)+x.getD (i+n/64+1) 0*2^(64-n%64)%18446744073709551616) e oM (fun _ e=>?_)));have zd:(((l).set i ((x.getD (i+(n/64)) 0:Nat)/2^(n%64):Nat)).set i (x.getD (i+n/64) 0/2^(n%64)+x.getD (i+n/64+1) 0*2^(64-n%64)%18446744073709551616)).length=(x.length-(n/64)):=by rw[KP];exact zb
  replace e:=e.to [⟨B,34,(((l).set i ((x.getD (i+(n/64)) 0:Nat)/2^(n%64):Nat)).set i (x.getD (i+n/64) 0/2^(n%64)+x.getD (i+n/64+1) 0*2^(64-n%64)%18446744073709551616)).flatMap am⟩] [];refine tN (bH [(0,qS A x.length c),(4,sZ),(5,nV (n/64)),(6,mV (n%64)),(7,qS (sB B) (x.length-(n/64)) (x.length-(n/64))),(24,nV (x.length-(n/64))),(25,nV i)] ?_);refine kQ (bD 62 ((i:Nat)+1) (i+1) ?_);refine lL e [.m 25 62] (lD ?_);intro a_ V;refine ⟨_,_,?_,⟨i+1,((l).set i ((x.getD (i+(n/64)) 0:Nat)/2^(n%64):Nat)).set i (x.getD (i+n/64) 0/2^(n%64)+x.getD (i+n/64+1) 0*2^(64-n%64)%18446744073709551616),ze,rfl,rfl,e.to _ _,oM,zd,((S.set _ oM).set _ O),(by rw[Lc];exact oo oM inv (hz _ (nR _)) (by rw[bG,bG,show n/64+i=i+n/64 by omega,show n/64+(i+1)=i+n/64+1 by omega];exact L)),(by rw[Lc];exact mH oM hz)⟩,V.to _ kR⟩
  omega
 have I:=oT D;exact lB 17 D (ak (aa e [.v 4 (sZ)] (ac e [] (sZ) (⟨none,0,[],rfl,by simp,by simp;omega,Dg.nil,(by show 0=_;exact (JW (BD Y oM)).symm),SlO.nil⟩))))
theorem I4 {a b:Nat}(ha:a<18446744073709551616)(d:b<18446744073709551616):a*b≤340282366920938463426481119284349108225:=by
 have h1:a≤18446744073709551615:=by omega
 have c:b≤18446744073709551615:=by omega
 exact Nat.mul_le_mul h1 c
def w3 (u2 u1 u0:Nat):Nat:=18446744073709551616*(18446744073709551616*u2+u1)+u0
def w2 (v1 v0:Nat):Nat:=18446744073709551616*v1+v0
structure Gss (u2 u1 u0 v1 v0 g r o:Nat):Prop where
  e:g*v1+(r+18446744073709551616*o)=18446744073709551616*u2+u1
  lt:g+1=18446744073709551616∨w3 u2 u1 u0<(g+1)*w2 v1 v0
  gb:g<18446744073709551616
def AB (u2 u1 u0 v1 v0 g:Nat):Prop:=g*w2 v1 v0≤w3 u2 u1 u0∧(g+1=18446744073709551616∨w3 u2 u1 u0<(g+1)*w2 v1 v0)∧g<18446744073709551616
theorem gv {g b a:Nat}:g*w2 b a=18446744073709551616*(g*b)+g*a:=by unfold w2;rw[J1,Nat.mul_left_comm]
theorem Gss.fin {c u1 a d b g r o:Nat}(h:Gss c u1 a d b g r o)(f:g*b≤18446744073709551616*(r+18446744073709551616*o)+a):AB c u1 a d b g:=by
 refine ⟨?_,h.lt,h.gb⟩;rw[gv]
 unfold w3
 rw[←h.e,J1]
 omega
theorem Gss.over {b u1 d c a g r o:Nat}(h:Gss b u1 d c a g r o)(e:0<o)(h0:a<18446744073709551616):AB b u1 d c a g:=by
 refine h.fin ?_;have h1:=I4 h.gb h0
 omega
theorem Gss.dec {d u1 b a c g r f o':Nat}(h:Gss d u1 b a c g r 0)(j:18446744073709551616*r+b<g*c)(e:f+18446744073709551616*o'=r+a):0<g∧Gss d u1 b a c (g-1) f o':=by
 have i:0<g:=cI j;obtain ⟨p,rfl⟩:∃ p,g=p+1:=⟨g-1,by omega⟩;have e1:=h.e;rw[J6,y8] at e1
 have h1:w3 d u1 b<(p+1)*w2 a c:=by
  rw[gv]
  unfold w3
  rw[←e1,J1]
  omega
 have e2:(p+1)*a=p*a+a:=by rw[Kr,Kt]
 rw[Nat.add_sub_cancel];exact ⟨i,⟨by omega,Or.inr h1,by have:=h.gb;omega⟩⟩
theorem AR {b u1 c a d r o:Nat}(h:b=a)(e:r+18446744073709551616*o=u1+a):Gss b u1 c a d 18446744073709551615 r o:=by
 subst h;exact ⟨by omega,.inl rfl,by decide⟩
theorem BA {b u1 c a d q r:Nat}(e:b*18446744073709551616+u1=a*q+r)(hr:r<a)(h0:c<18446744073709551616)(f:q<18446744073709551616):Gss b u1 c a d q r 0:=by
 rw[JZ b] at e
 refine ⟨by rw[JZ q];omega,.inr ?_,f⟩;rw[gv,Kr q 1 a,Kt,JZ q a]
 unfold w3
 rw[e]
 have h1:18446744073709551616*(a*q+r)+18446744073709551616≤18446744073709551616*(a*q+a):=by
  rw[←Nat.mul_succ];exact Ke _ oM
 have h:0≤(q+1)*d:=K7 _
 omega
theorem E5 (l u1 k i j:Nat)(h0:l<18446744073709551616)(h1:u1<18446744073709551616)(h2:k<18446744073709551616)(h3:i<18446744073709551616)(J:j<18446744073709551616)(hle:l≤i)(hv:0<i)(w:World)(h:Hp)(g:G w h):CR 224 #[mV l,mV u1,mV k,mV i,mV j] w h (fun v _=>∃ g:Nat,v=mV g∧AB l u1 k i j g):=by
 have c:=sS g;refine go Tryz.func224 [(0,mV l),(1,mV u1),(2,mV k),(3,mV i),(4,mV j)] rfl (aa c [.v 10 (uV 0)] (aI (lL c [.v 11 (uV 0),.v 12 (uV 0),.v 13 (uV 0)] (ah (aa c [.m 16 0,.m 17 3] ?_)))));cases o:((l:Int) == (i:Int))
 ·
  have O:=ae o;refine lB 18 o (af (kQ (lL c [.m 26 0,.m 27 1,.m 28 3] (lC 29 c (xp l u1 i oM wM wM _ _ c.g) ?_))));rintro _ w7 h8 c ⟨q2,r3,rfl,he4,hl5,hm6⟩;refine lL c [.m 25 29,.v 30 (mV q2),.v 31 (mV r3),.m 11 30,.m 12 31] (ah (kZ ?_));refine bH _ (CG.loop (fun B Γ w_=>∃ (g:Nat) (r:Nat) (f:Nat) (h_:Hp),B=g∧Γ=[(2,mV k),(3,mV i),(4,mV j),(10,uV 0),(11,mV g),(12,mV r),(13,mV f)]∧SS w h w_ h_ [] [] []∧Gss l u1 k i j g r f∧r<18446744073709551616∧f≤1) _ ⟨q2,r3,0,h8,rfl,rfl,c.to _ _,BA oM oM h2 oM,oM,oM⟩ ?_);rintro _ _ w9 ⟨g,r,f,_,b4,rfl,c,d,hr,hov⟩;have hgl:=d.gb;refine cQ (aa c [.m 32 13] ?_);cases za:((f:Int) == (0:Int))
  ·
   have zo:=ae za;refine lB 33 za (af (CG.exit ?_))
   show CG _ _ _ _ _ _ _ _
   exact aa c [.m 61 11,.m 10 61] (ac c [] (mV g) (⟨g,rfl,(by first|exact d.over oM J|(rw[show f=0 by omega] at d;exact d.fin oM))⟩))
  have zo:=ML za;refine lB 33 za (ak (cK (kZ (aa c [.m 35 11,.m 36 4] (lC 37 c (kP g j wM wM _ _ c.g) ?_)))));rintro _ _ zw c ⟨D,zx,rfl,b1,bm,bt,b9⟩;have V:=gM (a:=g) (b:=j) wM wM;refine lL c [.m 34 37,.v 38 (mV D),.v 39 (mV zx),.m 14 38,.m 15 39] (ah (aa c [.m 40 14,.m 41 12] ?_));cases zb:(decide ((D:Int)<(r:Int)))
  ·
   have zp:=oF zb;refine lB 42 zb (lL c [.m 43 42,.m 44 14,.m 45 12] ?_);cases Z:((D:Int) == (r:Int))
   ·
    have zq:=ae Z;refine lB 46 Z (lL c [.m 47 46] (lG 48 ?_));refine lG 49 (lG 50 (lL c [.v 51 qF,.v 52 qF] (af (cK (av ?_)))));have e:18446744073709551616*r+k<g*j:=by omega
    rw[show f=0 by omega] at d
    have z:=cI e;have H:=d.gb;refine lL c [.m 53 11] (lV 54 (mV (g-1)) ?_ (hr:=rU (((g:Int)-(1:Int))) kR (d9 g 1 oM oM)));refine lL c [.m 11 54] (lN (kQ (lL c [.m 56 12,.m 57 3] ?_)));obtain ⟨x,zj,b5,bd,bk,Q⟩:=cP r i 0 wM wM oM;refine lV 58 (.tuple #[mV x,mV zj]) ?_ (hr:=cJ kR (Q _));refine lL c [.m 55 58,.v 59 (mV x),.v 60 (mV zj),.m 12 59,.m 13 60] (lD ?_);intro a_ p;refine ⟨_,_,?_,⟨g-1,x,zj,zw,rfl,rfl,c.to _ _,((d.dec e oM).2),oM,oM⟩,p.to _ kR⟩
    omega
   have zq:=ML Z;refine lB 46 Z (lL c [.m 47 46,.m 48 15,.m 49 2] ?_);cases X:(decide ((zx:Int)≤(k:Int)))
   ·
    have zr:=oF X;refine lB 50 X (lL c [.v 51 qF,.v 52 qF] (af (cK (av ?_))));have e:18446744073709551616*r+k<g*j:=by omega
    rw[show f=0 by omega] at d
    have z:=cI e;have H:=d.gb;refine lL c [.m 53 11] (lV 54 (mV (g-1)) ?_ (hr:=rU (((g:Int)-(1:Int))) kR (d9 g 1 oM oM)));refine lL c [.m 11 54] (lN (kQ (lL c [.m 56 12,.m 57 3] ?_)));obtain ⟨u,zk,b7,bw,b0,K⟩:=cP r i 0 wM wM oM;refine lV 58 (.tuple #[mV u,mV zk]) ?_ (hr:=cJ kR (K _));refine lL c [.m 55 58,.v 59 (mV u),.v 60 (mV zk),.m 12 59,.m 13 60] (lD ?_);intro a_ p;refine ⟨_,_,?_,⟨g-1,u,zk,zw,rfl,rfl,c.to _ _,((d.dec e oM).2),oM,oM⟩,p.to _ kR⟩
    omega
   have zr:=oT X;refine lB 50 X (lL c [.v 51 qT,.v 52 qT] (ak (CG.exit ?_)))
   show CG _ _ _ _ _ _ _ _
   exact aa c [.m 61 11,.m 10 61] (ac c [] (mV g) (⟨g,rfl,(by first|exact d.over oM J|(rw[show f=0 by omega] at d;exact d.fin oM))⟩))
  have zp:=oT zb;refine lB 42 zb (lL c [.m 43 42] (lG 44 ?_));refine lG 45 (lG 46 (lG 47 (lG 48 (lG 49 (lG 50 (lG 51 (lL c [.v 52 qT] (ak (CG.exit ?_)))))))))
  show CG _ _ _ _ _ _ _ _
  exact aa c [.m 61 11,.m 10 61] (ac c [] (mV g) (⟨g,rfl,(by first|exact d.over oM J|(rw[show f=0 by omega] at d;exact d.fin oM))⟩))
 have O:=ML o;refine lB 18 o (ak (aa c [.v 11 (uV 18446744073709551615)] (lN (kQ (lL c [.m 20 1,.m 21 3] ?_)))));obtain ⟨C,zl,cm,bn,bl,S⟩:=cP u1 i 0 wM wM oM;refine lV 22 (.tuple #[mV C,mV zl]) ?_ (hr:=cJ kR (S _));refine lL c [.m 19 22,.v 23 (mV C),.v 24 (mV zl),.m 12 23,.m 13 24] (ah (kZ ?_));refine bH _ (CG.loop (fun B Γ w_=>∃ (g:Nat) (r:Nat) (f:Nat) (h_:Hp),B=g∧Γ=[(2,mV k),(3,mV i),(4,mV j),(10,uV 0),(11,mV g),(12,mV r),(13,mV f)]∧SS w h w_ h_ [] [] []∧Gss l u1 k i j g r f∧r<18446744073709551616∧f≤1) _ ⟨18446744073709551615,C,zl,h,rfl,rfl,c.to _ _,AR oM oM,oM,oM⟩ ?_);rintro _ _ _ ⟨g,r,f,_,cc,rfl,c,d,hr,hov⟩;have hgl:=d.gb;refine cQ (aa c [.m 32 13] ?_);cases Y:((f:Int) == (0:Int))
 ·
  have zs:=ae Y;refine lB 33 Y (af (CG.exit ?_))
  show CG _ _ _ _ _ _ _ _
  exact aa c [.m 61 11,.m 10 61] (ac c [] (mV g) (⟨g,rfl,(by first|exact d.over oM J|(rw[show f=0 by omega] at d;exact d.fin oM))⟩))
 have zs:=ML Y;refine lB 33 Y (ak (cK (kZ (aa c [.m 35 11,.m 36 4] (lC 37 c (kP g j wM wM _ _ c.g) ?_)))));rintro _ _ zA c ⟨I,zB,rfl,cq,br,b3,cr⟩;have bb:=gM (a:=g) (b:=j) wM wM;refine lL c [.m 34 37,.v 38 (mV I),.v 39 (mV zB),.m 14 38,.m 15 39] (ah (aa c [.m 40 14,.m 41 12] ?_));cases W:(decide ((I:Int)<(r:Int)))
 ·
  have zt:=oF W;refine lB 42 W (lL c [.m 43 42,.m 44 14,.m 45 12] ?_);cases zg:((I:Int) == (r:Int))
  ·
   have zu:=ae zg;refine lB 46 zg (lL c [.m 47 46] (lG 48 ?_));refine lG 49 (lG 50 (lL c [.v 51 qF,.v 52 qF] (af (cK (av ?_)))));have e:18446744073709551616*r+k<g*j:=by omega
   rw[show f=0 by omega] at d
   have z:=cI e;have H:=d.gb;refine lL c [.m 53 11] (lV 54 (mV (g-1)) ?_ (hr:=rU (((g:Int)-(1:Int))) kR (d9 g 1 oM oM)));refine lL c [.m 11 54] (lN (kQ (lL c [.m 56 12,.m 57 3] ?_)));obtain ⟨y,zm,bq,cy,cx,M⟩:=cP r i 0 wM wM oM;refine lV 58 (.tuple #[mV y,mV zm]) ?_ (hr:=cJ kR (M _));refine lL c [.m 55 58,.v 59 (mV y),.v 60 (mV zm),.m 12 59,.m 13 60] (lD ?_);intro a_ p;refine ⟨_,_,?_,⟨g-1,y,zm,zA,rfl,rfl,c.to _ _,((d.dec e oM).2),oM,oM⟩,p.to _ kR⟩
   omega
  have zu:=ML zg;refine lB 46 zg (lL c [.m 47 46,.m 48 15,.m 49 2] ?_);cases U:(decide ((zB:Int)≤(k:Int)))
  ·
   have zv:=oF U;refine lB 50 U (lL c [.v 51 qF,.v 52 qF] (af (cK (av ?_))));have e:18446744073709551616*r+k<g*j:=by omega
   rw[show f=0 by omega] at d
   have z:=cI e;have H:=d.gb;refine lL c [.m 53 11] (lV 54 (mV (g-1)) ?_ (hr:=rU (((g:Int)-(1:Int))) kR (d9 g 1 oM oM)));refine lL c [.m 11 54] (lN (kQ (lL c [.m 56 12,.m 57 3] ?_)));obtain ⟨F,zn,b6,ch,b2,L⟩:=cP r i 0 wM wM oM;refine lV 58 (.tuple #[mV F,mV zn]) ?_ (hr:=cJ kR (L _));refine lL c [.m 55 58,.v 59 (mV F),.v 60 (mV zn),.m 12 59,.m 13 60] (lD ?_);intro a_ p;refine ⟨_,_,?_,⟨g-1,F,zn,zA,rfl,rfl,c.to _ _,((d.dec e oM).2),oM,oM⟩,p.to _ kR⟩
   omega
  have zv:=oT U;refine lB 50 U (lL c [.v 51 qT,.v 52 qT] (ak (CG.exit ?_)))
  show CG _ _ _ _ _ _ _ _
  exact aa c [.m 61 11,.m 10 61] (ac c [] (mV g) (⟨g,rfl,(by first|exact d.over oM J|(rw[show f=0 by omega] at d;exact d.fin oM))⟩))
 have zt:=oT W;refine lB 42 W (lL c [.m 43 42] (lG 44 ?_));refine lG 45 (lG 46 (lG 47 (lG 48 (lG 49 (lG 50 (lG 51 (lL c [.v 52 qT] (ak (CG.exit ?_)))))))))
 show CG _ _ _ _ _ _ _ _
 exact aa c [.m 61 11,.m 10 61] (ac c [] (mV g) (⟨g,rfl,(by first|exact d.over oM J|(rw[show f=0 by omega] at d;exact d.fin oM))⟩))
theorem Et (A:Option Addr)(c:Nat)(l:List Nat)(n:Nat)(a:l.length=n)(e:l.length≤1099511627776)(b:l.length≤c)(w:World)(h:Hp)(g:G w h)(d:SlO 1 am 0 h A l):CV 175 #[.slice A n c] w h (.slice A (tl l n) c):=by
 subst a;exact Dk A c l e b w h g d
theorem Gd (rb:Nat)(l:List Nat)(c d:Nat)(Y:0<d)(L:d<18446744073709551616)(S:Wd l)(hl:l.length≤1000000000)(hc:l.length≤c)(w:World)(h:Hp)(g:G w h)(V:Own w rb 34 (l.flatMap am))(Q:h[rb]?=some junk):Calls Tryz.prog 183 #[.slice (sB rb) l.length c,mV d] w (ef rb w h fun v w' _=>∃ z:List Nat,∃ r:Nat,v=.tuple #[.slice (sB rb) (tl z z.length) c,uV r]∧z.length=l.length∧Wd z∧aD l=d*aD z+r∧r<d∧Own w' rb 34 (z.flatMap am)):=by
 have e:UpM [rb] w h w h:=UpM.refl g;obtain ⟨wz,hz,a⟩:=SS.at_ g V Q;have Z:l.length=l.length:=rfl;refine go Tryz.func183 [(0,qS (sB rb) l.length c),(1,mV d)] rfl (aa a [.v 4 (sZ),.v 5 (uV 0)] (aI (lL a [.v 6 (uV 0)] (ah (aa a [.m 8 0,.v 9 (nV l.length)] (lV 10 (iV ((l.length:Int)-1)) ?_ (hr:=rS (((l.length:Nat)-1)) kR ((fX oM oM).trans oM))))))));refine lL a [.m 7 10] (a8 ?_);refine bH _ (CG.loop (fun C Γ J=>∃ (m:Nat) (z:List Nat) (r:Nat) (h_:Hp),C=m∧Γ=[(0,qS (sB rb) l.length c),(1,mV d),(4,sZ),(5,uV 0),(7,iV ((m:Int)-1)),(6,mV r)]∧SS wz hz J h_ [⟨rb,34,(z).flatMap am⟩] [] []∧m≤l.length∧z.length=l.length∧Wd z∧aD l=d*(18446744073709551616^m*aj 18446744073709551616 (z.drop m))+(18446744073709551616^m*r+aj 18446744073709551616 (z.take m))∧r<d∧UpM [rb] w h J h_) _ ⟨l.length,l,0,h,rfl,rfl,a.to _ _,nR _,rfl,S,(by show aj _ l=_;simp[aj,KY]),Y,e⟩ ?_);rintro _ _ w1 ⟨m,z,r,h2,hm3,rfl,a,hm,j,D,inv,B,e⟩;refine cQ (aa a [.m 11 7] ?_);cases i:(decide ((0:Int)≤((m:Int)-1:Int)))
 ·
  have k:=oF i;refine lB 12 i (af (CG.exit ?_))
  show CG _ _ _ _ _ _ _ _
  refine aa a [.m 28 0] (Av 29 0 a (fun _ O f_ y=>Et (sB rb) c (z) (l.length) j oM oM _ _ O (SlO.of_flat (sz:=1) (f:=am) (d:=0) (b:=rb) (o:=0) (l:=z) (fun _=>rfl) y)) ?_);rintro _ w5 h6 X a rfl;replace e:=e.trans (X.m _);refine lL a [.m 30 6,.m 4 29,.m 5 30] (lN (kX ?_));have x:m=0:=by omega
  rw[x] at inv
  exact a.retM e [] (.tuple #[qS (sB rb) (tl (z) l.length) c,mV r]) ⟨z,r,by rw[j],j,D,(by simp only[K8,Kt,List.drop_zero,List.take_zero,aj] at inv;exact inv),B,a.own 0⟩
 have k:=oT i;refine lB 12 i (ak (cK (cQ (kZ (kQ (lL a [.m 16 0,.m 17 7,.m 18 6,.m 19 0,.m 20 7] (lX 21 (sB rb) l.length c 1 ((m:Int)-1) (m-1) rfl ?_)))))));have M:=D.get (m-1);refine lQ 22 0 z am 1 0 (m-1) (mV ((z).getD (m-1) 0)) a oM (lL a [.m 23 1] (gy 24 (xp r ((z).getD (m-1) 0) d oM wM wM _ _ a.g) ?_));rintro _ _ zb u ⟨p,I,rfl,K,F,H⟩;replace e:=e.trans (u.m _);replace a:=a.step u;refine lL a [.m 15 24,.v 25 (mV p),.v 26 (mV I)] (lX 27 (sB rb) l.length c 1 ((m:Int)-1) (m-1) rfl ?_);refine HY 0 z am 1 (m-1) p a oM (fun _ U a=>?_);replace e:=e.put U (pa.2 rfl) a.g;have za:((z).set (m-1) p).length=l.length:=by rw[KP];exact j
 replace a:=a.to [⟨rb,34,((z).set (m-1) p).flatMap am⟩] [];refine lL a [.m 6 26] (lN (kQ (lL a [.m 13 7] (lV 14 (iV (((m-1:Nat):Int)-1)) ?_ (hr:=rS ((((m:Int)-1)-1)) kR ((fX oM oM).trans oM))))));refine lL a [.m 7 14] (lD ?_);intro a_ W;refine ⟨_,_,?_,⟨m-1,(z).set (m-1) p,I,zb,rfl,rfl,a.to _ _,oM,za,(D.set _ oM),(Cm oM (by rw[show m-1+1=m by omega];exact inv) oM),oM,e⟩,W.to _ kR⟩
 omega
theorem DU {u:List Nat}{k:Nat}(a:2≤k):w3 (u.getD k 0) (u.getD (k-1) 0) (u.getD (k-2) 0)=u.getD k 0*18446744073709551616*18446744073709551616+u.getD (k-1) 0*18446744073709551616+u.getD (k-2) 0:=by
 unfold w3
 rw[JZ (u.getD k 0) 18446744073709551616,JZ (18446744073709551616*u.getD k 0) 18446744073709551616,JZ (u.getD (k-1) 0),J1]
theorem E7 {b a:Nat}:w2 b a=b*18446744073709551616+a:=by unfold w2;rw[JZ]
section
variable {n j G:Nat} {u v:List Nat}
theorem DP (f:2≤n)(e:v.length=n)(a:Wd v)(d:Wd u)(i:j+n<u.length)(hR:aD u<18446744073709551616^(j+1)*aD v):u.getD (j+n) 0≤v.getD (n-1) 0:=by
 rcases ep (v.getD (n-1) 0) (u.getD (j+n) 0) with h|h
 ·exfalso
  have e1:=aU 18446744073709551616 (l:=v) (k:=n-1) oM;rw[show n-1+1=v.length by omega,zy] at e1
  have h1:=bP (Dg.take a (n-1));rw[J4,J5 oM] at h1
  have e2:=aU 18446744073709551616 (l:=u) (k:=j+n) oM;have b:=bQ 18446744073709551616 (l:=u) (k:=j+n+1) oM;have p:18446744073709551616^(j+n)*(v.getD (n-1) 0+1)≤18446744073709551616^(j+n)*u.getD (j+n) 0:=Ke _ h
  have c:18446744073709551616^(j+1)*aD v<18446744073709551616^(j+1)*(18446744073709551616^(n-1)*(v.getD (n-1) 0+1)):=by
   refine Ko ?_ (Nat.pow_pos kD)
   show aj _ v<_
   rw[e1,J1,Kp];omega
  rw[←J2,←Kd,show j+1+(n-1)=j+n by omega] at c
  have x:aD u=aj 18446744073709551616 (u.take (j+n))+18446744073709551616^(j+n)*u.getD (j+n) 0+18446744073709551616^(j+n+1)*aj 18446744073709551616 (u.drop (j+n+1)):=by
   show aj _ u=_
   rw[b,e2]
  have o:=K7 (18446744073709551616^(j+n+1)*aj 18446744073709551616 (u.drop (j+n+1)))
  omega
 ·exact h
theorem xc (e:2≤n)(k:v.length=n)(b:Wd v)(c:Wd u)(f:j+n<u.length)(a:v.getD (n-1) 0≠0)(hR:aD u<18446744073709551616^(j+1)*aD v)(h:AB (u.getD (j+n) 0) (u.getD (j+n-1) 0) (u.getD (j+n-2) 0) (v.getD (n-1) 0) (v.getD (n-2) 0) G) :
  aD u/(18446744073709551616^j*aD v)≤G∧G≤aD u/(18446744073709551616^j*aD v)+1:=by
 obtain ⟨h1,d,i⟩:=h;rw[DU oM,E7] at h1 d
 exact mJ kD e k b c f a hR h1 d i
theorem xH (e:2≤n)(d:v.length=n)(a:Wd v)(c:v.getD (n-1) 0≠0):18446744073709551616^(n-1)≤aD v∧aD v<18446744073709551616^n:=by
 have b:=bP a;rw[d] at b
 refine ⟨?_,b⟩;have e1:=aU 18446744073709551616 (l:=v) (k:=n-1) oM;rw[show n-1+1=v.length by omega,zy] at e1
 have f:18446744073709551616^(n-1)*1≤18446744073709551616^(n-1)*v.getD (n-1) 0:=Ke _ oM
 show _≤aj _ v
 omega
theorem wR (d:2≤n)(c:v.length=n)(a:Wd v)(hR:aD u<18446744073709551616^(j+1)*aD v):aD u<18446744073709551616^(j+n+1):=by
 have b:=bP a;rw[c] at b
 have h1:18446744073709551616^(j+1)*aD v<18446744073709551616^(j+1)*18446744073709551616^n:=Ko b (Nat.pow_pos kD);rw[←Kd,show j+1+n=j+n+1 by omega] at h1
 omega
theorem Cy {u1:List Nat}(h:2≤n)(k:v.length=n)(c:Wd v)(i:Wd u)(f:Wd u1)(y:j+n<u.length)(a:v.getD (n-1) 0≠0)(hR:aD u<18446744073709551616^(j+1)*aD v)
  (p:aD u/(18446744073709551616^j*aD v)≤G∧G≤aD u/(18446744073709551616^j*aD v)+1)(d:Above u1 u (j+n+1))(e:aD u1+18446744073709551616^j*(G*aD v)=aD u+18446744073709551616^(j+n+1)*0) :
  aD u1<18446744073709551616^j*aD v∧aD u1+18446744073709551616^j*(G*aD v)=aD u:=by
 obtain ⟨o,x⟩:=xH h k c a;have l:=eE (b:=18446744073709551616) kD d f i (by rw[d.1];omega) (wR h k c hR);have:=(fl (b:=18446744073709551616) kD h o x hR l e (K7 1) p).1 rfl;rw[J6,y8] at e
 exact ⟨this.2.2.1,e⟩
theorem Hq {b a W K T c:Nat}(e2:a+T*c=b+W)(e:b+W=K+T)(f:a<T)(i:K<W)(k:W≤T):a=K:=by
 have d:c=1:=by
  rcases Nat.lt_trichotomy c 1 with h|h|h
  ·have:c=0:=by omega
   subst this;omega
  ·exact h
  ·have j:T*2≤T*c:=Ke _ h
   omega
 subst d
 omega
theorem DR {u1 d:List Nat}{c:Nat}(p:2≤n)(F:v.length=n)(h:Wd v)(i:Wd u)(x:Wd u1)(y:Wd d)(Q:j+n<u.length)(o:v.getD (n-1) 0≠0)(hR:aD u<18446744073709551616^(j+1)*aD v)
  (M:aD u/(18446744073709551616^j*aD v)≤G∧G≤aD u/(18446744073709551616^j*aD v)+1)(f:Above u1 u (j+n+1))(a:Above d u (j+n+1))(e:aD u1+18446744073709551616^j*(G*aD v)=aD u+18446744073709551616^(j+n+1)*1)
  (e2:aD d+18446744073709551616^(j+n+1)*c=aD u1+18446744073709551616^j*aD v) :
  aD d<18446744073709551616^j*aD v∧aD d+18446744073709551616^j*((G-1)*aD v)=aD u∧0<G:=by
 obtain ⟨K,B⟩:=xH p F h o;have k:=wR p F h hR;have L:=eE (b:=18446744073709551616) kD f x i (by rw[f.1];omega) k;have z:=eE (b:=18446744073709551616) kD a y i (by rw[a.1];omega) k;obtain ⟨I,H,C,O⟩:=(fl (b:=18446744073709551616) kD p K B hR L e oM M).2 rfl
 have l:18446744073709551616^j*aD v≤18446744073709551616^(j+n+1):=by
  have h1:18446744073709551616^j*aD v≤18446744073709551616^j*18446744073709551616^n:=Ke _ (Nat.le_of_lt B);rw[←Kd] at h1
  have J:(18446744073709551616:Nat)^(j+n)≤18446744073709551616^(j+n+1):=Kb kD oM;exact ez h1 J
 have D:aD d=aD u-18446744073709551616^j*((G-1)*aD v):=Hq e2 H z C l;exact ⟨by rw[D];exact C,by rw[D];exact Nat.sub_add_cancel O,by rw[I];exact K9 _⟩
theorem D6 {u1:List Nat}(h:2≤n)(k:v.length=n)(c:Wd v)(i:Wd u)(f:Wd u1)(z:j+n<u.length)(a:v.getD (n-1) 0≠0)(hR:aD u<18446744073709551616^(j+1)*aD v)
  (x:aD u/(18446744073709551616^j*aD v)≤G∧G≤aD u/(18446744073709551616^j*aD v)+1)(d:Above u1 u (j+n+1))(e:aD u1+18446744073709551616^j*(G*aD v)=aD u+18446744073709551616^(j+n+1)*1):0<G:=by
 obtain ⟨p,y⟩:=xH h k c a;have o:=eE (b:=18446744073709551616) kD d f i (by rw[d.1];omega) (wR h k c hR);obtain ⟨l,_⟩:=(fl (b:=18446744073709551616) kD h p y hR o e (Nat.le_refl 1) x).2 rfl;rw[l];exact K9 _
theorem AX (d:n≤u.length)(j:v.length=n)(a:Wd v)(b:Wd u)(hR:aD u<aD v):aD (u.take n)=aD u:=by
 have c:=bP a;rw[j] at c
 have f:aj 18446744073709551616 u<18446744073709551616^(n+0):=Nat.lt_trans hR c;have hz:=(gQ 18446744073709551616 (l:=u) (k:=n) (m:=0) oM kD b f).2;have e:=bQ 18446744073709551616 (l:=u) (k:=n) d;have h:aj 18446744073709551616 (u.drop n)=0:=gg _ (fun i=>by rw[bG];exact hz _ oM);rw[h,J6,y8] at e
 exact e.symm
end
theorem uA {q:List Nat}{j Q X V R R':Nat}(b:j<q.length)(h0:q.getD j 0=0)(inv:X=aD q*V+R)(e:R'+18446744073709551616^j*(Q*V)=R):X=aD (q.set j Q)*V+R':=by
 have a:=cn 18446744073709551616 (l:=q) (k:=j) Q b;rw[h0,J6,y8] at a
 have c:aD (q.set j Q)=aD q+18446744073709551616^j*Q:=a;rw[c,Kr,inv,←e,J2];omega
theorem Fm {X V R q a b s:Nat}(e:V=b*2^s)(i:X=a*2^s)(inv:X=q*V+R)(hR:R<V):q=a/b∧R/2^s=a%b:=by
 have k:=Ka s;have j:0<V:=by omega
 have f:0<b:=by
  rcases HA b with h|h
  ·rw[h,zZ] at e;omega
  ·exact h
 have e1:a*2^s=V*q+R:=by rw[←i,inv,JZ]
 obtain ⟨h1,d⟩:=jQ (A:=a) (y:=b) (Q:=q) e e1 hR;have c:a=R/2^s+b*q:=by omega
 constructor
 ·rw[c,Nat.add_mul_div_left _ _ f,JW d,z6]
 ·rw[c,Nat.add_mul_mod_self_left,AS d]
theorem xz {a s:Nat}(c:s≤64)(h:a*2^s<18446744073709551616):a*2^s+2^s≤18446744073709551616:=by
 have e:=wl c;rw[e] at h ⊢
 have h1:a<2^(64-s):=Nat.lt_of_mul_lt_mul_right h;have b:(a+1)*2^s≤2^(64-s)*2^s:=z7 _ h1;rw[Kr,Kt] at b
 exact b
theorem wq {x y:List Nat}{s:Nat}(c:Wd x)(j:Wd y)(h:1≤y.length)(b:y.getD (y.length-1) 0≠0)(d:y.length≤x.length):aD x*2^s<18446744073709551616^(x.length-y.length+1)*(aD y*2^s):=by
 have e1:=aU 18446744073709551616 (l:=y) (k:=y.length-1) oM;rw[show y.length-1+1=y.length by omega,zy] at e1
 have i:18446744073709551616^(y.length-1)*1≤18446744073709551616^(y.length-1)*y.getD (y.length-1) 0:=Ke _ oM;have f:18446744073709551616^(y.length-1)≤aD y:=by show _≤aj _ y;omega
 have a:18446744073709551616^(x.length-y.length+1)*18446744073709551616^(y.length-1)≤18446744073709551616^(x.length-y.length+1)*aD y:=Ke _ f;rw[←Kd,show x.length-y.length+1+(y.length-1)=x.length by omega] at a
 have e:aD x<18446744073709551616^x.length:=bP c;rw[←J2];exact KK (e6 e a) (Ka s)
theorem Fj (A:Option Addr)(c:Nat)(x:List Nat)(m:Nat)(f:x.length=m)(b:Wd x)(a:x.length≤1000000000)(n:Nat)(d:n≤1000000000)(w:World)(h:Hp)(g:G w h)(e:SlO 1 am 0 h A x):CR 225 #[.slice A m c,nV n] w h (fun v h1=>CW h1 v (x.length-n/64) (fun z=>aD z=aD x/2^n)):=by
 subst f;exact HU A c x b a n d w h g e
theorem EF {y z:List Nat}{s:Nat}(a:s≤64)(p:Wd y)(hz:Wd z)(f:aD z=aD y*2^s)(B:1≤y.length)(x:y.getD (y.length-1) 0*2^s<18446744073709551616)(h:y.length≤z.length):aD (z.take y.length)=aD y*2^s:=by
 have b:aD z<18446744073709551616^(y.length+0):=by
  rw[f,y8];have e1:=aU 18446744073709551616 (l:=y) (k:=y.length-1) oM;rw[show y.length-1+1=y.length by omega,zy] at e1
  have h1:=bP (Dg.take p (y.length-1));rw[J4,J5 oM] at h1
  have o:aD y<18446744073709551616^(y.length-1)*(y.getD (y.length-1) 0+1):=by
   show aj _ y<_
   rw[e1,J1,Kp];omega
  have u:aD y*2^s<18446744073709551616^(y.length-1)*(y.getD (y.length-1) 0+1)*2^s:=KK o (Ka s)
  have c:18446744073709551616^(y.length-1)*(y.getD (y.length-1) 0+1)*2^s≤18446744073709551616^y.length:=by
   have j:(18446744073709551616:Nat)^y.length=18446744073709551616^(y.length-1)*18446744073709551616:=by rw[←JY];congr 1;omega
   rw[j,J2];refine Ke _ ?_;rw[Kr,Kt];exact xz a x
  exact e6 u c
 have d:=(gQ 18446744073709551616 (l:=z) (k:=y.length) (m:=0) oM kD hz b).2;have e:=bQ 18446744073709551616 (l:=z) (k:=y.length) oM;have c:aj 18446744073709551616 (z.drop y.length)=0:=gg _ (fun i=>by rw[bG];exact d _ oM);rw[c,J6,y8] at e
 rw[←f];exact e.symm
theorem BN {y v:List Nat}{s:Nat}(f:Wd y)(hv:Wd v)(a:v.length=y.length)(h:aD v=aD y*2^s)(d:1≤y.length)(i:9223372036854775808≤y.getD (y.length-1) 0*2^s):v.getD (v.length-1) 0≠0:=by
 intro h0;have e1:=aU 18446744073709551616 (l:=v) (k:=v.length-1) oM;rw[show v.length-1+1=v.length by omega,zy,h0,J6,y8] at e1
 have h1:=bP (Dg.take hv (v.length-1));rw[J4,J5 oM] at h1
 have e2:=aU 18446744073709551616 (l:=y) (k:=y.length-1) oM;rw[show y.length-1+1=y.length by omega,zy] at e2
 have c:18446744073709551616^(y.length-1)*y.getD (y.length-1) 0≤aD y:=by show _≤aj _ y;omega
 have b:18446744073709551616^(y.length-1)*y.getD (y.length-1) 0*2^s≤aD y*2^s:=z7 _ c;rw[J2] at b
 have j:18446744073709551616^(y.length-1)*1≤18446744073709551616^(y.length-1)*(y.getD (y.length-1) 0*2^s):=Ke _ oM
 have e:aD v<18446744073709551616^(y.length-1):=by
  show aj _ v<_
  rw[e1,←a];exact h1
 omega
theorem Fd (A:Option Addr)(c:Nat)(x:List Nat)(D:Option Addr)(d:Nat)(y:List Nat)(hx:Wd x)(hy:Wd y)(hlx:x.length≤1000000000)(hny:2≤y.length)(hxy:y.length≤x.length)(b6:y.getD (y.length-1) 0≠0)(w:World)(h:Hp)(g:G w h)(hA:SlO 1 am 0 h A x)(hD:SlO 1 am 0 h D y):CR 193 #[.slice A x.length c,.slice D y.length d] w h (fun v h1=>∃ Aq cq,∃ q:List Nat,∃ Ar cr,∃ r:List Nat,v=.tuple #[.slice Aq q.length cq,.slice Ar r.length cr]∧q.length≤cq∧r.length≤cr∧Wd q∧Wd r∧aD q=aD x/aD y∧aD r=aD x%aD y∧q.length≤x.length∧r.length≤y.length∧SlO 1 am 0 h1 Aq q∧SlO 1 am 0 h1 Ar r):=by
 have e:=(((sS g).aS hA).aS hD);refine go Tryz.func193 [(0,qS A x.length c),(1,qS D y.length d)] rfl (aa e [.v 4 (sZ),.v 5 (sZ)] (aI (lL e [.m 21 1,.v 22 (nV y.length),.m 6 22] (aI (lL e [.m 23 1,.m 24 6] (bD 25 ((y.length:Nat)-1) (y.length-1) ?_))))));refine lX 26 D y.length d 1 (y.length-1:Nat) (y.length-1) ((e.f.1).ok oM) (lH 27 (mV (y.getD (y.length-1) 0)) e ((e.f.1).el (y.length-1) oM) ?_);have hyt:=hy.get (y.length-1);refine ag 28 e (DJ (y.getD (y.length-1) 0) wM _ _ e.g) (fun w1 h2 e=>lL e [.m 7 28] (aI (lL e [.m 29 1,.m 30 7] (lC 31 e (uF D d y hy oM (64-nb (y.getD (y.length-1) 0)) oM _ _ e.g e.f.1) ?_))));rintro _ w3 h4 e ⟨V,vc,zv,rfl,hvc,d2,hWv,hVv,hFv⟩;replace e:=e.aS hFv;refine lL e [.m 32 6] (lT 33 V zv.length vc 1 (y.length:Nat) y.length ?_);obtain ⟨p,hvl_⟩:∃ p,p=zv.take y.length:=⟨_,rfl⟩;have bm:p.length=y.length:=by rw[hvl_,J4];omega
 have B:Wd p:=by rw[hvl_];exact Dg.take hWv _
 have d3:=(ci (n:=y.getD (y.length-1) 0) oM).2.2;have bd:=sq (y:=y.getD (y.length-1) 0) oM (hy.get _);have X:aD p=aD y*2^(64-nb (y.getD (y.length-1) 0)):=by rw[hvl_];exact EF oM hy hWv hVv oM bd.2 oM
 have M:p.getD (p.length-1) 0≠0:=BN hy B bm X oM bd.1;replace e:=e.aS ((e.f.1).take y.length);rw[←hvl_] at e
 refine lL e [.m 8 33] (aI (lL e [.m 34 0,.v 35 (nV x.length)] (bD 36 ((x.length:Nat)+1) (x.length+1) ?_)));refine lK 37 34 (x.length+1) 1 8 (uV 0) am 0 e (fun z w6 h7 e=>?_);have hl8:(Am (x.length+1) 0).length=(x.length+1):=by simp
 refine lL e [.m 9 37] (aI (lL e [.m 38 9,.m 39 0,.m 40 7] (lC 41 e (uF A c x hx hlx (64-nb (y.getD (y.length-1) 0)) oM _ _ e.g e.f.r.2.1) ?_)));rintro _ w9 _ e ⟨Uo,uc,zu,rfl,huc,fm,b3,hVu,hFu⟩;replace e:=e.aS hFu;have b0:zu.length=x.length+1:=by omega
 refine JA 42 0 (.tmp 38) (.tmp 41) 194 34 am 0 Uo zu (x.length+1) zu.length uc (x.length+1) e e.f.1 rfl oM oM (by show ((Am (x.length+1) 0).flatMap am).length=_;rw[cw (sz:=1) (fun _=>rfl)];simp) (fun _ e=>?_);replace e:=e.to [⟨z,34,(zu).flatMap am⟩] [];refine aI (lL e [.m 43 0,.v 44 (nV x.length),.m 45 6] (bD 46 ((x.length:Nat)-(y.length:Nat)) (x.length-y.length) ?_));refine bD 47 ((x.length-y.length:Nat)+1) ((x.length-y.length)+1) (lK 48 34 ((x.length-y.length)+1) 1 8 (uV 0) am 0 e (fun za _ zD e=>?_));have zt:(Am ((x.length-y.length)+1) 0).length=((x.length-y.length)+1):=by simp
 refine lL e [.m 4 48] (ah (aa e [.m 49 0,.v 50 (nV x.length),.m 51 6] (lV 52 (iV (((x.length-y.length+1:Nat):Int)-1)) ?_ (hr:=rS (((x.length:Nat)-(y.length:Nat))) kR ((fX oM oM).trans oM)))));refine lL e [.m 10 52] (lN (bH [(4,qS (sB za) ((x.length-y.length)+1) ((x.length-y.length)+1)),(5,sZ),(6,nV y.length),(7,nV (64-nb (y.getD (y.length-1) 0))),(8,qS V y.length vc),(9,qS (sB z) (x.length+1) (x.length+1)),(10,iV (((x.length-y.length+1:Nat):Int)-1))] ?_));refine kZ ?_;refine bH _ (CG.loop (fun μ_ Γ w_=>∃ (m:Nat) (H:List Nat) (K:List Nat) (C:Hp),μ_=m∧Γ=[(4,qS (sB za) ((x.length-y.length)+1) ((x.length-y.length)+1)),(5,sZ),(6,nV y.length),(7,nV (64-nb (y.getD (y.length-1) 0))),(8,qS V y.length vc),(9,qS (sB z) (x.length+1) (x.length+1)),(10,iV ((m:Int)-1))]∧SS w h w_ C [⟨za,34,(K).flatMap am⟩,⟨z,34,(H).flatMap am⟩] [] [fun C=>SlO 1 am 0 C Uo zu,fun C=>SlO 1 am 0 C V p,fun C=>SlO 1 am 0 C V zv,fun C=>SlO 1 am 0 C D y,fun C=>SlO 1 am 0 C A x]∧m≤x.length-y.length+1∧H.length=x.length+1∧Wd H∧K.length=x.length-y.length+1∧Wd K∧aD H<18446744073709551616^m*aD p∧aD zu=aD K*aD p+aD H∧(∀ k,k<m→K.getD k 0=0)) _ ⟨x.length-y.length+1,zu,Am ((x.length-y.length)+1) 0,zD,rfl,rfl,e.to _ _,nR _,b0,b3,zt,Wd.rep _,(by rw[hVu,X];exact wq hx hy oM b6 oM),(by show _=aj _ _*_+_;rw[dk,zZ,z6]),fun k _=>dM⟩ ?_);rintro _ _ _ ⟨m,H,K,_,df,rfl,e,hm,hul,J,hql,hWq,hR,inv,hq0⟩;refine cQ (aa e [.m 53 10] ?_);cases zd:(decide ((0:Int)≤((m:Int)-1:Int)))
 ·
  have zl:=oF zd;refine lB 54 zd (af (CG.exit ?_))
  show CG _ _ _ _ _ _ _ _
  refine av ?_;have hm0:m=0:=by omega
  obtain ⟨_,e,br,dn,dx⟩:=e.pub 0;replace e:=(e.to [⟨z,34,(H).flatMap am⟩] []).aS (SlO.of_flat (sz:=1) (f:=am) (d:=0) (b:=za) (o:=0) (l:=K) (fun _=>rfl) br);obtain ⟨_,e,bw,c4,fp⟩:=e.pub 0;replace e:=(e.to [] []).aS (SlO.of_flat (sz:=1) (f:=am) (d:=0) (b:=z) (o:=0) (l:=H) (fun _=>rfl) bw);refine lL e [.m 187 4,.m 188 9,.m 189 6] (lT 190 (sB z) (x.length+1) (x.length+1) 1 (y.length:Nat) y.length ?_);refine lL e [.m 191 7] (lC 192 e (Fj (sB z) (x.length+1) (H.take y.length) y.length (by rw[J4];omega) (Dg.take J _) (by rw[J4];omega) (64-nb (y.getD (y.length-1) 0)) oM _ _ e.g ((e.f.1).take y.length)) ?_);rintro _ _ _ e ⟨Ar,cr,zr,rfl,hcr,hlr,hWr,hVr,hFr⟩;replace e:=e.aS hFr;refine lL e [.m 4 187,.m 5 192] (lN (kX ?_));rw[hm0,K8,Kt] at hR
  obtain ⟨hQ,hRm⟩:=Fm X hVu inv hR;rw[AX (v:=p) oM oM B J hR] at hVr
  exact e.ret [] (.tuple #[qS (sB za) ((x.length-y.length)+1) ((x.length-y.length)+1),qS Ar zr.length cr]) (⟨_,_,K,Ar,cr,zr,by rw[hql],by omega,hcr,hWq,hWr,hQ,hVr.trans hRm,by omega,(by have:=List.length_take_le y.length H;omega),e.f.r.1,e.f.1⟩)
 have zl:=oT zd;refine lB 54 zd (ak (cK (cQ (kZ (cQ (cR 31 [] mixed e ar ?_))))));have hm1:0<m:=by omega
 have U:2≤p.length:=by omega
 have hjn:m-1+p.length<H.length:=by omega
 have Z:aD H<18446744073709551616^(m-1+1)*aD p:=by rw[show m-1+1=m by omega];exact hR
 have hle:=DP (n:=p.length) (j:=m-1) U rfl B J hjn Z;refine eV 0 57 (qS (sB z) (x.length+1) (x.length+1)) (eV 1 58 (iV ((m:Int)-1)) (eV 2 59 (nV y.length) (jy 3 60 (((m:Int)-1)+(y.length:Nat)) (m-1+p.length) (eX 4 61 (sB z) (x.length+1) (x.length+1) 1 (m-1+p.length:Nat) (m-1+p.length) rfl (eQ 5 62 1 H am 1 0 (m-1+p.length) (mV ((H).getD (m-1+p.length) 0)) e oM (eV 6 63 (qS (sB z) (x.length+1) (x.length+1)) (eV 7 64 (iV ((m:Int)-1)) (eV 8 65 (nV y.length) (jy 9 66 (((m:Int)-1)+(y.length:Nat)) (m-1+p.length) (jy 10 67 ((m-1+p.length:Nat)-1) (m-1+p.length-1) (eX 11 68 (sB z) (x.length+1) (x.length+1) 1 (m-1+p.length-1:Nat) (m-1+p.length-1) rfl (eQ 12 69 1 H am 1 0 (m-1+p.length-1) (mV ((H).getD (m-1+p.length-1) 0)) e oM (eV 13 70 (qS (sB z) (x.length+1) (x.length+1)) (eV 14 71 (iV ((m:Int)-1)) (eV 15 72 (nV y.length) (jy 16 73 (((m:Int)-1)+(y.length:Nat)) (m-1+p.length) (jy 17 74 ((m-1+p.length:Nat)-2) (m-1+p.length-2) (eX 18 75 (sB z) (x.length+1) (x.length+1) 1 (m-1+p.length-2:Nat) (m-1+p.length-2) rfl (eQ 19 76 1 H am 1 0 (m-1+p.length-2) (mV ((H).getD (m-1+p.length-2) 0)) e oM (eV 20 77 (qS V y.length vc) (eV 21 78 (nV y.length) (jy 22 79 ((y.length:Nat)-1) (p.length-1) (eX 23 80 V y.length vc 1 (p.length-1:Nat) (p.length-1) ((e.f.2.1).ok oM) (eH 24 81 (mV (p.getD (p.length-1) 0)) e ((e.f.2.1).el (p.length-1) oM) (eV 25 82 (qS V y.length vc) (eV 26 83 (nV y.length) (jy 27 84 ((y.length:Nat)-2) (p.length-2) (eX 28 85 V y.length vc 1 (p.length-2:Nat) (p.length-2) ((e.f.2.1).ok oM) (eH 29 86 (mV (p.getD (p.length-2) 0)) e ((e.f.2.1).el (p.length-2) oM) (eC 30 87 e (fun _ _ e=>E5 (((H).getD (m-1+p.length) 0)) (((H).getD (m-1+p.length-1) 0)) (((H).getD (m-1+p.length-2) 0)) ((p.getD (p.length-1) 0)) ((p.getD (p.length-2) 0)) (J.get _) (J.get _) (J.get _) (B.get _) (B.get _) hle oM _ _ e.g) ?_))))))))))))))))))))))))))))));rintro _ _ _ _ _ e ⟨g,rfl,hG0⟩;have hG:=xc (n:=p.length) (j:=m-1) U rfl B J hjn M Z hG0;have hgb:=hG0.2.2;refine ck e (fun _ zE e=>tV 31 11 (mV g) (tN (bH [(4,qS (sB za) ((x.length-y.length)+1) ((x.length-y.length)+1)),(5,sZ),(6,nV y.length),(7,nV (64-nb (y.getD (y.length-1) 0))),(8,qS V y.length vc),(9,qS (sB z) (x.length+1) (x.length+1)),(10,iV ((m:Int)-1)),(11,mV g)] ?_)));refine aa e [.v 12 (uV 0),.v 13 (uV 0)] (ah (aa e [.m 88 6,.v 89 (iV 0)] (a8 ?_)));refine bH _ (CG.loop (fun μ_ Γ w_=>∃ (i:Nat) (u1:List Nat) (cy:Nat) (bo:Nat) (C:Hp),μ_=y.length-i∧Γ=[(4,qS (sB za) ((x.length-y.length)+1) ((x.length-y.length)+1)),(5,sZ),(6,nV y.length),(7,nV (64-nb (y.getD (y.length-1) 0))),(8,qS V y.length vc),(9,qS (sB z) (x.length+1) (x.length+1)),(10,iV ((m:Int)-1)),(11,mV g),(88,nV y.length),(89,nV i),(12,mV cy),(13,mV bo)]∧SS w h w_ C [⟨za,34,(K).flatMap am⟩,⟨z,34,(u1).flatMap am⟩] [] [fun C=>SlO 1 am 0 C Uo zu,fun C=>SlO 1 am 0 C V p,fun C=>SlO 1 am 0 C V zv,fun C=>SlO 1 am 0 C D y,fun C=>SlO 1 am 0 C A x]∧i≤y.length∧u1.length=x.length+1∧Wd u1∧cy<18446744073709551616∧bo≤1∧aj 18446744073709551616 u1+18446744073709551616^(m-1)*(g*aj 18446744073709551616 (p.take i))=aD H+18446744073709551616^(m-1+i)*(cy+bo)∧Above u1 H (m-1+p.length+1)) _ ⟨0,H,0,0,zE,rfl,rfl,e.to _ _,K7 _,hul,J,oM,oM,(by show aj _ H+_=aj _ H+_;simp[aj]),Above.refl _ _⟩ ?_);rintro _ _ _ ⟨i,u1,cy,bo,zq,d0,rfl,e,hi,hu1,hW1,hcy,hbo,W,bk⟩;have c5:=hW1.get (m-1+i);have hvk:=B.get i;refine av ?_;cases ze:(decide ((i:Int)<(y.length:Int)))
 ·
  have zm:=oF ze;refine lB 90 ze (ah (cv (CG.exit ?_)))
  show CG _ _ _ _ _ _ _ _
  refine av ?_;rw[show i=p.length by omega] at W
  have dc:=hW1.get (m-1+p.length);refine lL e [.m 129 9,.m 130 10,.m 131 6] (bD 132 (((m:Int)-1)+(y.length:Nat)) (m-1+p.length) ?_);refine lL e [.m 133 9,.m 134 10,.m 135 6] (bD 136 (((m:Int)-1)+(y.length:Nat)) (m-1+p.length) ?_);refine lX 137 (sB z) (x.length+1) (x.length+1) 1 (m-1+p.length:Nat) (m-1+p.length) rfl (lQ 138 1 u1 am 1 0 (m-1+p.length) (mV ((u1).getD (m-1+p.length) 0)) e oM (lL e [.m 139 12,.m 140 13] ?_));obtain ⟨I,zc,d1,fb,d4,bt⟩:=iN ((u1).getD (m-1+p.length) 0) cy bo wM wM oM;refine lV 141 (.tuple #[mV I,mV zc]) ?_ (hr:=cJ kR (bt _));refine lL e [.m 128 141,.v 142 (mV I),.v 143 (mV zc)] (lX 144 (sB z) (x.length+1) (x.length+1) 1 (m-1+p.length:Nat) (m-1+p.length) rfl ?_);refine lW 1 u1 am 1 (m-1+p.length) I e oM (fun _ e=>?_);have zk:((u1).set (m-1+p.length) I).length=(x.length+1):=by rw[KP];exact hu1
  replace e:=e.to [⟨za,34,(K).flatMap am⟩,⟨z,34,((u1).set (m-1+p.length) I).flatMap am⟩] [];refine lL e [.m 13 143] (ah (av ?_));have hE:=xo oM W (s:=I) (bo':=zc) oM;have Y:Wd ((u1).set (m-1+p.length) I):=hW1.set _ oM;have Q:=bk.set (x:=I) (show m-1+p.length<m-1+p.length+1 by omega) oM;refine lL e [.m 145 13] ?_;cases zf:((zc:Int) != (0:Int))
  ·
   have zn:=aJ zf;refine lB 146 zf (af (cK (kQ ?_)));have hD_:=Cy U rfl B J Y hjn M Z hG Q (by rw[show zc=0 by omega] at hE;exact hE);have hDw:=Y;have hDg:=hgb;have hDu:=hD_.1;have hDe:=hD_.2;refine lL e [.m 183 4,.m 184 10,.m 185 11] (lX 186 (sB za) ((x.length-y.length)+1) ((x.length-y.length)+1) 1 ((m:Int)-1) (m-1) rfl ?_);refine lW 0 K am 1 (m-1) g e oM (fun _ e=>?_);have zw:((K).set (m-1) g).length=((x.length-y.length)+1):=by rw[KP];exact hql
   replace e:=e.to [⟨za,34,((K).set (m-1) g).flatMap am⟩,⟨z,34,((u1).set (m-1+p.length) I).flatMap am⟩] [];refine lN (kQ (lL e [.m 55 10] (lV 56 (iV (((m-1:Nat):Int)-1)) ?_ (hr:=rS ((((m:Int)-1)-1)) kR ((fX oM oM).trans oM)))));refine lL e [.m 10 56] (lD ?_);intro a_ ka;refine ⟨_,_,?_,⟨m-1,(u1).set (m-1+p.length) I,(K).set (m-1) g,zq,rfl,rfl,e.to _ _,oM,zk,hDw,zw,(hWq.set _ hDg),hDu,(uA oM (hq0 _ oM) inv hDe),(fun k hk=>by rw[bF oM,MM oM];exact hq0 k oM)⟩,ka.to _ kR⟩
   omega
  have zn:=aW zf;refine lB 146 zf (ak (aa e [.m 147 11] ?_));have hE1:=hE;rw[show zc=1 by omega] at hE1
  have hgp:=D6 U rfl B J Y hjn M Z hG Q hE1;refine lV 148 (mV (g-1)) ?_ (hr:=rU (((g:Int)-(1:Int))) kR (d9 g 1 oM oM));refine lL e [.m 11 148] (aI (lL e [.v 19 (uV 0)] (ah (aa e [.m 149 6,.v 150 (iV 0)] (a8 ?_)))));refine bH _ (CG.loop (fun μ_ Γ w_=>∃ (u:Nat) (F:List Nat) (c2:Nat) (C:Hp),μ_=y.length-u∧Γ=[(4,qS (sB za) ((x.length-y.length)+1) ((x.length-y.length)+1)),(5,sZ),(6,nV y.length),(7,nV (64-nb (y.getD (y.length-1) 0))),(8,qS V y.length vc),(9,qS (sB z) (x.length+1) (x.length+1)),(10,iV ((m:Int)-1)),(11,mV (g-1)),(149,nV y.length),(150,nV u),(19,mV c2)]∧SS w h w_ C [⟨za,34,(K).flatMap am⟩,⟨z,34,(F).flatMap am⟩] [] [fun C=>SlO 1 am 0 C Uo zu,fun C=>SlO 1 am 0 C V p,fun C=>SlO 1 am 0 C V zv,fun C=>SlO 1 am 0 C D y,fun C=>SlO 1 am 0 C A x]∧u≤y.length∧F.length=x.length+1∧Wd F∧c2≤1∧aj 18446744073709551616 F+18446744073709551616^(m-1+u)*c2=aj 18446744073709551616 ((u1).set (m-1+p.length) I)+18446744073709551616^(m-1)*aj 18446744073709551616 (p.take u)∧Above F H (m-1+p.length+1)) _ ⟨0,(u1).set (m-1+p.length) I,0,zq,rfl,rfl,e.to _ _,K7 _,zk,Y,oM,(by simp[aj]),Q⟩ ?_);rintro _ _ _ ⟨u,F,c2,zG,db,rfl,e,hi2,hu2,hW2,hc2,bb,bl⟩;have b4:=hW2.get (m-1+u);have ds:=B.get u;refine av ?_;cases zg:(decide ((u:Int)<(y.length:Int)))
  ·
   have zo:=oF zg;refine lB 151 zg (ah (cv (CG.exit ?_)))
   show CG _ _ _ _ _ _ _ _
   refine kQ (lL e [.m 174 9,.m 175 10,.m 176 6] (bD 177 (((m:Int)-1)+(y.length:Nat)) (m-1+p.length) ?_));refine lX 178 (sB z) (x.length+1) (x.length+1) 1 (m-1+p.length:Nat) (m-1+p.length) rfl (lQ 179 1 F am 1 0 (m-1+p.length) (mV ((F).getD (m-1+p.length) 0)) e oM (lL e [.m 180 19] (lV 181 (mV ((((F).getD (m-1+p.length) 0)+c2)%18446744073709551616)) ?_ (hr:=rU (((((F).getD (m-1+p.length) 0:Nat):Int)+(c2:Int))) kR (uT ((F).getD (m-1+p.length) 0) c2)))));refine lX 182 (sB z) (x.length+1) (x.length+1) 1 (m-1+p.length:Nat) (m-1+p.length) rfl (lW 1 F am 1 (m-1+p.length) ((((F).getD (m-1+p.length) 0)+c2)%18446744073709551616:Nat) e oM (fun _ e=>?_));have zx:((F).set (m-1+p.length) ((((F).getD (m-1+p.length) 0)+c2)%18446744073709551616:Nat)).length=(x.length+1):=by rw[KP];exact hu2
   replace e:=e.to [⟨za,34,(K).flatMap am⟩,⟨z,34,((F).set (m-1+p.length) ((((F).getD (m-1+p.length) 0)+c2)%18446744073709551616:Nat)).flatMap am⟩] [];refine lN (kQ ?_);have b2:u=p.length:=by omega
   rw[b2] at bb
   have b4:=hW2.get (m-1+p.length);have hE3:=xG (s:=(F.getD (m-1+p.length) 0+c2)%18446744073709551616) (c':=(F.getD (m-1+p.length) 0+c2)/18446744073709551616) oM bb (Nat.mod_add_div _ _);have hDw:Wd ((F).set (m-1+p.length) ((((F).getD (m-1+p.length) 0)+c2)%18446744073709551616:Nat)):=hW2.set _ (A4 _ kD);obtain ⟨hDu,hDe,hDp⟩:=DR U rfl B J Y hDw hjn M Z hG Q (bl.set oM oM) hE1 hE3;have hDg:g-1<18446744073709551616:=by omega
   refine lL e [.m 183 4,.m 184 10,.m 185 11] (lX 186 (sB za) ((x.length-y.length)+1) ((x.length-y.length)+1) 1 ((m:Int)-1) (m-1) rfl ?_);refine lW 0 K am 1 (m-1) (g-1) e oM (fun _ e=>?_);have zA:((K).set (m-1) (g-1)).length=((x.length-y.length)+1):=by rw[KP];exact hql
   replace e:=e.to [⟨za,34,((K).set (m-1) (g-1)).flatMap am⟩,⟨z,34,((F).set (m-1+p.length) ((((F).getD (m-1+p.length) 0)+c2)%18446744073709551616:Nat)).flatMap am⟩] [];refine lN (kQ (lL e [.m 55 10] (lV 56 (iV (((m-1:Nat):Int)-1)) ?_ (hr:=rS ((((m:Int)-1)-1)) kR ((fX oM oM).trans oM)))));refine lL e [.m 10 56] (lD ?_);intro a_ ka;refine ⟨_,_,?_,⟨m-1,(F).set (m-1+p.length) ((((F).getD (m-1+p.length) 0)+c2)%18446744073709551616:Nat),(K).set (m-1) (g-1),zG,rfl,rfl,e.to _ _,oM,zx,hDw,zA,(hWq.set _ hDg),hDu,(uA oM (hq0 _ oM) inv hDe),(fun k hk=>by rw[bF oM,MM oM];exact hq0 k oM)⟩,ka.to _ kR⟩
   omega
  have zo:=oT zg;refine lB 151 zg (ah (ce (cK (cQ (kZ (aa e [.m 152 150,.m 20 152] (lN (cR 19 [] mixed e ar ?_))))))));refine eV 0 154 (qS (sB z) (x.length+1) (x.length+1)) (eV 1 155 (iV ((m:Int)-1)) (eV 2 156 (nV u) (jy 3 157 (((m:Int)-1)+(u:Nat)) (m-1+u) (eV 4 158 (qS (sB z) (x.length+1) (x.length+1)) (eV 5 159 (iV ((m:Int)-1)) (eV 6 160 (nV u) (jy 7 161 (((m:Int)-1)+(u:Nat)) (m-1+u) (eX 8 162 (sB z) (x.length+1) (x.length+1) 1 (m-1+u:Nat) (m-1+u) rfl (eQ 9 163 1 F am 1 0 (m-1+u) (mV ((F).getD (m-1+u) 0)) e oM (eV 10 164 (qS V y.length vc) (eV 11 165 (nV u) (eX 12 166 V y.length vc 1 (u:Nat) u ((e.f.2.1).ok oM) (eH 13 167 (mV (p.getD u 0)) e ((e.f.2.1).el u oM) (eV 14 168 (mV c2) ?_))))))))))))));obtain ⟨O,zj,c3,c7,fn,b1⟩:=cP ((F).getD (m-1+u) 0) (p.getD u 0) c2 wM wM oM;refine eV 15 169 (.tuple #[mV O,mV zj]) ?_ (hv:=fun _=>cJ kR (b1 _));refine eV 16 153 (.tuple #[mV O,mV zj]) (eV 17 170 (mV O) (eV 18 171 (mV zj) (ck e (fun _ zH e=>tX 19 172 (sB z) (x.length+1) (x.length+1) 1 (m-1+u:Nat) (m-1+u) rfl (tW 20 1 F am 1 (m-1+u) O e oM (fun _ e=>?_))))));have zB:((F).set (m-1+u) O).length=(x.length+1):=by rw[KP];exact hu2
  replace e:=e.to [⟨za,34,(K).flatMap am⟩,⟨z,34,((F).set (m-1+u) O).flatMap am⟩] [];refine tV 21 19 (mV zj) (tN (kQ (bD 173 ((u:Nat)+1) (u+1) ?_)));refine lL e [.m 150 173] (lD ?_);intro a_ ka;refine ⟨_,_,?_,⟨u+1,(F).set (m-1+u) O,zj,zH,rfl,rfl,e.to _ _,oM,zB,(hW2.set _ oM),oM,(rJ oM bb oM),(bl.set oM oM)⟩,ka.to _ kR⟩
  omega
 have zm:=oT ze;refine lB 90 ze (ah (ce (cK (cQ (kZ (aa e [.m 91 89,.m 14 91] (aI (lL e [.m 93 11,.m 94 8,.m 95 14] (lX 96 V y.length vc 1 (i:Nat) i ((e.f.2.1).ok oM) ?_)))))))));refine lH 97 (mV (p.getD i 0)) e ((e.f.2.1).el i oM) (lC 98 e (kP g (p.getD i 0) wM wM _ _ e.g) ?_);rintro _ _ zI e ⟨S,zs,rfl,ft,c6,c8,fy⟩;have b7:=gM (a:=g) (b:=(p.getD i 0)) wM wM;refine lL e [.m 92 98,.v 99 (mV S),.v 100 (mV zs),.m 15 99,.m 16 100] (aI (lL e [.m 102 16,.m 103 12] ?_));obtain ⟨s99,zb,ch,cz,cx,bn⟩:=cP zs cy 0 wM wM oM;refine lV 104 (.tuple #[mV s99,mV zb]) ?_ (hr:=cJ kR (bn _));refine lL e [.m 101 104,.v 105 (mV s99),.v 106 (mV zb),.m 17 105,.m 18 106] (aI (lL e [.m 107 15,.m 108 18] (lV 109 (mV (S+zb)) ?_ (hr:=rU (((S:Int)+(zb:Int))) kR (dD S zb oM)))));refine lL e [.m 12 109] (lN (kQ (lL e [.m 111 9,.m 112 10,.m 113 14] (bD 114 (((m:Int)-1)+(i:Nat)) (m-1+i) ?_))));refine lL e [.m 115 9,.m 116 10,.m 117 14] (bD 118 (((m:Int)-1)+(i:Nat)) (m-1+i) ?_);refine lX 119 (sB z) (x.length+1) (x.length+1) 1 (m-1+i:Nat) (m-1+i) rfl (lQ 120 1 u1 am 1 0 (m-1+i) (mV ((u1).getD (m-1+i) 0)) e oM (lL e [.m 121 17,.m 122 13] ?_));obtain ⟨L,zi,cm,cc,b9,bq⟩:=iN ((u1).getD (m-1+i) 0) s99 bo wM wM oM;refine lV 123 (.tuple #[mV L,mV zi]) ?_ (hr:=cJ kR (bq _));refine lL e [.m 110 123,.v 124 (mV L),.v 125 (mV zi)] (lX 126 (sB z) (x.length+1) (x.length+1) 1 (m-1+i:Nat) (m-1+i) rfl ?_);refine lW 1 u1 am 1 (m-1+i) L e oM (fun _ e=>?_);have zp:((u1).set (m-1+i) L).length=(x.length+1):=by rw[KP];exact hu1
 replace e:=e.to [⟨za,34,(K).flatMap am⟩,⟨z,34,((u1).set (m-1+i) L).flatMap am⟩] [];refine lL e [.m 13 125] (lN (bH [(4,qS (sB za) ((x.length-y.length)+1) ((x.length-y.length)+1)),(5,sZ),(6,nV y.length),(7,nV (64-nb (y.getD (y.length-1) 0))),(8,qS V y.length vc),(9,qS (sB z) (x.length+1) (x.length+1)),(10,iV ((m:Int)-1)),(11,mV g),(88,nV y.length),(89,nV i),(12,mV (S+zb)),(13,mV zi)] ?_));refine kQ (bD 127 ((i:Nat)+1) (i+1) ?_);refine lL e [.m 89 127] (lD ?_);intro a_ ka;refine ⟨_,_,?_,⟨i+1,(u1).set (m-1+i) L,(S+zb),zi,zI,rfl,rfl,e.to _ _,oM,zp,(hW1.set _ oM),oM,oM,(sI (t:=s99) oM W oM oM),(bk.set oM oM)⟩,ka.to _ kR⟩
 omega
theorem cB (A:Option Addr)(c:Nat)(l:List Nat)(m x:Nat)(e:l.length=m)(d:Wd l)(hv:aD l=x)(f:l.length≤1099511627776)(a:l.length≤c)(w:World)(h:Hp)(g:G w h)(b:SlO 1 am 0 h A l):CV 139 #[.slice A m c] w h (nv x):=by
 subst e hv;exact wD A c l d f a w h g b
theorem HG (a b:Nat)(H:(wds a).length≤1000000000)(B:(wds b).length≤1000000000)(has:a<18446744073709551616)(i:b<18446744073709551616)(w:World)(h:Hp)(g:G w h):CV 187 #[nv a,nv b] w h (nv (a+b)):=by
 have c:=sS g;have F:=AS has;have z:=AS i;refine go Tryz.func187 [(0,nv a),(1,nv b)] rfl (av (lA 2 36 (nc a) c (fun u w2 K c=>lA 3 36 (nc b) c (fun y L J c=>lA 4 36 ([uV 0,eS]) c (fun O I M c=>ah (aa c [.v 12 (qP u 1),.o 13 (.string (hi a)) 2 1 1] (lV 14 qT ?_ (hr:=rb kR (iO (dX has))))))))));refine lL c [.m 15 14,.v 16 (qP y 1),.o 17 (.string (hi b)) 1 1 1] (lV 18 qT ?_ (hr:=rb kR (iO (dX i))));refine lL c [.v 19 qT] (ak (aa c [.v 21 (pB u),.o 22 (mV (a%18446744073709551616)) 2 0 1,.v 23 (pB y),.o 24 (mV (b%18446744073709551616)) 1 0 1] ?_));obtain ⟨e,za,x,k,p,j⟩:=cP (a%18446744073709551616) (b%18446744073709551616) 0 wM wM oM;refine lV 25 (.tuple #[mV e,mV za]) ?_ (hr:=cJ kR (j _));refine lL c [.m 20 25,.v 26 (mV e),.v 27 (mV za),.m 5 26,.m 6 27] (ah (aa c [.m 28 6] ?_));cases zb:((za:Int) == (0:Int))
 ·
  have C:=ae zb;refine lB 29 zb (af (cK (aa c [.m 32 5,.m 33 6] (lR 34 34 2 ([mV e,mV za]) c (fun D _ _ c=>?_)))));replace c:=c.aS (SlO.of_flat (sz:=1) (f:=am) (d:=0) (l:=[e,za]) (fun _=>rfl) c.f.1);exact ag 35 c (cB (sB D) 2 ([e,za]) 2 ((a+b)) (by first|rfl|assumption|(simp;done)|(simp;omega)|omega) (Dg.cons oM (Dg.one oM)) (by show e+18446744073709551616*(za+18446744073709551616*0)=a+b;omega) sM sM _ _ c.g c.f.1) (fun _ _ c=>lP 0 0 (nc (a+b)) c (fun _ c=>ac c [(0,0,2)] (nv (a+b)) rfl))
 have C:=ML zb;exact lB 29 zb (ak (aa c [.m 30 5,.v 31 (.agg #[mV e,eS])] (lP 0 0 ([mV e,eS]) c (fun _ c=>ac c [(0,0,2)] (.agg #[mV e,eS]) (by rw[show e=a+b by omega];exact iR oM)))))
theorem GK (a b:Nat)(hla:(wds a).length≤1000000000)(hlb:(wds b).length≤1000000000)(has:18446744073709551616≤a)(hb0:0<b)(w:World)(h:Hp)(g:G w h):CV 187 #[nv a,nv b] w h (nv (a+b)):=by
 have c:=sS g;refine go Tryz.func187 [(0,nv a),(1,nv b)] rfl (av (lA 2 36 (nc a) c (fun B w2 h3 c=>lA 3 36 (nc b) c (fun C w5 h6 c=>lA 4 36 ([uV 0,eS]) c (fun y w8 h9 c=>ah (aa c [.v 12 (qP B 1),.o 13 (.string (hi a)) 2 1 1] (lV 14 qF ?_ (hr:=rb kR (iB (eM has))))))))));refine lL c [.m 15 14] (lG 16 ?_);refine lG 17 (lG 18 (lL c [.v 19 qF] (af (cK (cQ ?_)))));obtain ⟨Y,hK_⟩:∃ Y,Y=w8.heap.size:=⟨_,rfl⟩;have br:y<Y:=by rw[hK_];exact eF c 0
 have Q:C<Y:=by rw[hK_];exact eF c 1
 have X:B<Y:=by rw[hK_];exact eF c 2
 refine xD ⟨[],some (Y,[])⟩ 0 mixed ?_;have ch:=c.g.size;replace c:=c.drew;have D:=Le hK_;refine zO 0 36 [(2,0,2)] (nv a) rfl D c (fun p hp=>by obtain rfl:=pa.1 hp;exact X) (zO 2 38 [(1,0,2)] (nv b) rfl D c (fun p hp=>by obtain rfl:=pa.1 hp;exact Q) (qx 1 37 (eK a oM oM _ _ c.g) rfl D ?_));rintro _ _ _ u12 D ⟨e,rfl,bk,bm,db⟩;obtain ⟨_,c,-,-⟩:=c.take u12 bk bm;replace c:=c.to [⟨e,34,(wds a).flatMap am⟩,⟨y,36,[uV 0,eS]⟩,⟨C,36,nc b⟩,⟨B,36,nc a⟩] [];refine qx 3 39 (eK b oM oM _ _ c.g) rfl D ?_;rintro _ _ _ u16 D ⟨j,rfl,bb,Z,cr⟩;obtain ⟨zv,c,-,-⟩:=c.take u16 bb Z;replace c:=c.to [⟨j,34,(wds b).flatMap am⟩,⟨e,34,(wds a).flatMap am⟩,⟨y,36,[uV 0,eS]⟩,⟨C,36,nc b⟩,⟨B,36,nc a⟩] [];refine zV 4 7 (qS (sB e) ((wds a).length) ((wds a).length)) (zV 5 8 (qS (sB j) ((wds b).length) ((wds b).length)) (tN (cQ (aa c [.m 40 7,.v 41 (nV ((wds a).length)),.m 42 8,.v 43 (nV ((wds b).length))] ?_))));cases za:(decide ((((wds a).length:Nat):Int)<(((wds b).length:Nat):Int)))
 ·
  have zm:=oF za;refine lB 44 za (af (cK (aa c [.v 9 (uV 0)] (ah (aa c [.m 47 7,.v 48 (nV ((wds a).length)),.v 49 (iV 0)] (a8 ?_))))));refine bH _ (CG.loop (fun S Γ w_=>∃ (i:Nat) (l:List Nat) (u:Nat) (h_:Hp),S=(wds a).length-i∧Γ=[(4,pB y),(7,qS (sB e) ((wds a).length) ((wds a).length)),(8,qS (sB j) ((wds b).length) ((wds b).length)),(48,nV ((wds a).length)),(49,nV i),(9,mV u)]∧SS w h w_ h_ [⟨j,34,(wds b).flatMap am⟩,⟨e,34,(l).flatMap am⟩,⟨y,36,[uV 0,eS]⟩,⟨C,36,nc b⟩,⟨B,36,nc a⟩] [] []∧i≤(wds a).length∧l.length=(wds a).length∧Wd l∧u≤1∧aj 18446744073709551616 l+18446744073709551616^i*u=a+aj 18446744073709551616 ((wds b:List Nat).take i)) _ ⟨0,wds a,0,zv,rfl,rfl,c.to _ _,K7 _,rfl,Wd.wds _,oM,(by have O:aj 18446744073709551616 (wds a)=a:=ay _;rw[O];simp[aj])⟩ ?_);rintro _ _ _ ⟨i,l,u,zw,cz,rfl,c,hi,K,J,hcy,inv⟩;have hlk:=J.get i;have hyk:=(Wd.wds b).get i;refine av ?_;cases zb:(decide ((i:Int)<(((wds a).length:Nat):Int)))
  ·
   have zn:=oF zb;refine lB 50 zb (ah (cv (CG.exit ?_)))
   show CG _ _ _ _ _ _ _ _
   refine cQ (av ?_);have z:=inv;rw[Ks (show (wds b).length≤i by first|omega|(simp;done)|(simp;omega))] at z
   rw[show i=l.length by omega] at z
   have U:aj 18446744073709551616 (wds b)=b:=ay _;replace z:aj 18446744073709551616 l+18446744073709551616^l.length*u=(a+b):=by rw[z,U];first|done|omega
   refine lL c [.m 74 9] ?_;cases zc:((u:Int) != (0:Int))
   ·
    have zo:=aJ zc;refine lB 75 zc (af (cK (av ?_)));obtain ⟨_,c,bl,c4,c5⟩:=c.pub 1;replace c:=(c.to [⟨j,34,(wds b).flatMap am⟩,⟨y,36,[uV 0,eS]⟩,⟨C,36,nc b⟩,⟨B,36,nc a⟩] []).aS (SlO.of_flat (sz:=1) (f:=am) (d:=0) (b:=e) (o:=0) (l:=l) (fun _=>rfl) bl);exact lL c [.m 80 7] (ag 81 c (cB (sB e) ((wds a).length) (l) ((wds a).length) ((a+b)) (by first|rfl|assumption|(simp;done)|(simp;omega)|omega) (J) (by rw[show u=0 by omega,J6,y8] at z;exact z) sM sM _ _ c.g c.f.1) (fun _ _ c=>lP 1 0 (nc (a+b)) c (fun _ c=>ac c [(1,0,2)] (nv (a+b)) rfl)))
   have zo:=aW zc;refine lB 75 zc (ak (kQ (lL c [.m 76 7,.m 77 9] (lR 78 34 1 ([mV u]) c (fun zD _ _ c=>F3 79 1 ((wds a).length) zD l am 0 u 8 (uV 0) c c.f.1 oM oM (fun zE zG _ _ c bw=>?_))))));replace c:=c.to [⟨j,34,(wds b).flatMap am⟩,⟨y,36,[uV 0,eS]⟩,⟨C,36,nc b⟩,⟨B,36,nc a⟩] [];exact lL c [.m 7 79] (aI (lL c [.m 80 7] (ag 81 c (cB zE zG (l++[u]) ((wds a).length+1) ((a+b)) (by first|rfl|assumption|(simp;done)|(simp;omega)|omega) (Dg.append J (Dg.one oM)) (by show aj _ (l++[u])=_;rw[bX];show _+_*(u+_*0)=_;rw[J6,y8];exact z) sM sM _ _ c.g c.f.1) (fun _ _ c=>lP 1 0 (nc (a+b)) c (fun _ c=>ac c [(1,0,2)] (nv (a+b)) rfl)))))
  have zn:=oT zb;refine lB 50 zb (ah (ce (cK (cQ (kZ (aa c [.m 51 49,.m 10 51] (aI (lL c [.v 11 (uV 0)] (ah (aa c [.m 52 10,.m 53 8,.v 54 (nV ((wds b).length))] ?_))))))))));cases zd:(decide ((i:Int)<(((wds b).length:Nat):Int)))
  ·
   have zp:=oF zd;refine lB 55 zd (af (cK (kQ (lL c [.m 61 7,.m 62 10,.m 63 7,.m 64 10] (lX 65 (sB e) ((wds a).length) ((wds a).length) 1 (i:Nat) i rfl ?_)))));refine lQ 66 1 l am 1 0 i (mV ((l).getD i 0)) c oM (lL c [.m 67 11,.m 68 9] ?_);obtain ⟨H,zk,c7,c3,c8,bn⟩:=cP ((l).getD i 0) 0 u wM wM oM;refine lV 69 (.tuple #[mV H,mV zk]) ?_ (hr:=cJ kR (bn _));refine lL c [.m 60 69,.v 70 (mV H),.v 71 (mV zk)] (lX 72 (sB e) ((wds a).length) ((wds a).length) 1 (i:Nat) i rfl ?_);refine lW 1 l am 1 i H c oM (fun _ c=>?_);have zA:((l).set i H).length=(wds a).length:=by rw[KP];exact K
   replace c:=c.to [⟨j,34,(wds b).flatMap am⟩,⟨e,34,((l).set i H).flatMap am⟩,⟨y,36,[uV 0,eS]⟩,⟨C,36,nc b⟩,⟨B,36,nc a⟩] [];refine lL c [.m 9 71] (lN (kQ (bD 73 ((i:Nat)+1) (i+1) ?_)));refine lL c [.m 49 73] (lD ?_);intro a_ L;refine ⟨_,_,?_,⟨i+1,(l).set i H,zk,zw,rfl,rfl,c.to _ _,oM,zA,(J.set _ oM),oM,(dL oM inv (by first|omega|(have W:=bM (l:=(wds b:List Nat)) (k:=i) (by first|omega|(simp;done));omega)))⟩,L.to _ kR⟩
   omega
  have zp:=oT zd;refine lB 55 zd (ak (kQ (lL c [.m 56 8,.m 57 10] (lX 58 (sB j) ((wds b).length) ((wds b).length) 1 (i:Nat) i rfl ?_))));refine lQ 59 0 (wds b) am 1 0 i (mV ((wds b).getD i 0)) c oM (lL c [.m 11 59] (lN (kQ (lL c [.m 61 7,.m 62 10,.m 63 7,.m 64 10] (lX 65 (sB e) ((wds a).length) ((wds a).length) 1 (i:Nat) i rfl ?_)))));refine lQ 66 1 l am 1 0 i (mV ((l).getD i 0)) c oM (lL c [.m 67 11,.m 68 9] ?_);obtain ⟨F,zl,cq,cc,c6,bd⟩:=cP ((l).getD i 0) ((wds b).getD i 0) u wM wM oM;refine lV 69 (.tuple #[mV F,mV zl]) ?_ (hr:=cJ kR (bd _));refine lL c [.m 60 69,.v 70 (mV F),.v 71 (mV zl)] (lX 72 (sB e) ((wds a).length) ((wds a).length) 1 (i:Nat) i rfl ?_);refine lW 1 l am 1 i F c oM (fun _ c=>?_);have zB:((l).set i F).length=(wds a).length:=by rw[KP];exact K
  replace c:=c.to [⟨j,34,(wds b).flatMap am⟩,⟨e,34,((l).set i F).flatMap am⟩,⟨y,36,[uV 0,eS]⟩,⟨C,36,nc b⟩,⟨B,36,nc a⟩] [];refine lL c [.m 9 71] (lN (kQ (bD 73 ((i:Nat)+1) (i+1) ?_)));refine lL c [.m 49 73] (lD ?_);intro a_ L;refine ⟨_,_,?_,⟨i+1,(l).set i F,zl,zw,rfl,rfl,c.to _ _,oM,zB,(J.set _ oM),oM,(dL oM inv (by first|omega|(have W:=bM (l:=(wds b:List Nat)) (k:=i) (by first|omega|(simp;done));omega)))⟩,L.to _ kR⟩
  omega
 have zm:=oT za;refine lB 44 za (ak (kQ (lL c [.m 45 8,.m 46 7,.m 7 45,.m 8 46] (aI (lL c [.v 9 (uV 0)] (ah (aa c [.m 47 7,.v 48 (nV ((wds b).length)),.v 49 (iV 0)] (a8 ?_))))))));refine bH _ (CG.loop (fun S Γ w_=>∃ (i:Nat) (l:List Nat) (u:Nat) (h_:Hp),S=(wds b).length-i∧Γ=[(4,pB y),(7,qS (sB j) ((wds b).length) ((wds b).length)),(8,qS (sB e) ((wds a).length) ((wds a).length)),(48,nV ((wds b).length)),(49,nV i),(9,mV u)]∧SS w h w_ h_ [⟨j,34,(l).flatMap am⟩,⟨e,34,(wds a).flatMap am⟩,⟨y,36,[uV 0,eS]⟩,⟨C,36,nc b⟩,⟨B,36,nc a⟩] [] []∧i≤(wds b).length∧l.length=(wds b).length∧Wd l∧u≤1∧aj 18446744073709551616 l+18446744073709551616^i*u=b+aj 18446744073709551616 ((wds a:List Nat).take i)) _ ⟨0,wds b,0,zv,rfl,rfl,c.to _ _,K7 _,rfl,Wd.wds _,oM,(by have O:aj 18446744073709551616 (wds b)=b:=ay _;rw[O];simp[aj])⟩ ?_);rintro _ _ _ ⟨i,l,u,zx,cm,rfl,c,hi,K,J,hcy,inv⟩;have hlk:=J.get i;have hyk:=(Wd.wds a).get i;refine av ?_;cases ze:(decide ((i:Int)<(((wds b).length:Nat):Int)))
 ·
  have zq:=oF ze;refine lB 50 ze (ah (cv (CG.exit ?_)))
  show CG _ _ _ _ _ _ _ _
  refine cQ (av ?_);have z:=inv;rw[Ks (show (wds a).length≤i by first|omega|(simp;done)|(simp;omega))] at z
  rw[show i=l.length by omega] at z
  have U:aj 18446744073709551616 (wds a)=a:=ay _;replace z:aj 18446744073709551616 l+18446744073709551616^l.length*u=(a+b):=by rw[z,U];first|done|omega
  refine lL c [.m 74 9] ?_;cases zf:((u:Int) != (0:Int))
  ·
   have zr:=aJ zf;refine lB 75 zf (af (cK (av ?_)));obtain ⟨_,c,bq,dc,cx⟩:=c.pub 0;replace c:=(c.to [⟨e,34,(wds a).flatMap am⟩,⟨y,36,[uV 0,eS]⟩,⟨C,36,nc b⟩,⟨B,36,nc a⟩] []).aS (SlO.of_flat (sz:=1) (f:=am) (d:=0) (b:=j) (o:=0) (l:=l) (fun _=>rfl) bq);exact lL c [.m 80 7] (ag 81 c (cB (sB j) ((wds b).length) (l) ((wds b).length) ((a+b)) (by first|rfl|assumption|(simp;done)|(simp;omega)|omega) (J) (by rw[show u=0 by omega,J6,y8] at z;exact z) sM sM _ _ c.g c.f.1) (fun _ _ c=>lP 1 0 (nc (a+b)) c (fun _ c=>ac c [(1,0,2)] (nv (a+b)) rfl)))
  have zr:=aW zf;refine lB 75 zf (ak (kQ (lL c [.m 76 7,.m 77 9] (lR 78 34 1 ([mV u]) c (fun zH _ _ c=>F3 79 0 ((wds b).length) zH l am 0 u 8 (uV 0) c c.f.1 oM oM (fun zI zJ _ _ c b5=>?_))))));replace c:=c.to [⟨e,34,(wds a).flatMap am⟩,⟨y,36,[uV 0,eS]⟩,⟨C,36,nc b⟩,⟨B,36,nc a⟩] [];exact lL c [.m 7 79] (aI (lL c [.m 80 7] (ag 81 c (cB zI zJ (l++[u]) ((wds b).length+1) ((a+b)) (by first|rfl|assumption|(simp;done)|(simp;omega)|omega) (Dg.append J (Dg.one oM)) (by show aj _ (l++[u])=_;rw[bX];show _+_*(u+_*0)=_;rw[J6,y8];exact z) sM sM _ _ c.g c.f.1) (fun _ _ c=>lP 1 0 (nc (a+b)) c (fun _ c=>ac c [(1,0,2)] (nv (a+b)) rfl)))))
 have zq:=oT ze;refine lB 50 ze (ah (ce (cK (cQ (kZ (aa c [.m 51 49,.m 10 51] (aI (lL c [.v 11 (uV 0)] (ah (aa c [.m 52 10,.m 53 8,.v 54 (nV ((wds a).length))] ?_))))))))));cases zg:(decide ((i:Int)<(((wds a).length:Nat):Int)))
 ·
  have zs:=oF zg;refine lB 55 zg (af (cK (kQ (lL c [.m 61 7,.m 62 10,.m 63 7,.m 64 10] (lX 65 (sB j) ((wds b).length) ((wds b).length) 1 (i:Nat) i rfl ?_)))));refine lQ 66 0 l am 1 0 i (mV ((l).getD i 0)) c oM (lL c [.m 67 11,.m 68 9] ?_);obtain ⟨I,zi,b0,b6,b3,M⟩:=cP ((l).getD i 0) 0 u wM wM oM;refine lV 69 (.tuple #[mV I,mV zi]) ?_ (hr:=cJ kR (M _));refine lL c [.m 60 69,.v 70 (mV I),.v 71 (mV zi)] (lX 72 (sB j) ((wds b).length) ((wds b).length) 1 (i:Nat) i rfl ?_);refine lW 0 l am 1 i I c oM (fun _ c=>?_);have zt:((l).set i I).length=(wds b).length:=by rw[KP];exact K
  replace c:=c.to [⟨j,34,((l).set i I).flatMap am⟩,⟨e,34,(wds a).flatMap am⟩,⟨y,36,[uV 0,eS]⟩,⟨C,36,nc b⟩,⟨B,36,nc a⟩] [];refine lL c [.m 9 71] (lN (kQ (bD 73 ((i:Nat)+1) (i+1) ?_)));refine lL c [.m 49 73] (lD ?_);intro a_ L;refine ⟨_,_,?_,⟨i+1,(l).set i I,zi,zx,rfl,rfl,c.to _ _,oM,zt,(J.set _ oM),oM,(dL oM inv (by first|omega|(have W:=bM (l:=(wds a:List Nat)) (k:=i) (by first|omega|(simp;done));omega)))⟩,L.to _ kR⟩
  omega
 have zs:=oT zg;refine lB 55 zg (ak (kQ (lL c [.m 56 8,.m 57 10] (lX 58 (sB e) ((wds a).length) ((wds a).length) 1 (i:Nat) i rfl ?_))));refine lQ 59 1 (wds a) am 1 0 i (mV ((wds a).getD i 0)) c oM (lL c [.m 11 59] (lN (kQ (lL c [.m 61 7,.m 62 10,.m 63 7,.m 64 10] (lX 65 (sB j) ((wds b).length) ((wds b).length) 1 (i:Nat) i rfl ?_)))));refine lQ 66 0 l am 1 0 i (mV ((l).getD i 0)) c oM (lL c [.m 67 11,.m 68 9] ?_);obtain ⟨x,zj,b9,b2,bt,V⟩:=cP ((l).getD i 0) ((wds a).getD i 0) u wM wM oM;refine lV 69 (.tuple #[mV x,mV zj]) ?_ (hr:=cJ kR (V _));refine lL c [.m 60 69,.v 70 (mV x),.v 71 (mV zj)] (lX 72 (sB j) ((wds b).length) ((wds b).length) 1 (i:Nat) i rfl ?_);refine lW 0 l am 1 i x c oM (fun _ c=>?_);have zu:((l).set i x).length=(wds b).length:=by rw[KP];exact K
 replace c:=c.to [⟨j,34,((l).set i x).flatMap am⟩,⟨e,34,(wds a).flatMap am⟩,⟨y,36,[uV 0,eS]⟩,⟨C,36,nc b⟩,⟨B,36,nc a⟩] [];refine lL c [.m 9 71] (lN (kQ (bD 73 ((i:Nat)+1) (i+1) ?_)));refine lL c [.m 49 73] (lD ?_);intro a_ L;refine ⟨_,_,?_,⟨i+1,(l).set i x,zj,zx,rfl,rfl,c.to _ _,oM,zu,(J.set _ oM),oM,(dL oM inv (by first|omega|(have W:=bM (l:=(wds a:List Nat)) (k:=i) (by first|omega|(simp;done));omega)))⟩,L.to _ kR⟩
 omega
theorem Hj (a b:Nat)(hla:(wds a).length≤1000000000)(hlb:(wds b).length≤1000000000)(has:a<18446744073709551616)(ha0:0<a)(hbs:18446744073709551616≤b)(w:World)(h:Hp)(g:G w h):CV 187 #[nv a,nv b] w h (nv (a+b)):=by
 have c:=sS g;refine go Tryz.func187 [(0,nv a),(1,nv b)] rfl (av (lA 2 36 (nc a) c (fun C w2 h3 c=>lA 3 36 (nc b) c (fun B w5 h6 c=>lA 4 36 ([uV 0,eS]) c (fun y w8 h9 c=>ah (aa c [.v 12 (qP C 1),.o 13 (.string (hi a)) 2 1 1] (lV 14 qT ?_ (hr:=rb kR (iO (dX has))))))))));refine lL c [.m 15 14,.v 16 (qP B 1),.o 17 (.string (hi b)) 1 1 1] (lV 18 qF ?_ (hr:=rb kR (iB (eM hbs))));refine lL c [.v 19 qF] (af (cK (cQ ?_)));obtain ⟨Y,hK_⟩:∃ Y,Y=w8.heap.size:=⟨_,rfl⟩;have br:y<Y:=by rw[hK_];exact eF c 0
 have Q:B<Y:=by rw[hK_];exact eF c 1
 have X:C<Y:=by rw[hK_];exact eF c 2
 refine xD ⟨[],some (Y,[])⟩ 0 mixed ?_;have ch:=c.g.size;replace c:=c.drew;have D:=Le hK_;refine zO 0 36 [(2,0,2)] (nv a) rfl D c (fun p hp=>by obtain rfl:=pa.1 hp;exact X) (zO 2 38 [(1,0,2)] (nv b) rfl D c (fun p hp=>by obtain rfl:=pa.1 hp;exact Q) (qx 1 37 (eK a oM oM _ _ c.g) rfl D ?_));rintro _ _ _ u12 D ⟨e,rfl,bk,bm,db⟩;obtain ⟨_,c,-,-⟩:=c.take u12 bk bm;replace c:=c.to [⟨e,34,(wds a).flatMap am⟩,⟨y,36,[uV 0,eS]⟩,⟨B,36,nc b⟩,⟨C,36,nc a⟩] [];refine qx 3 39 (eK b oM oM _ _ c.g) rfl D ?_;rintro _ _ _ u16 D ⟨j,rfl,bb,Z,cr⟩;obtain ⟨zv,c,-,-⟩:=c.take u16 bb Z;replace c:=c.to [⟨j,34,(wds b).flatMap am⟩,⟨e,34,(wds a).flatMap am⟩,⟨y,36,[uV 0,eS]⟩,⟨B,36,nc b⟩,⟨C,36,nc a⟩] [];refine zV 4 7 (qS (sB e) ((wds a).length) ((wds a).length)) (zV 5 8 (qS (sB j) ((wds b).length) ((wds b).length)) (tN (cQ (aa c [.m 40 7,.v 41 (nV ((wds a).length)),.m 42 8,.v 43 (nV ((wds b).length))] ?_))));cases za:(decide ((((wds a).length:Nat):Int)<(((wds b).length:Nat):Int)))
 ·
  have zm:=oF za;refine lB 44 za (af (cK (aa c [.v 9 (uV 0)] (ah (aa c [.m 47 7,.v 48 (nV ((wds a).length)),.v 49 (iV 0)] (a8 ?_))))));refine bH _ (CG.loop (fun S Γ w_=>∃ (i:Nat) (l:List Nat) (u:Nat) (h_:Hp),S=(wds a).length-i∧Γ=[(4,pB y),(7,qS (sB e) ((wds a).length) ((wds a).length)),(8,qS (sB j) ((wds b).length) ((wds b).length)),(48,nV ((wds a).length)),(49,nV i),(9,mV u)]∧SS w h w_ h_ [⟨j,34,(wds b).flatMap am⟩,⟨e,34,(l).flatMap am⟩,⟨y,36,[uV 0,eS]⟩,⟨B,36,nc b⟩,⟨C,36,nc a⟩] [] []∧i≤(wds a).length∧l.length=(wds a).length∧Wd l∧u≤1∧aj 18446744073709551616 l+18446744073709551616^i*u=a+aj 18446744073709551616 ((wds b:List Nat).take i)) _ ⟨0,wds a,0,zv,rfl,rfl,c.to _ _,K7 _,rfl,Wd.wds _,oM,(by have O:aj 18446744073709551616 (wds a)=a:=ay _;rw[O];simp[aj])⟩ ?_);rintro _ _ _ ⟨i,l,u,zw,cz,rfl,c,hi,K,J,hcy,inv⟩;have hlk:=J.get i;have hyk:=(Wd.wds b).get i;refine av ?_;cases zb:(decide ((i:Int)<(((wds a).length:Nat):Int)))
  ·
   have zn:=oF zb;refine lB 50 zb (ah (cv (CG.exit ?_)))
   show CG _ _ _ _ _ _ _ _
   refine cQ (av ?_);have z:=inv;rw[Ks (show (wds b).length≤i by first|omega|(simp;done)|(simp;omega))] at z
   rw[show i=l.length by omega] at z
   have U:aj 18446744073709551616 (wds b)=b:=ay _;replace z:aj 18446744073709551616 l+18446744073709551616^l.length*u=(a+b):=by rw[z,U];first|done|omega
   refine lL c [.m 74 9] ?_;cases zc:((u:Int) != (0:Int))
   ·
    have zo:=aJ zc;refine lB 75 zc (af (cK (av ?_)));obtain ⟨_,c,bl,c4,c5⟩:=c.pub 1;replace c:=(c.to [⟨j,34,(wds b).flatMap am⟩,⟨y,36,[uV 0,eS]⟩,⟨B,36,nc b⟩,⟨C,36,nc a⟩] []).aS (SlO.of_flat (sz:=1) (f:=am) (d:=0) (b:=e) (o:=0) (l:=l) (fun _=>rfl) bl);exact lL c [.m 80 7] (ag 81 c (cB (sB e) ((wds a).length) (l) ((wds a).length) ((a+b)) (by first|rfl|assumption|(simp;done)|(simp;omega)|omega) (J) (by rw[show u=0 by omega,J6,y8] at z;exact z) sM sM _ _ c.g c.f.1) (fun _ _ c=>lP 1 0 (nc (a+b)) c (fun _ c=>ac c [(1,0,2)] (nv (a+b)) rfl)))
   have zo:=aW zc;refine lB 75 zc (ak (kQ (lL c [.m 76 7,.m 77 9] (lR 78 34 1 ([mV u]) c (fun zD _ _ c=>F3 79 1 ((wds a).length) zD l am 0 u 8 (uV 0) c c.f.1 oM oM (fun zE zG _ _ c bw=>?_))))));replace c:=c.to [⟨j,34,(wds b).flatMap am⟩,⟨y,36,[uV 0,eS]⟩,⟨B,36,nc b⟩,⟨C,36,nc a⟩] [];exact lL c [.m 7 79] (aI (lL c [.m 80 7] (ag 81 c (cB zE zG (l++[u]) ((wds a).length+1) ((a+b)) (by first|rfl|assumption|(simp;done)|(simp;omega)|omega) (Dg.append J (Dg.one oM)) (by show aj _ (l++[u])=_;rw[bX];show _+_*(u+_*0)=_;rw[J6,y8];exact z) sM sM _ _ c.g c.f.1) (fun _ _ c=>lP 1 0 (nc (a+b)) c (fun _ c=>ac c [(1,0,2)] (nv (a+b)) rfl)))))
  have zn:=oT zb;refine lB 50 zb (ah (ce (cK (cQ (kZ (aa c [.m 51 49,.m 10 51] (aI (lL c [.v 11 (uV 0)] (ah (aa c [.m 52 10,.m 53 8,.v 54 (nV ((wds b).length))] ?_))))))))));cases zd:(decide ((i:Int)<(((wds b).length:Nat):Int)))
  ·
   have zp:=oF zd;refine lB 55 zd (af (cK (kQ (lL c [.m 61 7,.m 62 10,.m 63 7,.m 64 10] (lX 65 (sB e) ((wds a).length) ((wds a).length) 1 (i:Nat) i rfl ?_)))));refine lQ 66 1 l am 1 0 i (mV ((l).getD i 0)) c oM (lL c [.m 67 11,.m 68 9] ?_);obtain ⟨H,zk,c7,c3,c8,bn⟩:=cP ((l).getD i 0) 0 u wM wM oM;refine lV 69 (.tuple #[mV H,mV zk]) ?_ (hr:=cJ kR (bn _));refine lL c [.m 60 69,.v 70 (mV H),.v 71 (mV zk)] (lX 72 (sB e) ((wds a).length) ((wds a).length) 1 (i:Nat) i rfl ?_);refine lW 1 l am 1 i H c oM (fun _ c=>?_);have zA:((l).set i H).length=(wds a).length:=by rw[KP];exact K
   replace c:=c.to [⟨j,34,(wds b).flatMap am⟩,⟨e,34,((l).set i H).flatMap am⟩,⟨y,36,[uV 0,eS]⟩,⟨B,36,nc b⟩,⟨C,36,nc a⟩] [];refine lL c [.m 9 71] (lN (kQ (bD 73 ((i:Nat)+1) (i+1) ?_)));refine lL c [.m 49 73] (lD ?_);intro a_ L;refine ⟨_,_,?_,⟨i+1,(l).set i H,zk,zw,rfl,rfl,c.to _ _,oM,zA,(J.set _ oM),oM,(dL oM inv (by first|omega|(have W:=bM (l:=(wds b:List Nat)) (k:=i) (by first|omega|(simp;done));omega)))⟩,L.to _ kR⟩
   omega
  have zp:=oT zd;refine lB 55 zd (ak (kQ (lL c [.m 56 8,.m 57 10] (lX 58 (sB j) ((wds b).length) ((wds b).length) 1 (i:Nat) i rfl ?_))));refine lQ 59 0 (wds b) am 1 0 i (mV ((wds b).getD i 0)) c oM (lL c [.m 11 59] (lN (kQ (lL c [.m 61 7,.m 62 10,.m 63 7,.m 64 10] (lX 65 (sB e) ((wds a).length) ((wds a).length) 1 (i:Nat) i rfl ?_)))));refine lQ 66 1 l am 1 0 i (mV ((l).getD i 0)) c oM (lL c [.m 67 11,.m 68 9] ?_);obtain ⟨F,zl,cq,cc,c6,bd⟩:=cP ((l).getD i 0) ((wds b).getD i 0) u wM wM oM;refine lV 69 (.tuple #[mV F,mV zl]) ?_ (hr:=cJ kR (bd _));refine lL c [.m 60 69,.v 70 (mV F),.v 71 (mV zl)] (lX 72 (sB e) ((wds a).length) ((wds a).length) 1 (i:Nat) i rfl ?_);refine lW 1 l am 1 i F c oM (fun _ c=>?_);have zB:((l).set i F).length=(wds a).length:=by rw[KP];exact K
  replace c:=c.to [⟨j,34,(wds b).flatMap am⟩,⟨e,34,((l).set i F).flatMap am⟩,⟨y,36,[uV 0,eS]⟩,⟨B,36,nc b⟩,⟨C,36,nc a⟩] [];refine lL c [.m 9 71] (lN (kQ (bD 73 ((i:Nat)+1) (i+1) ?_)));refine lL c [.m 49 73] (lD ?_);intro a_ L;refine ⟨_,_,?_,⟨i+1,(l).set i F,zl,zw,rfl,rfl,c.to _ _,oM,zB,(J.set _ oM),oM,(dL oM inv (by first|omega|(have W:=bM (l:=(wds b:List Nat)) (k:=i) (by first|omega|(simp;done));omega)))⟩,L.to _ kR⟩
  omega
 have zm:=oT za;refine lB 44 za (ak (kQ (lL c [.m 45 8,.m 46 7,.m 7 45,.m 8 46] (aI (lL c [.v 9 (uV 0)] (ah (aa c [.m 47 7,.v 48 (nV ((wds b).length)),.v 49 (iV 0)] (a8 ?_))))))));refine bH _ (CG.loop (fun S Γ w_=>∃ (i:Nat) (l:List Nat) (u:Nat) (h_:Hp),S=(wds b).length-i∧Γ=[(4,pB y),(7,qS (sB j) ((wds b).length) ((wds b).length)),(8,qS (sB e) ((wds a).length) ((wds a).length)),(48,nV ((wds b).length)),(49,nV i),(9,mV u)]∧SS w h w_ h_ [⟨j,34,(l).flatMap am⟩,⟨e,34,(wds a).flatMap am⟩,⟨y,36,[uV 0,eS]⟩,⟨B,36,nc b⟩,⟨C,36,nc a⟩] [] []∧i≤(wds b).length∧l.length=(wds b).length∧Wd l∧u≤1∧aj 18446744073709551616 l+18446744073709551616^i*u=b+aj 18446744073709551616 ((wds a:List Nat).take i)) _ ⟨0,wds b,0,zv,rfl,rfl,c.to _ _,K7 _,rfl,Wd.wds _,oM,(by have O:aj 18446744073709551616 (wds b)=b:=ay _;rw[O];simp[aj])⟩ ?_);rintro _ _ _ ⟨i,l,u,zx,cm,rfl,c,hi,K,J,hcy,inv⟩;have hlk:=J.get i;have hyk:=(Wd.wds a).get i;refine av ?_;cases ze:(decide ((i:Int)<(((wds b).length:Nat):Int)))
 ·
  have zq:=oF ze;refine lB 50 ze (ah (cv (CG.exit ?_)))
  show CG _ _ _ _ _ _ _ _
  refine cQ (av ?_);have z:=inv;rw[Ks (show (wds a).length≤i by first|omega|(simp;done)|(simp;omega))] at z
  rw[show i=l.length by omega] at z
  have U:aj 18446744073709551616 (wds a)=a:=ay _;replace z:aj 18446744073709551616 l+18446744073709551616^l.length*u=(a+b):=by rw[z,U];first|done|omega
  refine lL c [.m 74 9] ?_;cases zf:((u:Int) != (0:Int))
  ·
   have zr:=aJ zf;refine lB 75 zf (af (cK (av ?_)));obtain ⟨_,c,bq,dc,cx⟩:=c.pub 0;replace c:=(c.to [⟨e,34,(wds a).flatMap am⟩,⟨y,36,[uV 0,eS]⟩,⟨B,36,nc b⟩,⟨C,36,nc a⟩] []).aS (SlO.of_flat (sz:=1) (f:=am) (d:=0) (b:=j) (o:=0) (l:=l) (fun _=>rfl) bq);exact lL c [.m 80 7] (ag 81 c (cB (sB j) ((wds b).length) (l) ((wds b).length) ((a+b)) (by first|rfl|assumption|(simp;done)|(simp;omega)|omega) (J) (by rw[show u=0 by omega,J6,y8] at z;exact z) sM sM _ _ c.g c.f.1) (fun _ _ c=>lP 1 0 (nc (a+b)) c (fun _ c=>ac c [(1,0,2)] (nv (a+b)) rfl)))
  have zr:=aW zf;refine lB 75 zf (ak (kQ (lL c [.m 76 7,.m 77 9] (lR 78 34 1 ([mV u]) c (fun zH _ _ c=>F3 79 0 ((wds b).length) zH l am 0 u 8 (uV 0) c c.f.1 oM oM (fun zI zJ _ _ c b5=>?_))))));replace c:=c.to [⟨e,34,(wds a).flatMap am⟩,⟨y,36,[uV 0,eS]⟩,⟨B,36,nc b⟩,⟨C,36,nc a⟩] [];exact lL c [.m 7 79] (aI (lL c [.m 80 7] (ag 81 c (cB zI zJ (l++[u]) ((wds b).length+1) ((a+b)) (by first|rfl|assumption|(simp;done)|(simp;omega)|omega) (Dg.append J (Dg.one oM)) (by show aj _ (l++[u])=_;rw[bX];show _+_*(u+_*0)=_;rw[J6,y8];exact z) sM sM _ _ c.g c.f.1) (fun _ _ c=>lP 1 0 (nc (a+b)) c (fun _ c=>ac c [(1,0,2)] (nv (a+b)) rfl)))))
 have zq:=oT ze;refine lB 50 ze (ah (ce (cK (cQ (kZ (aa c [.m 51 49,.m 10 51] (aI (lL c [.v 11 (uV 0)] (ah (aa c [.m 52 10,.m 53 8,.v 54 (nV ((wds a).length))] ?_))))))))));cases zg:(decide ((i:Int)<(((wds a).length:Nat):Int)))
 ·
  have zs:=oF zg;refine lB 55 zg (af (cK (kQ (lL c [.m 61 7,.m 62 10,.m 63 7,.m 64 10] (lX 65 (sB j) ((wds b).length) ((wds b).length) 1 (i:Nat) i rfl ?_)))));refine lQ 66 0 l am 1 0 i (mV ((l).getD i 0)) c oM (lL c [.m 67 11,.m 68 9] ?_);obtain ⟨I,zi,b0,b6,b3,M⟩:=cP ((l).getD i 0) 0 u wM wM oM;refine lV 69 (.tuple #[mV I,mV zi]) ?_ (hr:=cJ kR (M _));refine lL c [.m 60 69,.v 70 (mV I),.v 71 (mV zi)] (lX 72 (sB j) ((wds b).length) ((wds b).length) 1 (i:Nat) i rfl ?_);refine lW 0 l am 1 i I c oM (fun _ c=>?_);have zt:((l).set i I).length=(wds b).length:=by rw[KP];exact K
  replace c:=c.to [⟨j,34,((l).set i I).flatMap am⟩,⟨e,34,(wds a).flatMap am⟩,⟨y,36,[uV 0,eS]⟩,⟨B,36,nc b⟩,⟨C,36,nc a⟩] [];refine lL c [.m 9 71] (lN (kQ (bD 73 ((i:Nat)+1) (i+1) ?_)));refine lL c [.m 49 73] (lD ?_);intro a_ L;refine ⟨_,_,?_,⟨i+1,(l).set i I,zi,zx,rfl,rfl,c.to _ _,oM,zt,(J.set _ oM),oM,(dL oM inv (by first|omega|(have W:=bM (l:=(wds a:List Nat)) (k:=i) (by first|omega|(simp;done));omega)))⟩,L.to _ kR⟩
  omega
 have zs:=oT zg;refine lB 55 zg (ak (kQ (lL c [.m 56 8,.m 57 10] (lX 58 (sB e) ((wds a).length) ((wds a).length) 1 (i:Nat) i rfl ?_))));refine lQ 59 1 (wds a) am 1 0 i (mV ((wds a).getD i 0)) c oM (lL c [.m 11 59] (lN (kQ (lL c [.m 61 7,.m 62 10,.m 63 7,.m 64 10] (lX 65 (sB j) ((wds b).length) ((wds b).length) 1 (i:Nat) i rfl ?_)))));refine lQ 66 0 l am 1 0 i (mV ((l).getD i 0)) c oM (lL c [.m 67 11,.m 68 9] ?_);obtain ⟨x,zj,b9,b2,bt,V⟩:=cP ((l).getD i 0) ((wds a).getD i 0) u wM wM oM;refine lV 69 (.tuple #[mV x,mV zj]) ?_ (hr:=cJ kR (V _));refine lL c [.m 60 69,.v 70 (mV x),.v 71 (mV zj)] (lX 72 (sB j) ((wds b).length) ((wds b).length) 1 (i:Nat) i rfl ?_);refine lW 0 l am 1 i x c oM (fun _ c=>?_);have zu:((l).set i x).length=(wds b).length:=by rw[KP];exact K
 replace c:=c.to [⟨j,34,((l).set i x).flatMap am⟩,⟨e,34,(wds a).flatMap am⟩,⟨y,36,[uV 0,eS]⟩,⟨B,36,nc b⟩,⟨C,36,nc a⟩] [];refine lL c [.m 9 71] (lN (kQ (bD 73 ((i:Nat)+1) (i+1) ?_)));refine lL c [.m 49 73] (lD ?_);intro a_ L;refine ⟨_,_,?_,⟨i+1,(l).set i x,zj,zx,rfl,rfl,c.to _ _,oM,zu,(J.set _ oM),oM,(dL oM inv (by first|omega|(have W:=bM (l:=(wds a:List Nat)) (k:=i) (by first|omega|(simp;done));omega)))⟩,L.to _ kR⟩
 omega
theorem FW (b:Nat)(hl:(wds b).length≤1000000000)(J:18446744073709551616≤b)(w:World)(h:Hp)(g:G w h):CV 187 #[nv 0,nv b] w h (nv (0+b)):=by
 have a:=sS g;have h2l:=du J;refine go Tryz.func187 [(0,nv 0),(1,nv b)] rfl (av (lA 2 36 (nc 0) a (fun z w2 h3 a=>lA 3 36 (nc b) a (fun B w5 h6 a=>lA 4 36 ([uV 0,eS]) a (fun D w8 h9 a=>ah (aa a [.v 12 (qP z 1),.o 13 (.string (hi 0)) 2 1 1] (lV 14 qT ?_ (hr:=rb kR (iO rfl)))))))));refine lL a [.m 15 14,.v 16 (qP B 1),.o 17 (.string (hi b)) 1 1 1] (lV 18 qF ?_ (hr:=rb kR (iB (eM J))));refine lL a [.v 19 qF] (af (cK (cQ ?_)));obtain ⟨F,hK_⟩:∃ F,F=w8.heap.size:=⟨_,rfl⟩;have bb:D<F:=by rw[hK_];exact eF a 0
 have y:B<F:=by rw[hK_];exact eF a 1
 have x:z<F:=by rw[hK_];exact eF a 2
 refine xD ⟨[],some (F,[])⟩ 0 mixed ?_;have bq:=a.g.size;replace a:=a.drew;have e:=Le hK_;refine zO 0 36 [(2,0,2)] (nv 0) rfl e a (fun p hp=>by obtain rfl:=pa.1 hp;exact x) (zO 2 38 [(1,0,2)] (nv b) rfl e a (fun p hp=>by obtain rfl:=pa.1 hp;exact y) (qx 1 37 (jr _ _ a.g) rfl e ?_));rintro _ _ _ W e rfl;replace a:=a.step W;refine qx 3 39 (eK b oM oM _ _ a.g) rfl e ?_;rintro _ _ _ V e ⟨c,rfl,H,I,br⟩;obtain ⟨zj,a,-,-⟩:=a.take V H I;replace a:=a.to [⟨c,34,(wds b).flatMap am⟩,⟨D,36,[uV 0,eS]⟩,⟨B,36,nc b⟩,⟨z,36,nc 0⟩] [];refine zV 4 7 (sZ) (zV 5 8 (qS (sB c) ((wds b).length) ((wds b).length)) (tN (cQ (aa a [.m 40 7,.v 41 (iV 0),.m 42 8,.v 43 (nV ((wds b).length))] ?_))));have ⟨zf,X⟩:=dT (p:=(0:Int)<(((wds b).length:Nat):Int)) oM;refine lB 44 zf (ak (kQ (lL a [.m 45 8,.m 46 7,.m 7 45,.m 8 46] (aI (lL a [.v 9 (uV 0)] (ah (aa a [.m 47 7,.v 48 (nV ((wds b).length)),.v 49 (iV 0)] (a8 ?_))))))));refine bH _ (CG.loop (fun U Γ w_=>∃ (i:Nat) (l:List Nat) (u:Nat) (h_:Hp),U=(wds b).length-i∧Γ=[(4,pB D),(7,qS (sB c) ((wds b).length) ((wds b).length)),(8,sZ),(48,nV ((wds b).length)),(49,nV i),(9,mV u)]∧SS w h w_ h_ [⟨c,34,(l).flatMap am⟩,⟨D,36,[uV 0,eS]⟩,⟨B,36,nc b⟩,⟨z,36,nc 0⟩] [] []∧i≤(wds b).length∧l.length=(wds b).length∧Wd l∧u≤1∧aj 18446744073709551616 l+18446744073709551616^i*u=b+aj 18446744073709551616 (([]:List Nat).take i)) _ ⟨0,wds b,0,zj,rfl,rfl,a.to _ _,K7 _,rfl,Wd.wds _,oM,(by have Q:aj 18446744073709551616 (wds b)=b:=ay _;rw[Q];simp[aj])⟩ ?_);rintro _ _ _ ⟨i,l,u,zk,bk,rfl,a,hi,Y,M,hcy,inv⟩;have hlk:=M.get i;have hyk:=Wd.get (l:=[]) Dg.nil i;refine av ?_;cases za:(decide ((i:Int)<(((wds b).length:Nat):Int)))
 ·
  have zd:=oF za;refine lB 50 za (ah (cv (CG.exit ?_)))
  show CG _ _ _ _ _ _ _ _
  refine cQ (av ?_);have C:=inv;rw[Ks (show ([]).length≤i by first|omega|(simp;done)|(simp;omega))] at C
  rw[show i=l.length by omega] at C
  have hE_:([]:List Nat)=[]:=rfl;replace C:aj 18446744073709551616 l+18446744073709551616^l.length*u=(0+b):=by rw[C];simp[aj]
  refine lL a [.m 74 9] ?_;cases zb:((u:Int) != (0:Int))
  ·
   have ze:=aJ zb;refine lB 75 zb (af (cK (av ?_)));obtain ⟨_,a,L,bl,bt⟩:=a.pub 0;replace a:=(a.to [⟨D,36,[uV 0,eS]⟩,⟨B,36,nc b⟩,⟨z,36,nc 0⟩] []).aS (SlO.of_flat (sz:=1) (f:=am) (d:=0) (b:=c) (o:=0) (l:=l) (fun _=>rfl) L);exact lL a [.m 80 7] (ag 81 a (cB (sB c) ((wds b).length) (l) ((wds b).length) ((0+b)) (by first|rfl|assumption|(simp;done)|(simp;omega)|omega) (M) (by rw[show u=0 by omega,J6,y8] at C;exact C) sM sM _ _ a.g a.f.1) (fun _ _ a=>lP 0 0 (nc (0+b)) a (fun _ a=>ac a [(0,0,2)] (nv (0+b)) rfl)))
  have ze:=aW zb;refine lB 75 zb (ak (kQ (lL a [.m 76 7,.m 77 9] (lR 78 34 1 ([mV u]) a (fun zl _ _ a=>F3 79 0 ((wds b).length) zl l am 0 u 8 (uV 0) a a.f.1 oM oM (fun zm zn _ _ a Z=>?_))))));replace a:=a.to [⟨D,36,[uV 0,eS]⟩,⟨B,36,nc b⟩,⟨z,36,nc 0⟩] [];exact lL a [.m 7 79] (aI (lL a [.m 80 7] (ag 81 a (cB zm zn (l++[u]) ((wds b).length+1) ((0+b)) (by first|rfl|assumption|(simp;done)|(simp;omega)|omega) (Dg.append M (Dg.one oM)) (by show aj _ (l++[u])=_;rw[bX];show _+_*(u+_*0)=_;rw[J6,y8];exact C) sM sM _ _ a.g a.f.1) (fun _ _ a=>lP 0 0 (nc (0+b)) a (fun _ a=>ac a [(0,0,2)] (nv (0+b)) rfl)))))
 have zd:=oT za;refine lB 50 za (ah (ce (cK (cQ (kZ (aa a [.m 51 49,.m 10 51] (aI (lL a [.v 11 (uV 0)] (ah (aa a [.m 52 10,.m 53 8,.v 54 (iV 0)] ?_))))))))));have ⟨zg,O⟩:=dF (p:=(i:Int)<(0:Int)) oM;refine lB 55 zg (af (cK (kQ (lL a [.m 61 7,.m 62 10,.m 63 7,.m 64 10] (lX 65 (sB c) ((wds b).length) ((wds b).length) 1 (i:Nat) i rfl ?_)))));refine lQ 66 0 l am 1 0 i (mV ((l).getD i 0)) a oM (lL a [.m 67 11,.m 68 9] ?_);obtain ⟨j,S,bm,bn,bd,K⟩:=cP ((l).getD i 0) 0 u wM wM oM;refine lV 69 (.tuple #[mV j,mV S]) ?_ (hr:=cJ kR (K _));refine lL a [.m 60 69,.v 70 (mV j),.v 71 (mV S)] (lX 72 (sB c) ((wds b).length) ((wds b).length) 1 (i:Nat) i rfl ?_);refine lW 0 l am 1 i j a oM (fun _ a=>?_);have zi:((l).set i j).length=(wds b).length:=by rw[KP];exact Y
 replace a:=a.to [⟨c,34,((l).set i j).flatMap am⟩,⟨D,36,[uV 0,eS]⟩,⟨B,36,nc b⟩,⟨z,36,nc 0⟩] [];refine lL a [.m 9 71] (lN (kQ (bD 73 ((i:Nat)+1) (i+1) ?_)));refine lL a [.m 49 73] (lD ?_);intro a_ ka;refine ⟨_,_,?_,⟨i+1,(l).set i j,S,zk,rfl,rfl,a.to _ _,oM,zi,(M.set _ oM),oM,(dL oM inv (by first|omega|(have hy0:=bM (l:=([]:List Nat)) (k:=i) (by first|omega|(simp;done));omega)))⟩,ka.to _ kR⟩
 omega
theorem E0 (a:Nat)(hl:(wds a).length≤1000000000)(has:18446744073709551616≤a)(w:World)(h:Hp)(g:G w h):CV 187 #[nv a,nv 0] w h (nv (a+0)):=by
 have c:=sS g;have h2l:=du has;refine go Tryz.func187 [(0,nv a),(1,nv 0)] rfl (av (lA 2 36 (nc a) c (fun B w2 h3 c=>lA 3 36 (nc 0) c (fun H w5 h6 c=>lA 4 36 ([uV 0,eS]) c (fun D w8 h9 c=>ah (aa c [.v 12 (qP B 1),.o 13 (.string (hi a)) 2 1 1] (lV 14 qF ?_ (hr:=rb kR (iB (eM has))))))))));refine lL c [.m 15 14] (lG 16 ?_);refine lG 17 (lG 18 (lL c [.v 19 qF] (af (cK (cQ ?_)))));obtain ⟨F,hK_⟩:∃ F,F=w8.heap.size:=⟨_,rfl⟩;have bb:D<F:=by rw[hK_];exact eF c 0
 have z:H<F:=by rw[hK_];exact eF c 1
 have y:B<F:=by rw[hK_];exact eF c 2
 refine xD ⟨[],some (F,[])⟩ 0 mixed ?_;have bq:=c.g.size;replace c:=c.drew;have j:=Le hK_;refine zO 0 36 [(2,0,2)] (nv a) rfl j c (fun p hp=>by obtain rfl:=pa.1 hp;exact y) (zO 2 38 [(1,0,2)] (nv 0) rfl j c (fun p hp=>by obtain rfl:=pa.1 hp;exact z) (qx 1 37 (eK a oM oM _ _ c.g) rfl j ?_));rintro _ _ _ X j ⟨e,rfl,I,J,br⟩;obtain ⟨_,c,-,-⟩:=c.take X I J;replace c:=c.to [⟨e,34,(wds a).flatMap am⟩,⟨D,36,[uV 0,eS]⟩,⟨H,36,nc 0⟩,⟨B,36,nc a⟩] [];refine qx 3 39 (jr _ _ c.g) rfl j ?_;rintro _ _ zj U j rfl;replace c:=c.step U;refine zV 4 7 (qS (sB e) ((wds a).length) ((wds a).length)) (zV 5 8 (sZ) (tN (cQ (aa c [.m 40 7,.v 41 (nV ((wds a).length)),.m 42 8,.v 43 (iV 0)] ?_))));have ⟨zf,Y⟩:=dF (p:=(((wds a).length:Nat):Int)<(0:Int)) oM;refine lB 44 zf (af (cK (aa c [.v 9 (uV 0)] (ah (aa c [.m 47 7,.v 48 (nV ((wds a).length)),.v 49 (iV 0)] (a8 ?_))))));refine bH _ (CG.loop (fun V Γ w_=>∃ (i:Nat) (l:List Nat) (x:Nat) (h_:Hp),V=(wds a).length-i∧Γ=[(4,pB D),(7,qS (sB e) ((wds a).length) ((wds a).length)),(8,sZ),(48,nV ((wds a).length)),(49,nV i),(9,mV x)]∧SS w h w_ h_ [⟨e,34,(l).flatMap am⟩,⟨D,36,[uV 0,eS]⟩,⟨H,36,nc 0⟩,⟨B,36,nc a⟩] [] []∧i≤(wds a).length∧l.length=(wds a).length∧Wd l∧x≤1∧aj 18446744073709551616 l+18446744073709551616^i*x=a+aj 18446744073709551616 (([]:List Nat).take i)) _ ⟨0,wds a,0,zj,rfl,rfl,c.to _ _,K7 _,rfl,Wd.wds _,oM,(by have Q:aj 18446744073709551616 (wds a)=a:=ay _;rw[Q];simp[aj])⟩ ?_);rintro _ _ _ ⟨i,l,x,zk,bk,rfl,c,hi,Z,M,hcy,inv⟩;have hlk:=M.get i;have hyk:=Wd.get (l:=[]) Dg.nil i;refine av ?_;cases za:(decide ((i:Int)<(((wds a).length:Nat):Int)))
 ·
  have zd:=oF za;refine lB 50 za (ah (cv (CG.exit ?_)))
  show CG _ _ _ _ _ _ _ _
  refine cQ (av ?_);have C:=inv;rw[Ks (show ([]).length≤i by first|omega|(simp;done)|(simp;omega))] at C
  rw[show i=l.length by omega] at C
  have hE_:([]:List Nat)=[]:=rfl;replace C:aj 18446744073709551616 l+18446744073709551616^l.length*x=(a+0):=by rw[C];simp[aj]
  refine lL c [.m 74 9] ?_;cases zb:((x:Int) != (0:Int))
  ·
   have ze:=aJ zb;refine lB 75 zb (af (cK (av ?_)));obtain ⟨_,c,L,bl,bt⟩:=c.pub 0;replace c:=(c.to [⟨D,36,[uV 0,eS]⟩,⟨H,36,nc 0⟩,⟨B,36,nc a⟩] []).aS (SlO.of_flat (sz:=1) (f:=am) (d:=0) (b:=e) (o:=0) (l:=l) (fun _=>rfl) L);exact lL c [.m 80 7] (ag 81 c (cB (sB e) ((wds a).length) (l) ((wds a).length) ((a+0)) (by first|rfl|assumption|(simp;done)|(simp;omega)|omega) (M) (by rw[show x=0 by omega,J6,y8] at C;exact C) sM sM _ _ c.g c.f.1) (fun _ _ c=>lP 0 0 (nc (a+0)) c (fun _ c=>ac c [(0,0,2)] (nv (a+0)) rfl)))
  have ze:=aW zb;refine lB 75 zb (ak (kQ (lL c [.m 76 7,.m 77 9] (lR 78 34 1 ([mV x]) c (fun zl _ _ c=>F3 79 0 ((wds a).length) zl l am 0 x 8 (uV 0) c c.f.1 oM oM (fun zm zn _ _ c W=>?_))))));replace c:=c.to [⟨D,36,[uV 0,eS]⟩,⟨H,36,nc 0⟩,⟨B,36,nc a⟩] [];exact lL c [.m 7 79] (aI (lL c [.m 80 7] (ag 81 c (cB zm zn (l++[x]) ((wds a).length+1) ((a+0)) (by first|rfl|assumption|(simp;done)|(simp;omega)|omega) (Dg.append M (Dg.one oM)) (by show aj _ (l++[x])=_;rw[bX];show _+_*(x+_*0)=_;rw[J6,y8];exact C) sM sM _ _ c.g c.f.1) (fun _ _ c=>lP 0 0 (nc (a+0)) c (fun _ c=>ac c [(0,0,2)] (nv (a+0)) rfl)))))
 have zd:=oT za;refine lB 50 za (ah (ce (cK (cQ (kZ (aa c [.m 51 49,.m 10 51] (aI (lL c [.v 11 (uV 0)] (ah (aa c [.m 52 10,.m 53 8,.v 54 (iV 0)] ?_))))))))));have ⟨zg,O⟩:=dF (p:=(i:Int)<(0:Int)) oM;refine lB 55 zg (af (cK (kQ (lL c [.m 61 7,.m 62 10,.m 63 7,.m 64 10] (lX 65 (sB e) ((wds a).length) ((wds a).length) 1 (i:Nat) i rfl ?_)))));refine lQ 66 0 l am 1 0 i (mV ((l).getD i 0)) c oM (lL c [.m 67 11,.m 68 9] ?_);obtain ⟨u,S,bm,bn,bd,K⟩:=cP ((l).getD i 0) 0 x wM wM oM;refine lV 69 (.tuple #[mV u,mV S]) ?_ (hr:=cJ kR (K _));refine lL c [.m 60 69,.v 70 (mV u),.v 71 (mV S)] (lX 72 (sB e) ((wds a).length) ((wds a).length) 1 (i:Nat) i rfl ?_);refine lW 0 l am 1 i u c oM (fun _ c=>?_);have zi:((l).set i u).length=(wds a).length:=by rw[KP];exact Z
 replace c:=c.to [⟨e,34,((l).set i u).flatMap am⟩,⟨D,36,[uV 0,eS]⟩,⟨H,36,nc 0⟩,⟨B,36,nc a⟩] [];refine lL c [.m 9 71] (lN (kQ (bD 73 ((i:Nat)+1) (i+1) ?_)));refine lL c [.m 49 73] (lD ?_);intro a_ ka;refine ⟨_,_,?_,⟨i+1,(l).set i u,S,zk,rfl,rfl,c.to _ _,oM,zi,(M.set _ oM),oM,(dL oM inv (by first|omega|(have hy0:=bM (l:=([]:List Nat)) (k:=i) (by first|omega|(simp;done));omega)))⟩,ka.to _ kR⟩
 omega
theorem Gz (a b:Nat)(d:(wds a).length≤1000000000)(c:(wds b).length≤1000000000)(w:World)(h:Hp)(g:G w h):CV 187 #[nv a,nv b] w h (nv (a+b)):=by
 rcases ep a 18446744073709551616 with h1|h1
 ·rcases ep b 18446744073709551616 with h2|h2
  ·exact HG a b d c h1 h2 w h g
  ·rcases HA a with h3|h3
   ·subst h3;exact FW b c h2 w h g
   ·exact Hj a b d c h1 h3 h2 w h g
 ·rcases HA b with h3|h3
  ·subst h3;exact E0 a d h1 w h g
  ·exact GK a b d c h1 h3 w h g
theorem nE {l:List Nat}{a b c:Nat}(d:Wd l)(inv:aj 18446744073709551616 l+b=a+18446744073709551616^l.length*c)(f:b≤a)(e:c≤1):aD l=a-b:=by
 have h1:=bP d
 have:c=0:=by
  rcases HA c with h|h
  ·exact h
  ·have:c=1:=by omega
   subst this;rw[Kp] at inv
   omega
 subst this;rw[J6,y8] at inv
 show aj _ l=_
 omega
theorem AQ {a b q r:Nat}(h:a=b*q+r)(hr:r<b):q=a/b∧r=a%b:=by
 subst h;rw[Nat.mul_add_div oM,JW hr,Nat.mul_add_mod,AS hr];simp
theorem fL (n:Nat)(a:(wds n).length≤1000000000)(w:World)(h:Hp)(g:G w h):CR 168 #[nv n] w h (fun v h1=>∃ A c,v=.slice A (wds n).length c∧(wds n).length≤c∧SlO 1 am 0 h1 A (wds n)):=by
 rcases HA n with h0|h0
 ·subst h0
  refine (jr w h g).mono ?_;rintro _ w' ⟨_,h',rfl,u,rfl⟩;exact ⟨_,h',rfl,u,none,0,rfl,nR _,SlO.nil⟩
 ·refine (eK n h0 a w h g).mono ?_
  rintro _ w' ⟨_,h',rfl,u,b,rfl,_,_,d⟩;exact ⟨_,h',rfl,u,_,_,rfl,nR _,d⟩
theorem DC (a b:Nat)(i:a<b)(f:(wds a).length≤1000000000)(d:(wds b).length≤1000000000)(w:World)(h:Hp)(g:G w h):CV 188 #[nv a,nv b] w h (.tuple #[nv 0,.bool false]):=by
 have c:=sS g;have j:=dB i;refine go Tryz.func188 [(0,nv a),(1,nv b)] rfl (av (lA 2 36 (nc a) c (fun u w2 x c=>lA 3 36 (nc b) c (fun z y l c=>lA 4 36 ([uV 0,eS]) c (fun C k B c=>lL c [.v 5 qF] (ah (aa c [.o 11 (nv a) 2 0 2,.o 12 (nv b) 1 0 2] (ag 13 c (lk a b f d _ _ c.g) (fun _ _ c=>?_)))))))));have ⟨za,e⟩:=dT (p:=(cD a b:Int)<(0:Int)) oM;exact lB 14 za (ak (aa c [.v 15 (.agg #[uV 0,eS])] (lP 0 0 ([uV 0,eS]) c (fun _ c=>lL c [.v 5 qF] (ac c [(0,0,2)] (.tuple #[.agg #[uV 0,eS],qF]) rfl)))))
theorem Gx (a b:Nat)(f:(wds a).length≤1000000000)(d:(wds b).length≤1000000000)(i:b≤a)(has:a<18446744073709551616)(w:World)(h:Hp)(g:G w h):CV 188 #[nv a,nv b] w h (.tuple #[nv (a-b),.bool true]):=by
 have c:=sS g;have k:=eP i;refine go Tryz.func188 [(0,nv a),(1,nv b)] rfl (av (lA 2 36 (nc a) c (fun j w2 y c=>lA 3 36 (nc b) c (fun l z x c=>lA 4 36 ([uV 0,eS]) c (fun C u B c=>lL c [.v 5 qF] (ah (aa c [.o 11 (nv a) 2 0 2,.o 12 (nv b) 1 0 2] (ag 13 c (lk a b f d _ _ c.g) (fun _ _ c=>?_)))))))));have ⟨za,e⟩:=dF (p:=(cD a b:Int)<(0:Int)) oM;refine lB 14 za (af (cK (cQ (aa c [.v 16 (qP j 1),.o 17 (.string (hi a)) 2 1 1] (lV 18 qT ?_ (hr:=rb kR (iO (dX has))))))));refine ak (aa c [.v 19 (pB j),.o 20 (mV (a%18446744073709551616)) 2 0 1,.v 21 (pB l),.o 22 (mV (b%18446744073709551616)) 1 0 1] (lV 23 (mV ((a%18446744073709551616)-(b%18446744073709551616))) ?_ (hr:=rU ((((a%18446744073709551616:Nat):Int)-((b%18446744073709551616:Nat):Int))) kR (d9 (a%18446744073709551616) (b%18446744073709551616) oM oM))));exact lL c [.v 24 (.agg #[mV ((a%18446744073709551616)-(b%18446744073709551616)),eS])] (lP 0 0 ([mV ((a%18446744073709551616)-(b%18446744073709551616)),eS]) c (fun _ c=>lL c [.v 5 qT] (ac c [(0,0,2)] (.tuple #[.agg #[mV ((a%18446744073709551616)-(b%18446744073709551616)),eS],qT]) (by rw[AS has,AS (show b<18446744073709551616 by omega),iR oM]))))
theorem Hb (a b:Nat)(hla:(wds a).length≤1000000000)(hlb:(wds b).length≤1000000000)(W:b≤a)(has:18446744073709551616≤a)(hb0:0<b)(w:World)(h:Hp)(g:G w h):CV 188 #[nv a,nv b] w h (.tuple #[nv (a-b),.bool true]):=by
 have c:=sS g;have hcl:=eP W;have hlm:=cF W;refine go Tryz.func188 [(0,nv a),(1,nv b)] rfl (av (lA 2 36 (nc a) c (fun B w2 h3 c=>lA 3 36 (nc b) c (fun C w5 h6 c=>lA 4 36 ([uV 0,eS]) c (fun z w8 h9 c=>lL c [.v 5 qF] (ah (aa c [.o 11 (nv a) 2 0 2,.o 12 (nv b) 1 0 2] (ag 13 c (lk a b hla hlb _ _ c.g) (fun zl _ c=>?_)))))))));have ⟨zi,Z⟩:=dF (p:=(cD a b:Int)<(0:Int)) oM;refine lB 14 zi (af (cK (cQ (aa c [.v 16 (qP B 1),.o 17 (.string (hi a)) 2 1 1] (lV 18 qF ?_ (hr:=rb kR (iB (eM has))))))));refine af (cK (cQ ?_));obtain ⟨H,hK_⟩:∃ H,H=zl.heap.size:=⟨_,rfl⟩;have bb:z<H:=by rw[hK_];exact eF c 0
 have D:C<H:=by rw[hK_];exact eF c 1
 have F:B<H:=by rw[hK_];exact eF c 2
 refine xD ⟨[],some (H,[])⟩ 0 mixed ?_;have bl:=c.g.size;replace c:=c.drew;have y:=Le hK_;refine zO 0 25 [(2,0,2)] (nv a) rfl y c (fun p hp=>by obtain rfl:=pa.1 hp;exact F) (zO 2 27 [(1,0,2)] (nv b) rfl y c (fun p hp=>by obtain rfl:=pa.1 hp;exact D) (qx 1 26 (eK a oM oM _ _ c.g) rfl y ?_));rintro _ _ _ X y ⟨e,rfl,S,U,b2⟩;obtain ⟨_,c,-,-⟩:=c.take X S U;replace c:=c.to [⟨e,34,(wds a).flatMap am⟩,⟨z,36,[uV 0,eS]⟩,⟨C,36,nc b⟩,⟨B,36,nc a⟩] [];refine qx 3 28 (eK b oM oM _ _ c.g) rfl y ?_;rintro _ _ _ u19 y ⟨j,rfl,O,L,bm⟩;obtain ⟨zm,c,-,-⟩:=c.take u19 O L;replace c:=c.to [⟨j,34,(wds b).flatMap am⟩,⟨e,34,(wds a).flatMap am⟩,⟨z,36,[uV 0,eS]⟩,⟨C,36,nc b⟩,⟨B,36,nc a⟩] [];refine zV 4 6 (qS (sB e) ((wds a).length) ((wds a).length)) (zV 5 7 (qS (sB j) ((wds b).length) ((wds b).length)) (th (lL c [.v 8 (uV 0)] (ah (aa c [.m 29 6,.v 30 (nV ((wds a).length)),.v 31 (iV 0)] (a8 ?_))))));refine bH _ (CG.loop (fun μ_ Γ w_=>∃ (i:Nat) (l:List Nat) (I:Nat) (h_:Hp),μ_=(wds a).length-i∧Γ=[(4,pB z),(5,qF),(6,qS (sB e) ((wds a).length) ((wds a).length)),(7,qS (sB j) ((wds b).length) ((wds b).length)),(30,nV ((wds a).length)),(31,nV i),(8,mV I)]∧SS w h w_ h_ [⟨j,34,(wds b).flatMap am⟩,⟨e,34,(l).flatMap am⟩,⟨z,36,[uV 0,eS]⟩,⟨C,36,nc b⟩,⟨B,36,nc a⟩] [] []∧i≤(wds a).length∧l.length=(wds a).length∧Wd l∧I≤1∧aj 18446744073709551616 l+aj 18446744073709551616 ((wds b:List Nat).take i)=a+18446744073709551616^i*I) _ ⟨0,wds a,0,zm,rfl,rfl,c.to _ _,K7 _,rfl,Wd.wds _,oM,(by have hx_:aj 18446744073709551616 (wds a)=a:=ay _;rw[hx_];simp[aj])⟩ ?_);rintro _ _ _ ⟨i,l,I,zg,bq,rfl,c,hi,Q,K,hbo,inv⟩;have hlk:=K.get i;have hyk:=(Wd.wds b).get i;refine av ?_;cases za:(decide ((i:Int)<(((wds a).length:Nat):Int)))
 ·
  have ze:=oF za;refine lB 32 za (ah (cv (CG.exit ?_)))
  show CG _ _ _ _ _ _ _ _
  refine av ?_;rw[Ks (show (wds b).length≤i by first|omega|(simp;done)|(simp;omega)),show i=l.length by omega] at inv
  have hE:aD l=a-b:=nE K (by have hb_:aj 18446744073709551616 (wds b)=b:=ay b;rw[←hb_];exact inv) oM hbo;obtain ⟨_,c,M,bd,bw⟩:=c.pub 1;replace c:=(c.to [⟨j,34,(wds b).flatMap am⟩,⟨z,36,[uV 0,eS]⟩,⟨C,36,nc b⟩,⟨B,36,nc a⟩] []).aS (SlO.of_flat (sz:=1) (f:=am) (d:=0) (b:=e) (o:=0) (l:=l) (fun _=>rfl) M);exact lL c [.m 56 6] (ag 57 c (cB (sB e) ((wds a).length) (l) ((wds a).length) ((a-b)) (by first|rfl|assumption|(simp;done)|(simp;omega)|omega) (K) (hE) sM sM _ _ c.g c.f.1) (fun _ _ c=>lP 1 0 (nc (a-b)) c (fun _ c=>lL c [.v 5 qT] (ac c [(1,0,2)] (.tuple #[nv (a-b),qT]) rfl))))
 have ze:=oT za;refine lB 32 za (ah (ce (cK (cQ (kZ (aa c [.m 33 31,.m 9 33] (aI (lL c [.v 10 (uV 0)] (ah (aa c [.m 34 9,.m 35 7,.v 36 (nV ((wds b).length))] ?_))))))))));cases zb:(decide ((i:Int)<(((wds b).length:Nat):Int)))
 ·
  have zf:=oF zb;refine lB 37 zb (af (cK (kQ (lL c [.m 43 6,.m 44 9,.m 45 6,.m 46 9] (lX 47 (sB e) ((wds a).length) ((wds a).length) 1 (i:Nat) i rfl ?_)))));refine lQ 48 1 l am 1 0 i (mV ((l).getD i 0)) c oM (lL c [.m 49 10,.m 50 8] ?_);obtain ⟨x,zc,b0,bn,br,J⟩:=iN ((l).getD i 0) 0 I wM wM oM;refine lV 51 (.tuple #[mV x,mV zc]) ?_ (hr:=cJ kR (J _));refine lL c [.m 42 51,.v 52 (mV x),.v 53 (mV zc)] (lX 54 (sB e) ((wds a).length) ((wds a).length) 1 (i:Nat) i rfl ?_);refine lW 1 l am 1 i x c oM (fun _ c=>?_);have zj:((l).set i x).length=(wds a).length:=by rw[KP];exact Q
  replace c:=c.to [⟨j,34,(wds b).flatMap am⟩,⟨e,34,((l).set i x).flatMap am⟩,⟨z,36,[uV 0,eS]⟩,⟨C,36,nc b⟩,⟨B,36,nc a⟩] [];refine lL c [.m 8 53] (lN (kQ (bD 55 ((i:Nat)+1) (i+1) ?_)));refine lL c [.m 31 55] (lD ?_);intro a_ Y;refine ⟨_,_,?_,⟨i+1,(l).set i x,zc,zg,rfl,rfl,c.to _ _,oM,zj,(K.set _ oM),oM,(gJ oM inv (by first|omega|(have hy0:=bM (l:=(wds b:List Nat)) (k:=i) (by first|omega|(simp;done));omega)))⟩,Y.to _ kR⟩
  omega
 have zf:=oT zb;refine lB 37 zb (ak (kQ (lL c [.m 38 7,.m 39 9] (lX 40 (sB j) ((wds b).length) ((wds b).length) 1 (i:Nat) i rfl ?_))));refine lQ 41 0 (wds b) am 1 0 i (mV ((wds b).getD i 0)) c oM (lL c [.m 10 41] (lN (kQ (lL c [.m 43 6,.m 44 9,.m 45 6,.m 46 9] (lX 47 (sB e) ((wds a).length) ((wds a).length) 1 (i:Nat) i rfl ?_)))));refine lQ 48 1 l am 1 0 i (mV ((l).getD i 0)) c oM (lL c [.m 49 10,.m 50 8] ?_);obtain ⟨u,zd,bk,b3,bt,V⟩:=iN ((l).getD i 0) ((wds b).getD i 0) I wM wM oM;refine lV 51 (.tuple #[mV u,mV zd]) ?_ (hr:=cJ kR (V _));refine lL c [.m 42 51,.v 52 (mV u),.v 53 (mV zd)] (lX 54 (sB e) ((wds a).length) ((wds a).length) 1 (i:Nat) i rfl ?_);refine lW 1 l am 1 i u c oM (fun _ c=>?_);have zk:((l).set i u).length=(wds a).length:=by rw[KP];exact Q
 replace c:=c.to [⟨j,34,(wds b).flatMap am⟩,⟨e,34,((l).set i u).flatMap am⟩,⟨z,36,[uV 0,eS]⟩,⟨C,36,nc b⟩,⟨B,36,nc a⟩] [];refine lL c [.m 8 53] (lN (kQ (bD 55 ((i:Nat)+1) (i+1) ?_)));refine lL c [.m 31 55] (lD ?_);intro a_ Y;refine ⟨_,_,?_,⟨i+1,(l).set i u,zd,zg,rfl,rfl,c.to _ _,oM,zk,(K.set _ oM),oM,(gJ oM inv (by first|omega|(have hy0:=bM (l:=(wds b:List Nat)) (k:=i) (by first|omega|(simp;done));omega)))⟩,Y.to _ kR⟩
 omega
theorem GC (a:Nat)(hla:(wds a).length≤1000000000)(has:18446744073709551616≤a)(w:World)(h:Hp)(g:G w h):CV 188 #[nv a,nv 0] w h (.tuple #[nv a,.bool true]):=by
 have c:=sS g;have hcl:=eP (show 0≤a by omega);refine go Tryz.func188 [(0,nv a),(1,nv 0)] rfl (av (lA 2 36 (nc a) c (fun z w2 h3 c=>lA 3 36 (nc 0) c (fun J w5 h6 c=>lA 4 36 ([uV 0,eS]) c (fun C w8 h9 c=>lL c [.v 5 qF] (ah (aa c [.o 11 (nv a) 2 0 2,.o 12 (nv 0) 1 0 2] (ag 13 c (lk a 0 hla (by simp[o6]) _ _ c.g) (fun zg _ c=>?_)))))))));have ⟨zd,U⟩:=dF (p:=(cD a 0:Int)<(0:Int)) oM;refine lB 14 zd (af (cK (cQ (aa c [.v 16 (qP z 1),.o 17 (.string (hi a)) 2 1 1] (lV 18 qF ?_ (hr:=rb kR (iB (eM has))))))));refine af (cK (cQ ?_));obtain ⟨B,hK_⟩:∃ B,B=zg.heap.size:=⟨_,rfl⟩;have Z:C<B:=by rw[hK_];exact eF c 0
 have y:J<B:=by rw[hK_];exact eF c 1
 have x:z<B:=by rw[hK_];exact eF c 2
 refine xD ⟨[],some (B,[])⟩ 0 mixed ?_;have bl:=c.g.size;replace c:=c.drew;have j:=Le hK_;refine zO 0 25 [(2,0,2)] (nv a) rfl j c (fun p Y=>by obtain rfl:=pa.1 Y;exact x) (zO 2 27 [(1,0,2)] (nv 0) rfl j c (fun p Y=>by obtain rfl:=pa.1 Y;exact y) (qx 1 26 (eK a oM oM _ _ c.g) rfl j ?_));rintro _ _ _ S j ⟨e,rfl,D,H,bm⟩;obtain ⟨_,c,-,-⟩:=c.take S D H;replace c:=c.to [⟨e,34,(wds a).flatMap am⟩,⟨C,36,[uV 0,eS]⟩,⟨J,36,nc 0⟩,⟨z,36,nc a⟩] [];refine qx 3 28 (jr _ _ c.g) rfl j ?_;rintro _ _ zi V j rfl;replace c:=c.step V;refine zV 4 6 (qS (sB e) ((wds a).length) ((wds a).length)) (zV 5 7 (sZ) (th (lL c [.v 8 (uV 0)] (ah (aa c [.m 29 6,.v 30 (nV ((wds a).length)),.v 31 (iV 0)] (a8 ?_))))));refine bH _ (CG.loop (fun Q Γ w_=>∃ (i:Nat) (l:List Nat) (K:Nat) (h_:Hp),Q=(wds a).length-i∧Γ=[(4,pB C),(5,qF),(6,qS (sB e) ((wds a).length) ((wds a).length)),(7,sZ),(30,nV ((wds a).length)),(31,nV i),(8,mV K)]∧SS w h w_ h_ [⟨e,34,(l).flatMap am⟩,⟨C,36,[uV 0,eS]⟩,⟨J,36,nc 0⟩,⟨z,36,nc a⟩] [] []∧i≤(wds a).length∧l.length=(wds a).length∧Wd l∧K≤1∧aj 18446744073709551616 l+aj 18446744073709551616 (([]:List Nat).take i)=a+18446744073709551616^i*K) _ ⟨0,wds a,0,zi,rfl,rfl,c.to _ _,K7 _,rfl,Wd.wds _,oM,(by have M:aj 18446744073709551616 (wds a)=a:=ay _;rw[M];simp[aj])⟩ ?_);rintro _ _ _ ⟨i,l,K,zj,bb,rfl,c,hi,X,L,W,inv⟩;have hlk:=L.get i;have hyk:=Wd.get (l:=[]) Dg.nil i;refine av ?_;cases za:(decide ((i:Int)<(((wds a).length:Nat):Int)))
 ·
  have zc:=oF za;refine lB 32 za (ah (cv (CG.exit ?_)))
  show CG _ _ _ _ _ _ _ _
  refine av ?_;rw[List.take_nil,show i=l.length by omega] at inv
  have hE:aD l=a:=nE (b:=0) L inv oM W;obtain ⟨_,c,F,bd,br⟩:=c.pub 0;replace c:=(c.to [⟨C,36,[uV 0,eS]⟩,⟨J,36,nc 0⟩,⟨z,36,nc a⟩] []).aS (SlO.of_flat (sz:=1) (f:=am) (d:=0) (b:=e) (o:=0) (l:=l) (fun _=>rfl) F);exact lL c [.m 56 6] (ag 57 c (cB (sB e) ((wds a).length) (l) ((wds a).length) (a) (by first|rfl|assumption|(simp;done)|(simp;omega)|omega) (L) (hE) sM sM _ _ c.g c.f.1) (fun _ _ c=>lP 0 0 (nc a) c (fun _ c=>lL c [.v 5 qT] (ac c [(0,0,2)] (.tuple #[nv a,qT]) rfl))))
 have zc:=oT za;refine lB 32 za (ah (ce (cK (cQ (kZ (aa c [.m 33 31,.m 9 33] (aI (lL c [.v 10 (uV 0)] (ah (aa c [.m 34 9,.m 35 7,.v 36 (iV 0)] ?_))))))))));have ⟨ze,O⟩:=dF (p:=(i:Int)<(0:Int)) oM;refine lB 37 ze (af (cK (kQ (lL c [.m 43 6,.m 44 9,.m 45 6,.m 46 9] (lX 47 (sB e) ((wds a).length) ((wds a).length) 1 (i:Nat) i rfl ?_)))));refine lQ 48 0 l am 1 0 i (mV ((l).getD i 0)) c oM (lL c [.m 49 10,.m 50 8] ?_);obtain ⟨u,zb,bk,bn,bq,I⟩:=iN ((l).getD i 0) 0 K wM wM oM;refine lV 51 (.tuple #[mV u,mV zb]) ?_ (hr:=cJ kR (I _));refine lL c [.m 42 51,.v 52 (mV u),.v 53 (mV zb)] (lX 54 (sB e) ((wds a).length) ((wds a).length) 1 (i:Nat) i rfl ?_);refine lW 0 l am 1 i u c oM (fun _ c=>?_);have zf:((l).set i u).length=(wds a).length:=by rw[KP];exact X
 replace c:=c.to [⟨e,34,((l).set i u).flatMap am⟩,⟨C,36,[uV 0,eS]⟩,⟨J,36,nc 0⟩,⟨z,36,nc a⟩] [];refine lL c [.m 8 53] (lN (kQ (bD 55 ((i:Nat)+1) (i+1) ?_)));refine lL c [.m 31 55] (lD ?_);intro a_ ka;refine ⟨_,_,?_,⟨i+1,(l).set i u,zb,zj,rfl,rfl,c.to _ _,oM,zf,(L.set _ oM),oM,(gJ oM inv (by first|omega|(have hy0:=bM (l:=([]:List Nat)) (k:=i) (by first|omega|(simp;done));omega)))⟩,ka.to _ kR⟩
 omega
theorem CZ (a b:Nat)(e:b≤a)(c:(wds a).length≤1000000000)(d:(wds b).length≤1000000000)(w:World)(h:Hp)(g:G w h):CV 188 #[nv a,nv b] w h (.tuple #[nv (a-b),.bool true]):=by
 rcases ep a 18446744073709551616 with h1|h1
 ·exact Gx a b c d e h1 w h g
 ·rcases HA b with h3|h3
  ·subst h3;exact GC a c h1 w h g
  ·exact Hb a b c d e h1 h3 w h g
theorem Gb (a b:Nat)(I:(wds a).length≤1000000000)(D:(wds b).length≤1000000000)(has:a<18446744073709551616)(i:b<18446744073709551616)(w:World)(h:Hp)(g:G w h):CV 130 #[nv a,nv b] w h (nv (a*b)):=by
 have c:=sS g;have u:=AS has;have p:=AS i;refine go Tryz.func130 [(0,nv a),(1,nv b)] rfl (av (lA 2 36 (nc a) c (fun B w2 L c=>lA 3 36 (nc b) c (fun C M K c=>lA 4 36 ([uV 0,eS]) c (fun Q J O c=>ah (aa c [.v 7 (qP B 1),.o 8 (.string (hi a)) 2 1 1] (lV 9 qT ?_ (hr:=rb kR (iO (dX has))))))))));refine lL c [.m 10 9,.v 11 (qP C 1),.o 12 (.string (hi b)) 1 1 1] (lV 13 qT ?_ (hr:=rb kR (iO (dX i))));refine lL c [.v 14 qT] (ak (aa c [.v 16 (pB B),.o 17 (mV (a%18446744073709551616)) 2 0 1,.v 18 (pB C),.o 19 (mV (b%18446744073709551616)) 1 0 1] (lC 20 c (kP (a%18446744073709551616) (b%18446744073709551616) wM wM _ _ c.g) ?_)));rintro _ _ _ c ⟨e,za,rfl,j,x,z,y⟩;have k:=gM (a:=(a%18446744073709551616)) (b:=(b%18446744073709551616)) wM wM;refine lL c [.m 15 20,.v 21 (mV e),.v 22 (mV za),.m 5 21,.m 6 22] (ah (av ?_));rw[u,p] at j
 refine lL c [.m 23 5] ?_;cases zb:((e:Int) == (0:Int))
 ·
  have F:=ae zb;refine lB 24 zb (af (cK (aa c [.m 27 6,.m 28 5] (lR 29 34 2 ([mV za,mV e]) c (fun H _ _ c=>?_)))));replace c:=c.aS (SlO.of_flat (sz:=1) (f:=am) (d:=0) (l:=[za,e]) (fun _=>rfl) c.f.1);exact ag 30 c (cB (sB H) 2 ([za,e]) 2 ((a*b)) (by first|rfl|assumption|(simp;done)|(simp;omega)|omega) (Dg.cons oM (Dg.one oM)) (by show za+18446744073709551616*(e+18446744073709551616*0)=a*b;omega) sM sM _ _ c.g c.f.1) (fun _ _ c=>lP 0 0 (nc (a*b)) c (fun _ c=>ac c [(0,0,2)] (nv (a*b)) rfl))
 have F:=ML zb;exact lB 24 zb (ak (aa c [.m 25 6,.v 26 (.agg #[mV za,eS])] (lP 0 0 ([mV za,eS]) c (fun _ c=>ac c [(0,0,2)] (.agg #[mV za,eS]) (by rw[show za=a*b by omega];exact iR oM)))))
theorem Hu (a b:Nat)(K:(wds a).length≤1000000000)(F:(wds b).length≤1000000000)(has:18446744073709551616≤a)(w:World)(h:Hp)(g:G w h):CV 130 #[nv a,nv b] w h (nv (a*b)):=by
 have c:=sS g;refine go Tryz.func130 [(0,nv a),(1,nv b)] rfl (av (lA 2 36 (nc a) c (fun I w2 O c=>lA 3 36 (nc b) c (fun S Q M c=>lA 4 36 ([uV 0,eS]) c (fun V L U c=>ah (aa c [.v 7 (qP I 1),.o 8 (.string (hi a)) 2 1 1] (lV 9 qF ?_ (hr:=rb kR (iB (eM has))))))))));refine lL c [.m 10 9] (lG 11 ?_);refine lG 12 (lG 13 (lL c [.v 14 qF] (af (cK (cQ (cR 6 [] mixed c ar ?_))))));refine eO 0 31 [(2,0,2)] (nv a) c (eO 2 33 [(1,0,2)] (nv b) c (eC 1 32 c (fun _ _ c=>fL a oM _ _ c.g) ?_));rintro _ _ _ _ _ c ⟨e,p,rfl,z,j⟩;replace c:=c.aS j;refine eC 3 34 c (fun _ _ c=>fL b oM _ _ c.g) ?_;rintro _ _ _ _ _ c ⟨k,i,rfl,y,l⟩;replace c:=c.aS l;refine eC 4 35 c (fun _ _ c=>C9 e p (wds a) k i (wds b) (Wd.wds a) (Wd.wds b) oM oM _ _ c.g c.f.2.1 c.f.1) ?_;rintro _ _ _ _ _ c ⟨H,C,x,rfl,D,B,u,d,J⟩;replace c:=c.aS J;exact aq 5 36 c (fun _ _ c=>cB H C (x) x.length ((a*b)) (by first|rfl|assumption|(simp;done)|(simp;omega)|omega) (u) (d.trans (by rw[ay,ay])) sM sM _ _ c.g c.f.1) (fun _ _ c=>ck c (fun _ _ c=>tP 6 0 0 (nc (a*b)) c (fun _ c=>tN (kX (c.ret [(0,0,2)] (nv (a*b)) rfl)))))
theorem HT (a b:Nat)(M:(wds a).length≤1000000000)(H:(wds b).length≤1000000000)(has:a<18446744073709551616)(j:18446744073709551616≤b)(w:World)(h:Hp)(g:G w h):CV 130 #[nv a,nv b] w h (nv (a*b)):=by
 have c:=sS g;refine go Tryz.func130 [(0,nv a),(1,nv b)] rfl (av (lA 2 36 (nc a) c (fun J w2 S c=>lA 3 36 (nc b) c (fun L U Q c=>lA 4 36 ([uV 0,eS]) c (fun W O V c=>ah (aa c [.v 7 (qP J 1),.o 8 (.string (hi a)) 2 1 1] (lV 9 qT ?_ (hr:=rb kR (iO (dX has))))))))));refine lL c [.m 10 9,.v 11 (qP L 1),.o 12 (.string (hi b)) 1 1 1] (lV 13 qF ?_ (hr:=rb kR (iB (eM j))));refine lL c [.v 14 qF] (af (cK (cQ (cR 6 [] mixed c ar ?_))));refine eO 0 31 [(2,0,2)] (nv a) c (eO 2 33 [(1,0,2)] (nv b) c (eC 1 32 c (fun _ _ c=>fL a oM _ _ c.g) ?_));rintro _ _ _ _ _ c ⟨e,u,rfl,B,k⟩;replace c:=c.aS k;refine eC 3 34 c (fun _ _ c=>fL b oM _ _ c.g) ?_;rintro _ _ _ _ _ c ⟨l,i,rfl,z,p⟩;replace c:=c.aS p;refine eC 4 35 c (fun _ _ c=>C9 e u (wds a) l i (wds b) (Wd.wds a) (Wd.wds b) oM oM _ _ c.g c.f.2.1 c.f.1) ?_;rintro _ _ _ _ _ c ⟨I,D,y,rfl,F,C,x,d,K⟩;replace c:=c.aS K;exact aq 5 36 c (fun _ _ c=>cB I D (y) y.length ((a*b)) (by first|rfl|assumption|(simp;done)|(simp;omega)|omega) (x) (d.trans (by rw[ay,ay])) sM sM _ _ c.g c.f.1) (fun _ _ c=>ck c (fun _ _ c=>tP 6 0 0 (nc (a*b)) c (fun _ c=>tN (kX (c.ret [(0,0,2)] (nv (a*b)) rfl)))))
theorem oR (a b:Nat)(d:(wds a).length≤1000000000)(c:(wds b).length≤1000000000)(w:World)(h:Hp)(g:G w h):CV 130 #[nv a,nv b] w h (nv (a*b)):=by
 rcases ep a 18446744073709551616 with h1|h1
 ·rcases ep b 18446744073709551616 with h2|h2
  ·exact Gb a b d c h1 h2 w h g
  ·exact HT a b d c h1 h2 w h g
 ·exact Hu a b d c h1 w h g
theorem DD (a b:Nat)(J:0<b)(L:(wds a).length≤1000000000)(z:(wds b).length≤1000000000)(has:a<18446744073709551616)(f:b<18446744073709551616)(w:World)(h:Hp)(g:G w h):CV 172 #[nv a,nv b] w h (.tuple #[nv (a/b),nv (a%b),.bool true]):=by
 have c:=sS g;have H:=(ci J).2.2;have I:=AS f;refine go Tryz.func172 [(0,nv a),(1,nv b)] rfl (av (lA 2 36 (nc a) c (fun B w2 Q c=>lA 3 36 (nc b) c (fun F S O c=>lA 4 36 ([uV 0,eS]) c (fun K M U c=>lA 5 36 ([uV 0,eS]) c (fun zb _ _ c=>lL c [.v 6 qF] (ah (aa c [.o 11 (nv b) 2 0 2] (ag 12 c (eu b z _ _ c.g) (fun _ _ c=>?_))))))))));have za:(((nb b:Nat):Int) == (0:Int))=false:=bJ oM;have C:=ae za;refine lB 13 za (af (cK (cQ (aa c [.v 16 (qP B 1),.o 17 (.string (hi a)) 3 1 1] (lV 18 qT ?_ (hr:=rb kR (iO (dX has))))))));refine lL c [.m 19 18,.v 20 (qP F 1),.o 21 (.string (hi b)) 2 1 1] (lV 22 qT ?_ (hr:=rb kR (iO (dX f))));refine lL c [.v 23 qT] (ak (cQ ?_));have l:=c;refine BR 12 [] [K,zb] mixed c ar (eV 0 24 (pB B) (eO 1 25 [(3,0,1)] (mV (a%18446744073709551616)) c (eV 2 26 (pB F) (eO 3 27 [(2,0,1)] (mV (b%18446744073709551616)) c (eV 4 28 (mV ((a%18446744073709551616)/(b%18446744073709551616))) ?_ (hv:=fun _=>aK (dl (t:=34) (u:=34) (x:=.tmp 25) (y:=.tmp 27) (k:=.u64) (a:=((a%18446744073709551616:Nat):Int)) (b:=((b%18446744073709551616:Nat):Int)) kR kR kR oM _) (jZ (a%18446744073709551616) (b%18446744073709551616) oM)))))));refine eV 5 29 (.agg #[mV ((a%18446744073709551616)/(b%18446744073709551616)),eS]) (eV 6 30 (pB B) (ut 7 31 [(3,0,1)] (mV (a%18446744073709551616)) l c ?_ (hM:=fun p D=>by obtain rfl:=pa.1 D;exact fun d=>by rcases g7.1 d with e|d;exact eN c.st (i:=3) (j:=1) kR kR kR e;rcases g7.1 d with e|d;exact eN c.st (i:=3) (j:=0) kR kR kR e;cases d)));refine eV 8 32 (pB F) (ut 9 33 [(2,0,1)] (mV (b%18446744073709551616)) l c ?_ (hM:=fun p D=>by obtain rfl:=pa.1 D;exact fun d=>by rcases g7.1 d with e|d;exact eN c.st (i:=2) (j:=1) kR kR kR e;rcases g7.1 d with e|d;exact eN c.st (i:=2) (j:=0) kR kR kR e;cases d));refine eV 10 34 (mV ((a%18446744073709551616)%(b%18446744073709551616))) ?_ (hv:=fun _=>aK (dU (t:=34) (u:=34) (x:=.tmp 31) (y:=.tmp 33) (k:=.u64) (a:=((a%18446744073709551616:Nat):Int)) (b:=((b%18446744073709551616:Nat):Int)) kR kR kR oM _) (cp (a%18446744073709551616) (b%18446744073709551616)));refine eV 11 35 (.agg #[mV ((a%18446744073709551616)%(b%18446744073709551616)),eS]) (ck c (fun _ _ c=>tP 12 1 0 ([mV ((a%18446744073709551616)/(b%18446744073709551616)),eS]) c (fun _ c=>?_) (hz:=ej (Lf))));refine tP 13 0 0 ([mV ((a%18446744073709551616)%(b%18446744073709551616)),eS]) c (fun _ c=>?_) (hz:=ej (Lg _<|Lf));exact tV 14 6 qT (tN (kX (c.ret [(1,0,2),(0,0,2)] (.tuple #[.agg #[mV ((a%18446744073709551616)/(b%18446744073709551616)),eS],.agg #[mV ((a%18446744073709551616)%(b%18446744073709551616)),eS],qT]) (by rw[AS has,AS f,iR (show a/b<18446744073709551616 by have:=JT a b;omega),iR (show a%b<18446744073709551616 by have:=A4 a J;omega)]))))
theorem Gp (a b:Nat)(hb:0<b)(M:(wds a).length≤1000000000)(F:(wds b).length≤1000000000)(has:18446744073709551616≤a)(u:b<18446744073709551616)(w:World)(h:Hp)(g:G w h):CV 172 #[nv a,nv b] w h (.tuple #[nv (a/b),nv (a%b),.bool true]):=by
 have c:=sS g;have bd:=(ci hb).2.2;have bk:=AS u;have hcl:=eP (show b≤a by omega);refine go Tryz.func172 [(0,nv a),(1,nv b)] rfl (av (lA 2 36 (nc a) c (fun J w2 h3 c=>lA 3 36 (nc b) c (fun B w5 h6 c=>lA 4 36 ([uV 0,eS]) c (fun Q w8 h9 c=>lA 5 36 ([uV 0,eS]) c (fun za _ _ c=>lL c [.v 6 qF] (ah (aa c [.o 11 (nv b) 2 0 2] (ag 12 c (eu b F _ _ c.g) (fun _ _ c=>?_))))))))));have zb:(((nb b:Nat):Int) == (0:Int))=false:=bJ oM;have Y:=ae zb;refine lB 13 zb (af (cK (cQ (aa c [.v 16 (qP J 1),.o 17 (.string (hi a)) 3 1 1] (lV 18 qF ?_ (hr:=rb kR (iB (eM has))))))));refine lL c [.m 19 18] (lG 20 ?_);refine lG 21 (lG 22 (lL c [.v 23 qF] (af (cK (cQ (aa c [.o 36 (nv a) 3 0 2,.o 37 (nv b) 2 0 2] (ag 38 c (lk a b M F _ _ c.g) (fun zd _ c=>?_))))))));have ⟨zc,X⟩:=dF (p:=(cD a b:Int)<(0:Int)) oM;refine lB 39 zc (af (cK (cQ (aa c [.v 42 (qP B 1),.o 43 (.string (hi b)) 2 1 1] (lV 44 qT ?_ (hr:=rb kR (iO (dX u))))))));refine ak (cQ ?_);obtain ⟨y,hK_⟩:∃ y,y=zd.heap.size:=⟨_,rfl⟩;have O:za<y:=by rw[hK_];exact eF c 0
 have bb:Q<y:=by rw[hK_];exact eF c 1
 have x:B<y:=by rw[hK_];exact eF c 2
 have k:J<y:=by rw[hK_];exact eF c 3
 refine xD ⟨[],some (y,[])⟩ 0 mixed ?_;have bm:=c.g.size;replace c:=c.drew;have j:=Le hK_;refine zO 0 46 [(3,0,2)] (nv a) rfl j c (fun p hp=>by obtain rfl:=pa.1 hp;exact k) (zV 2 48 (pB B) (zO 3 49 [(2,0,1)] (mV (b%18446744073709551616)) rfl j c (fun p hp=>by obtain rfl:=pa.1 hp;exact x) (qx 1 47 (eK a oM oM _ _ c.g) rfl j ?_)));rintro _ _ _ W j ⟨i,rfl,D,H,bq⟩;obtain ⟨_,c,-,-⟩:=c.take W D H;replace c:=c.to [⟨i,34,(wds a).flatMap am⟩,⟨za,36,[uV 0,eS]⟩,⟨Q,36,[uV 0,eS]⟩,⟨B,36,nc b⟩,⟨J,36,nc a⟩] [];refine JC 4 50 (Gd i (wds a) (wds a).length (b%18446744073709551616) oM oM (Wd.wds a) M (nR _) _ _ c.g (c.own 0) (c.jk 0)) rfl j oM ?_;rintro _ _ _ V j ⟨z,r,rfl,hzl,hWz,I,K,S⟩;replace c:=(c.stepM 0 V S).to [⟨i,34,(z).flatMap am⟩,⟨za,36,[uV 0,eS]⟩,⟨Q,36,[uV 0,eS]⟩,⟨B,36,nc b⟩,⟨J,36,nc a⟩] [];refine zV 5 45 (.tuple #[qS (sB i) (tl z z.length) ((wds a).length),mV r]) (zV 6 51 (qS (sB i) (tl z z.length) ((wds a).length)) (zV 7 52 (mV r) (zV 8 7 (qS (sB i) (tl z z.length) ((wds a).length)) (zV 9 8 (mV r) (th ?_)))));have C:=AS u;rw[ay,C] at I
 rw[C] at K
 obtain ⟨Z,U⟩:=AQ I K;have htz:=gu z z.length;have hQ:aD (z.take (tl z z.length))=a/b:=by have e:=ju 18446744073709551616 z z.length (nR _);rw[zy] at e;exact e.trans Z
 obtain ⟨_,c,L,bn,bl⟩:=c.pub 0;replace c:=(c.to [⟨za,36,[uV 0,eS]⟩,⟨Q,36,[uV 0,eS]⟩,⟨B,36,nc b⟩,⟨J,36,nc a⟩] []).aS (SlO.of_flat (sz:=1) (f:=am) (d:=0) (b:=i) (o:=0) (l:=z) (fun _=>rfl) L);exact lL c [.m 53 7] (ag 54 c (cB (sB i) ((wds a).length) (z.take (tl z z.length)) (tl z z.length) ((a/b)) (by first|rfl|assumption|(simp;done)|(simp;omega)|omega) (Dg.take hWz _) (hQ) sM sM _ _ c.g ((c.f.1).take _)) (fun _ _ c=>lL c [.m 55 8,.v 56 (.agg #[mV r,eS])] (lP 1 0 (nc (a/b)) c (fun _ c=>lP 0 0 ([mV r,eS]) c (fun _ c=>lL c [.v 6 qT] (ac c [(1,0,2),(0,0,2)] (.tuple #[nv (a/b),.agg #[mV r,eS],qT]) (by rw[U,iR (by have:=A4 a hb;omega)])))))))
theorem G6 (a b:Nat)(V:0<b)(i:(wds a).length≤1000000000)(d:(wds b).length≤1000000000)(j:b≤a)(has:18446744073709551616≤a)(e:18446744073709551616≤b)(w:World)(h:Hp)(g:G w h):CV 172 #[nv a,nv b] w h (.tuple #[nv (a/b),nv (a%b),.bool true]):=by
 have c:=sS g;have S:=(ci V).2.2;have hcl:=eP j;have Y:=cF j;have hl2:=du e;refine go Tryz.func172 [(0,nv a),(1,nv b)] rfl (av (lA 2 36 (nc a) c (fun b1 w2 h3 c=>lA 3 36 (nc b) c (fun b4 w5 h6 c=>lA 4 36 ([uV 0,eS]) c (fun b7 w8 h9 c=>lA 5 36 ([uV 0,eS]) c (fun X _ _ c=>lL c [.v 6 qF] (ah (aa c [.o 11 (nv b) 2 0 2] (ag 12 c (eu b d _ _ c.g) (fun _ _ c=>?_))))))))));have za:(((nb b:Nat):Int) == (0:Int))=false:=bJ oM;have J:=ae za;refine lB 13 za (af (cK (cQ (aa c [.v 16 (qP b1 1),.o 17 (.string (hi a)) 3 1 1] (lV 18 qF ?_ (hr:=rb kR (iB (eM has))))))));refine lL c [.m 19 18] (lG 20 ?_);refine lG 21 (lG 22 (lL c [.v 23 qF] (af (cK (cQ (aa c [.o 36 (nv a) 3 0 2,.o 37 (nv b) 2 0 2] (ag 38 c (lk a b i d _ _ c.g) (fun _ _ c=>?_))))))));have ⟨zb,I⟩:=dF (p:=(cD a b:Int)<(0:Int)) oM;refine lB 39 zb (af (cK (cQ (aa c [.v 42 (qP b4 1),.o 43 (.string (hi b)) 2 1 1] (lV 44 qF ?_ (hr:=rb kR (iB (eM e))))))));refine af (cK (cQ (cR 8 [] mixed c ar ?_)));refine eO 0 58 [(3,0,2)] (nv a) c (eO 2 60 [(2,0,2)] (nv b) c (eC 1 59 c (fun _ _ c=>fL a oM _ _ c.g) ?_));rintro _ _ _ _ _ c ⟨z,Q,rfl,W,K⟩;replace c:=c.aS K;refine eC 3 61 c (fun _ _ c=>fL b oM _ _ c.g) ?_;rintro _ _ _ _ _ c ⟨L,B,rfl,U,M⟩;replace c:=c.aS M;refine eC 4 62 c (fun _ _ c=>Fd z Q (wds a) L B (wds b) (Wd.wds a) (Wd.wds b) i oM oM (lc V) _ _ c.g c.f.2.1 c.f.1) ?_;rintro _ _ _ _ _ c ⟨l,u,q,x,k,r,rfl,hcq,hcr,H,C,F,y,Z,hlr,O,D⟩;replace c:=c.aP O D;exact eV 5 57 (.tuple #[qS l q.length u,qS x r.length k]) (eV 6 63 (qS l q.length u) (eV 7 64 (qS x r.length k) (ck c (fun _ _ c=>tV 8 9 (qS l q.length u) (tV 9 10 (qS x r.length k) (th (lL c [.m 65 9] (ag 66 c (cB l u (q) q.length ((a/b)) (by first|rfl|assumption|(simp;done)|(simp;omega)|omega) (H) (F.trans (by rw[ay,ay])) sM sM _ _ c.g c.f.2.1) (fun _ _ c=>lL c [.m 67 10] (ag 68 c (cB x k (r) r.length ((a%b)) (by first|rfl|assumption|(simp;done)|(simp;omega)|omega) (C) (y.trans (by rw[ay,ay])) sM sM _ _ c.g c.f.1) (fun _ _ c=>lP 1 0 (nc (a/b)) c (fun _ c=>lP 0 0 (nc (a%b)) c (fun _ c=>lL c [.v 6 qT] (ac c [(1,0,2),(0,0,2)] (.tuple #[nv (a/b),nv (a%b),qT]) rfl))))))))))))))
theorem Gi (a b:Nat)(H:0<b)(z:(wds a).length≤1000000000)(f:(wds b).length≤1000000000)(d:a<b)(has:a<18446744073709551616)(u:18446744073709551616≤b)(w:World)(h:Hp)(g:G w h):CV 172 #[nv a,nv b] w h (.tuple #[nv (a/b),nv (a%b),.bool true]):=by
 have c:=sS g;have B:=(ci H).2.2;have D:=dB d;refine go Tryz.func172 [(0,nv a),(1,nv b)] rfl (av (lA 2 36 (nc a) c (fun F w2 O c=>lA 3 36 (nc b) c (fun J Q M c=>lA 4 36 ([uV 0,eS]) c (fun K L S c=>lA 5 36 ([uV 0,eS]) c (fun C _ _ c=>lL c [.v 6 qF] (ah (aa c [.o 11 (nv b) 2 0 2] (ag 12 c (eu b f _ _ c.g) (fun _ _ c=>?_))))))))));have za:(((nb b:Nat):Int) == (0:Int))=false:=bJ oM;have y:=ae za;refine lB 13 za (af (cK (cQ (aa c [.v 16 (qP F 1),.o 17 (.string (hi a)) 3 1 1] (lV 18 qT ?_ (hr:=rb kR (iO (dX has))))))));refine lL c [.m 19 18,.v 20 (qP J 1),.o 21 (.string (hi b)) 2 1 1] (lV 22 qF ?_ (hr:=rb kR (iB (eM u))));refine lL c [.v 23 qF] (af (cK (cQ (aa c [.o 36 (nv a) 3 0 2,.o 37 (nv b) 2 0 2] (ag 38 c (lk a b z f _ _ c.g) (fun _ _ c=>?_))))));have ⟨zb,x⟩:=dT (p:=(cD a b:Int)<(0:Int)) oM;refine lB 39 zb (ak (cQ ?_));have l:=c;refine BR 2 [] [K,C] mixed c ar (eV 0 40 (.agg #[uV 0,eS]) (ut 1 41 [(3,0,2)] (nv a) l c ?_ (hM:=fun p I=>by obtain rfl:=pa.1 I;exact fun k=>by rcases g7.1 k with e|k;exact eN c.st (i:=3) (j:=1) kR kR kR e;rcases g7.1 k with e|k;exact eN c.st (i:=3) (j:=0) kR kR kR e;cases k)));refine ck c (fun _ _ c=>tP 2 1 0 ([uV 0,eS]) c (fun _ c=>?_) (hz:=ej (Lf)));refine tP 3 0 0 (nc a) c (fun _ c=>?_) (hz:=ej (Lg _<|Lf));exact tV 4 6 qT (tN (kX (c.ret [(1,0,2),(0,0,2)] (.tuple #[.agg #[uV 0,eS],nv a,qT]) (by have d:a<b:=(by rcases ep a b with h_|h_;exact h_;rcases eP h_ with e|e<;>omega);rw[JW d,AS d];rfl))))
theorem Ha (a b:Nat)(F:0<b)(y:(wds a).length≤1000000000)(f:(wds b).length≤1000000000)(d:a<b)(has:18446744073709551616≤a)(w:World)(h:Hp)(g:G w h):CV 172 #[nv a,nv b] w h (.tuple #[nv (a/b),nv (a%b),.bool true]):=by
 have c:=sS g;have z:=(ci F).2.2;have C:=dB d;refine go Tryz.func172 [(0,nv a),(1,nv b)] rfl (av (lA 2 36 (nc a) c (fun D w2 L c=>lA 3 36 (nc b) c (fun O M K c=>lA 4 36 ([uV 0,eS]) c (fun I J Q c=>lA 5 36 ([uV 0,eS]) c (fun B _ _ c=>lL c [.v 6 qF] (ah (aa c [.o 11 (nv b) 2 0 2] (ag 12 c (eu b f _ _ c.g) (fun _ _ c=>?_))))))))));have za:(((nb b:Nat):Int) == (0:Int))=false:=bJ oM;have x:=ae za;refine lB 13 za (af (cK (cQ (aa c [.v 16 (qP D 1),.o 17 (.string (hi a)) 3 1 1] (lV 18 qF ?_ (hr:=rb kR (iB (eM has))))))));refine lL c [.m 19 18] (lG 20 ?_);refine lG 21 (lG 22 (lL c [.v 23 qF] (af (cK (cQ (aa c [.o 36 (nv a) 3 0 2,.o 37 (nv b) 2 0 2] (ag 38 c (lk a b y f _ _ c.g) (fun _ _ c=>?_))))))));have ⟨zb,u⟩:=dT (p:=(cD a b:Int)<(0:Int)) oM;refine lB 39 zb (ak (cQ ?_));have l:=c;refine BR 2 [] [I,B] mixed c ar (eV 0 40 (.agg #[uV 0,eS]) (ut 1 41 [(3,0,2)] (nv a) l c ?_ (hM:=fun p H=>by obtain rfl:=pa.1 H;exact fun k=>by rcases g7.1 k with e|k;exact eN c.st (i:=3) (j:=1) kR kR kR e;rcases g7.1 k with e|k;exact eN c.st (i:=3) (j:=0) kR kR kR e;cases k)));refine ck c (fun _ _ c=>tP 2 1 0 ([uV 0,eS]) c (fun _ c=>?_) (hz:=ej (Lf)));refine tP 3 0 0 (nc a) c (fun _ c=>?_) (hz:=ej (Lg _<|Lf));exact tV 4 6 qT (tN (kX (c.ret [(1,0,2),(0,0,2)] (.tuple #[.agg #[uV 0,eS],nv a,qT]) (by have d:a<b:=(by rcases ep a b with h_|h_;exact h_;rcases eP h_ with e|e<;>omega);rw[JW d,AS d];rfl))))
theorem FT (a b:Nat)(e:0<b)(d:(wds a).length≤1000000000)(c:(wds b).length≤1000000000)(w:World)(h:Hp)(g:G w h):CV 172 #[nv a,nv b] w h (.tuple #[nv (a/b),nv (a%b),.bool true]):=by
 rcases ep a b with hab|hab
 ·rcases ep a 18446744073709551616 with h1|h1
  ·rcases ep b 18446744073709551616 with h2|h2
   ·exact DD a b e d c h1 h2 w h g
   ·exact Gi a b e d c hab h1 h2 w h g
  ·exact Ha a b e d c hab h1 w h g
 ·rcases ep b 18446744073709551616 with h2|h2
  ·rcases ep a 18446744073709551616 with h1|h1
   ·exact DD a b e d c h1 h2 w h g
   ·exact Gp a b e d c h1 h2 w h g
  ·exact G6 a b e d c hab oM h2 w h g
theorem jI {z:Int}{b:Bool}{n:Nat}(a:ai z=b)(c:ab z=n):Value.agg #[.bool b,.int .u64 (lo n),.string (hi n)]=iv z:=by subst a c;rfl
theorem jg {z:Int}{b:Bool}(a:ai z=b):iv z=Value.agg #[.bool b,.int .u64 (lo (ab z)),.string (hi (ab z))]:=(jI a rfl).symm
theorem mb (x y:Int):bC (ai x != ai y) (ab x*ab y)=x*y:=by
 rcases hx:ai x with _|_<;>rcases hy:ai y with _|_
 ·have h1:=bc hx
  have c:=bc hy;obtain ⟨a,rfl⟩:=Lh h1;obtain ⟨b,rfl⟩:=Lh c
  simp[bC,ab,Li,Lj,Lk]
 ·have h1:=bc hx
  have c:=bx hy;obtain ⟨a,rfl⟩:=Lh h1;obtain ⟨b,d⟩:=Lh (a:=-y) oM;obtain rfl:y = -b:=by omega
  simp[bC,ab,Li,Lj,Lk]
 ·have h1:=bx hx
  have c:=bc hy;obtain ⟨b,rfl⟩:=Lh c;obtain ⟨a,ha⟩:=Lh (a:=-x) oM;obtain rfl:x = -a:=by omega
  simp[bC,ab,Li,Lj,Lk]
 ·have h1:=bx hx
  have c:=bx hy;obtain ⟨a,ha⟩:=Lh (a:=-x) oM;obtain ⟨b,d⟩:=Lh (a:=-y) oM;obtain rfl:x = -a:=by omega
  obtain rfl:y = -b:=by omega
  simp[bC,ab,Li,Lj,Lk]
theorem j5 {a b:Nat}:(wds (a+b)).length≤(wds a).length+(wds b).length+1:=by
 refine fE kD ?_;have h1:=cZ a;have d:=cZ b;have c:18446744073709551616^(wds a).length≤18446744073709551616^((wds a).length+(wds b).length):=Kb kD oM;have e:18446744073709551616^(wds b).length≤18446744073709551616^((wds a).length+(wds b).length):=Kb kD oM;rw[JY]
 omega
theorem ph {a b k:Nat}(ha:(wds a).length≤k)(c:(wds b).length≤k):(wds (a+b)).length≤k+1:=by
 refine fE kD ?_;have h1:=cZ a;have e:=cZ b;have d:18446744073709551616^(wds a).length≤18446744073709551616^k:=Kb kD ha;have f:18446744073709551616^(wds b).length≤18446744073709551616^k:=Kb kD c;rw[JY]
 omega
theorem cY {a b:Nat}:(wds (a*b)).length≤(wds a).length+(wds b).length:=by
 refine fE kD ?_;rw[Kd];have h1:=cZ a;have c:=cZ b;exact e6 (Nat.mul_lt_mul'' h1 c) (Nat.le_refl _)
theorem ax {a b k:Nat}(h:a≤b)(c:(wds b).length≤k):(wds a).length≤k:=ez (cF h) c
theorem wx (a:Nat)(w:World)(h:Hp)(g:G w h):CV 53 #[.bool false,nv a] w h (iv (bC false a)):=by
 have b:=sS g;refine go Tryz.func53 [(0,qF),(1,nv a)] rfl (av (lA 3 36 (nc a) b (fun c w2 i b=>lA 4 38 ([qF,uV 0,eS]) b (fun d j e b=>ah (cR 8 [] mixed b ar ?_)))));exact eV 0 5 qF (eV 1 6 qF (eG 2 7 (eG 3 8 (eG 4 9 (eV 5 10 qF (eO 6 11 [(1,0,2)] (nv a) b (eV 7 12 (wX qF a) (ck b (fun f l b=>tP 8 0 0 (wC qF a) b (fun k b=>tN (kX (b.ret [(0,0,3)] (wX qF a) (jI (by rw[i8];rfl) (eD _ _))))))))))))))
theorem D3 (p:(wds 0).length≤1000000000)(w:World)(h:Hp)(g:G w h):CV 53 #[.bool true,nv 0] w h (iv (bC true 0)):=by
 have a:=sS g;have b:nb 0=0:=rfl;refine go Tryz.func53 [(0,qT),(1,nv 0)] rfl (av (lA 3 36 (nc 0) a (fun c w2 j a=>lA 4 38 ([qF,uV 0,eS]) a (fun d k f a=>ah (cR 8 [] mixed a ar ?_)))));refine eV 0 5 qT (eV 1 6 qT (eO 2 7 [(1,0,2)] (nv 0) a (eO 6 11 [(1,0,2)] (nv 0) a (aq 3 8 a (fun _ _ a=>eu 0 aM _ _ a.g) (fun i l a=>eV 4 9 qF ?_ (hv:=fun _=>rb (e:=decide ((0:Int)<((nb 0:Nat):Int))) kR (decide_eq_false oM)))))));exact eV 5 10 qF (eV 7 12 (wX qF 0) (ck a (fun o _ a=>tP 8 0 0 (wC qF 0) a (fun _ a=>tN (kX (a.ret [(0,0,3)] (wX qF 0) (jI (by rw[i8];rfl) (eD _ _))))))))
theorem FC (a:Nat)(ha:0<a)(u:(wds a).length≤1000000000)(w:World)(h:Hp)(g:G w h):CV 53 #[.bool true,nv a] w h (iv (bC true a)):=by
 have b:=sS g;have c:=(ci ha).2.2;refine go Tryz.func53 [(0,qT),(1,nv a)] rfl (av (lA 3 36 (nc a) b (fun d w2 k b=>lA 4 38 ([qF,uV 0,eS]) b (fun f l i b=>ah (cR 8 [] mixed b ar ?_)))));refine eV 0 5 qT (eV 1 6 qT (eO 2 7 [(1,0,2)] (nv a) b (eO 6 11 [(1,0,2)] (nv a) b (aq 3 8 b (fun _ _ b=>eu a aM _ _ b.g) (fun j o b=>eV 4 9 qT ?_ (hv:=fun _=>rb (e:=decide ((0:Int)<((nb a:Nat):Int))) kR (decide_eq_true oM)))))));exact eV 5 10 qT (eV 7 12 (wX qT a) (ck b (fun p _ b=>tP 8 0 0 (wC qT a) b (fun _ b=>tN (kX (b.ret [(0,0,3)] (wX qT a) (jI (by rw[i8];simpa using ha) (eD _ _))))))))
theorem fH (b:Bool)(a:Nat)(c:(wds a).length≤1000000000)(w:World)(h:Hp)(g:G w h):CV 53 #[.bool b,nv a] w h (iv (bC b a)):=by
 cases b
 ·exact wx a w h g
 ·rcases HA a with h0|h0
  ·subst h0;exact D3 c w h g
  ·exact FC a h0 c w h g
theorem Ip (z:Int)(h0 : -9223372036854775808≤z)(hz:z<0)(w:World)(h:Hp)(g:G w h):CV 160 #[iV z] w h (iv z):=by
 have a:=sS g;have d:ab z≤9223372036854775808:=by unfold ab;omega
 refine go Tryz.func160 [(0,iV z)] rfl (av (lA 2 38 ([qF,uV 0,eS]) a (fun e w2 j a=>ah (aa a [.m 3 0] ?_))));have ⟨b,c⟩:=dT (p:=(z:Int)<(0:Int)) oM;refine lB 4 b (ak (aa a [.m 5 0] (lV 6 (mV (18446744073709551616-ab z)) ?_ (hr:=rU (z) kR (by rw[JP];unfold ab;omega)))));refine lV 7 (mV (ab z)) ?_ (hr:=rU ((0-((18446744073709551616-ab z:Nat):Int))) kR (by rw[JP];omega));exact ag 8 a (GB (ab z) oM _ _ a.g) (fun k f a=>lL a [.v 9 (wX qT (ab z))] (lP 0 0 (wC qT (ab z)) a (fun i a=>ac a [(0,0,3)] (wX qT (ab z)) (jI (by simp[ai,hz]) rfl))))
theorem Iq (n:Nat)(h1:n<9223372036854775808)(w:World)(h:Hp)(g:G w h):CV 160 #[nV n] w h (iv (n:Int)):=by
 have a:=sS g;refine go Tryz.func160 [(0,nV n)] rfl (av (lA 2 38 ([qF,uV 0,eS]) a (fun d w2 i a=>ah (aa a [.m 3 0] ?_))));have ⟨b,c⟩:=dF (p:=(n:Int)<(0:Int)) oM;refine lB 4 b (af (cK (aa a [.m 10 0] (lV 11 (mV n) ?_ (hr:=rU ((n:Int)) kR (ba oM oM))))));exact ag 12 a (GB n oM _ _ a.g) (fun j e a=>lL a [.v 13 (wX qF n)] (lP 0 0 (wC qF n) a (fun f a=>ac a [(0,0,3)] (wX qF n) (jI (by simp[ai]) (by simp[ab])))))
theorem JE (z:Int)(h0 : -9223372036854775808≤z)(h1:z≤9223372036854775807)(w:World)(h:Hp)(g:G w h):CV 160 #[iV z] w h (iv z):=by
 rcases Int.lt_or_le z 0 with hz|hz
 ·exact Ip z h0 hz w h g
 ·obtain ⟨n,rfl⟩:=Lh hz
  exact Iq n oM w h g
def dJ(x y:Int):Int:=if x<y then -1 else if y<x then 1 else 0
theorem As {x y:Int}(h:x<y):dJ x y = -1:=by simp[dJ,h]
theorem CU {x y:Int}(h:y<x):dJ x y=1:=by unfold dJ;rw[MM oM,MN h]
theorem CN {x y:Int}(a:0≤x)(b:0≤y):dJ x y=cD (ab x) (ab y):=by
 unfold dJ cD ab
 have e1:(x<y)=(x.natAbs<y.natAbs):=by apply propext;omega
 have e2:(y<x)=(y.natAbs<x.natAbs):=by apply propext;omega
 simp only[e1,e2]
theorem AH {x y:Int}(a:x<0)(b:y<0):dJ x y=cD (ab y) (ab x):=by
 unfold dJ cD ab
 have e1:(x<y)=(y.natAbs<x.natAbs):=by apply propext;omega
 have e2:(y<x)=(x.natAbs<y.natAbs):=by apply propext;omega
 simp only[e1,e2]
theorem tm (z:Int)(w:World)(h:Hp)(g:G w h):CV 88 #[iv z] w h (nv (ab z)):=by
 have a:=sS g;exact go Tryz.func88 [(0,iv z)] rfl (av (lA 1 38 (ic z) a (fun b w2 f a=>lA 2 36 ([uV 0,eS]) a (fun c i d a=>aI (lL a [.v 3 (qP b 1),.o 4 (nv (ab z)) 1 1 2] (lP 0 0 (nc (ab z)) a (fun e a=>ac a [(0,0,2)] (nv (ab z)) rfl)))))))
theorem EJ (z:Int)(hz:ai z=true)(w:World)(h:Hp)(g:G w h):CV 71 #[wX (.bool true) (ab z)] w h (iV z.sign):=by
 have a:=sS g;exact go Tryz.func71 [(0,wX qT (ab z))] rfl (av (lA 1 38 (wC qT (ab z)) a (fun b w2 c a=>lL a [.v 2 (iV 0)] (ah (kZ (aa a [.v 4 (pB b),.o 5 qT 0 0 1,.m 3 5] (ak (aa a [.v 2 (iV (-1))] (ac a [] (iV (-1)) (by rw[Int.sign_eq_neg_one_of_neg (bx hz)]))))))))))
theorem Er (z:Int)(k:(wds (ab z)).length≤1000000000)(hz:ai z=false)(h0:0<ab z)(w:World)(h:Hp)(g:G w h):CV 71 #[wX (.bool false) (ab z)] w h (iV z.sign):=by
 have a:=sS g;have e:=(ci h0).2.2;refine go Tryz.func71 [(0,wX qF (ab z))] rfl (av (lA 1 38 (wC qF (ab z)) a (fun d w2 i a=>lL a [.v 2 (iV 0)] (ah (kZ (aa a [.v 4 (pB d),.o 5 qF 0 0 1,.m 3 5] (af (aa a [.v 7 (qP d 1),.o 8 (nv (ab z)) 0 1 2] (ag 9 a (eu (ab z) aM _ _ a.g) (fun f j a=>?_))))))))));have ⟨b,c⟩:=dT (p:=(0:Int)<((nb (ab z):Nat):Int)) oM;exact lB 10 b (lL a [.m 6 10] (ak (aa a [.v 2 (iV 1)] (ac a [] (iV 1) (by rw[Int.sign_eq_one_of_pos (by have:=bc hz;unfold ab at h0;omega)])))))
theorem FL (k:(wds (ab 0)).length≤1000000000)(w:World)(h:Hp)(g:G w h):CV 71 #[wX (.bool false) (ab 0)] w h (iV 0):=by
 have a:=sS g;have e:nb (ab 0)=0:=rfl;refine go Tryz.func71 [(0,wX qF (ab 0))] rfl (av (lA 1 38 (wC qF (ab 0)) a (fun d w2 i a=>lL a [.v 2 (iV 0)] (ah (kZ (aa a [.v 4 (pB d),.o 5 qF 0 0 1,.m 3 5] (af (aa a [.v 7 (qP d 1),.o 8 (nv (ab 0)) 0 1 2] (ag 9 a (eu (ab 0) aM _ _ a.g) (fun f j a=>?_))))))))));have ⟨b,c⟩:=dF (p:=(0:Int)<((nb (ab 0):Nat):Int)) oM;exact lB 10 b (lL a [.m 6 10] (af (cK (aa a [.v 2 (iV 0)] (ac a [] (iV 0) rfl)))))
theorem kT (z:Int)(a:(wds (ab z)).length≤1000000000)(w:World)(h:Hp)(g:G w h):CV 71 #[iv z] w h (iV z.sign):=by
 rcases hz:ai z with _|_
 ·rw[jg hz]
  rcases HA (ab z) with h0|h0
  ·have:z=0:=by unfold ab at h0;omega
   subst this;exact FL a w h g
  ·exact Er z a hz h0 w h g
 ·rw[jg hz];exact EJ z hz w h g
theorem HQ (z:Int)(p:(wds (ab z)).length≤1000000000)(hz:ai z=false)(w:World)(h:Hp)(g:G w h):CV 86 #[wX (.bool false) (ab z)] w h (iv (-z)):=by
 have a:=sS g;exact go Tryz.func86 [(0,wX qF (ab z))] rfl (av (lA 1 38 (wC qF (ab z)) a (fun b w2 i a=>lA 2 38 ([qF,uV 0,eS]) a (fun c j d a=>aI (lL a [.v 3 (pB b),.o 4 qF 1 0 1,.v 5 qT,.v 6 (qP b 1),.o 7 (nv (ab z)) 1 1 2] (ag 8 a (fH true (ab z) aM _ _ a.g) (fun f k a=>lP 0 0 (ic (bC true (ab z))) a (fun l a=>ac a [(0,0,3)] (iv (bC true (ab z))) (by have e:=kr z;rw[hz] at e;exact congrArg iv e)))))))))
theorem Ho (z:Int)(p:(wds (ab z)).length≤1000000000)(hz:ai z=true)(w:World)(h:Hp)(g:G w h):CV 86 #[wX (.bool true) (ab z)] w h (iv (-z)):=by
 have a:=sS g;exact go Tryz.func86 [(0,wX qT (ab z))] rfl (av (lA 1 38 (wC qT (ab z)) a (fun b w2 i a=>lA 2 38 ([qF,uV 0,eS]) a (fun c j d a=>aI (lL a [.v 3 (pB b),.o 4 qT 1 0 1,.v 5 qF,.v 6 (qP b 1),.o 7 (nv (ab z)) 1 1 2] (ag 8 a (fH false (ab z) aM _ _ a.g) (fun f k a=>lP 0 0 (ic (bC false (ab z))) a (fun l a=>ac a [(0,0,3)] (iv (bC false (ab z))) (by have e:=kr z;rw[hz] at e;exact congrArg iv e)))))))))
theorem Gu (z:Int)(a:(wds (ab z)).length≤1000000000)(w:World)(h:Hp)(g:G w h):CV 86 #[iv z] w h (iv (-z)):=by
 rcases hz:ai z with _|_<;>rw[jg hz]
 ·exact HQ z a hz w h g
 ·exact Ho z a hz w h g
theorem Eg (x y:Int)(f:(wds (ab x)).length≤1000000000)(d:(wds (ab y)).length≤1000000000)(e:ai x=false)(i:ai y=false)(w:World)(h:Hp)(g:G w h):CV 36 #[wX (.bool false) (ab x),wX (.bool false) (ab y)] w h (iV (dJ x y)):=by
 have a:=sS g;refine go Tryz.func36 [(0,wX qF (ab x)),(1,wX qF (ab y))] rfl (av (lA 2 38 (wC qF (ab x)) a (fun b w2 l a=>lA 3 38 (wC qF (ab y)) a (fun c p j a=>lL a [.v 4 (iV 0)] (ah (kZ (aa a [.v 6 (pB b),.o 7 qF 1 0 1,.m 8 7] (lG 9 ?_))))))));exact lG 10 (lL a [.v 11 qF,.m 5 11] (af (aa a [.v 18 (pB b),.o 19 qF 1 0 1,.m 17 19] (af (aa a [.v 21 (pB c),.o 22 qF 0 0 1,.m 20 22] (af (cK (aa a [.v 23 (qP b 1),.o 24 (nv (ab x)) 1 1 2,.v 25 (qP c 1),.o 26 (nv (ab y)) 0 1 2] (ag 27 a (lk (ab x) (ab y) aM aM _ _ a.g) (fun k u a=>lL a [.m 4 27] (ac a [] (iV (cD (ab x) (ab y))) (by rw[CN (bc e) (bc i)]))))))))))))
theorem D4 (x y:Int)(f:(wds (ab x)).length≤1000000000)(c:(wds (ab y)).length≤1000000000)(d:ai x=false)(i:ai y=true)(w:World)(h:Hp)(g:G w h):CV 36 #[wX (.bool false) (ab x),wX (.bool true) (ab y)] w h (iV (dJ x y)):=by
 have a:=sS g;refine go Tryz.func36 [(0,wX qF (ab x)),(1,wX qT (ab y))] rfl (av (lA 2 38 (wC qF (ab x)) a (fun b w2 k a=>lA 3 38 (wC qT (ab y)) a (fun e l j a=>lL a [.v 4 (iV 0)] (ah (kZ (aa a [.v 6 (pB b),.o 7 qF 1 0 1,.m 8 7] (lG 9 ?_))))))));exact lG 10 (lL a [.v 11 qF,.m 5 11] (af (aa a [.v 18 (pB b),.o 19 qF 1 0 1,.m 17 19] (af (aa a [.v 21 (pB e),.o 22 qT 0 0 1,.m 20 22] (ak (aa a [.v 4 (iV 1)] (ac a [] (iV 1) (by rw[CU (by have:=bc d;have:=bx i;omega)])))))))))
theorem D7 (x y:Int)(f:(wds (ab x)).length≤1000000000)(c:(wds (ab y)).length≤1000000000)(d:ai x=true)(i:ai y=false)(w:World)(h:Hp)(g:G w h):CV 36 #[wX (.bool true) (ab x),wX (.bool false) (ab y)] w h (iV (dJ x y)):=by
 have a:=sS g;exact go Tryz.func36 [(0,wX qT (ab x)),(1,wX qF (ab y))] rfl (av (lA 2 38 (wC qT (ab x)) a (fun b w2 k a=>lA 3 38 (wC qF (ab y)) a (fun e l j a=>lL a [.v 4 (iV 0)] (ah (kZ (aa a [.v 6 (pB b),.o 7 qT 1 0 1,.m 8 7,.v 9 (pB e),.o 10 qF 0 0 1,.v 11 qF,.m 5 11] (af (aa a [.v 18 (pB b),.o 19 qT 1 0 1,.m 17 19] (ak (aa a [.v 4 (iV (-1))] (ac a [] (iV (-1)) (by rw[As (by have:=bx d;have:=bc i;omega)])))))))))))))
theorem ER (x y:Int)(f:(wds (ab x)).length≤1000000000)(d:(wds (ab y)).length≤1000000000)(e:ai x=true)(i:ai y=true)(w:World)(h:Hp)(g:G w h):CV 36 #[wX (.bool true) (ab x),wX (.bool true) (ab y)] w h (iV (dJ x y)):=by
 have a:=sS g;exact go Tryz.func36 [(0,wX qT (ab x)),(1,wX qT (ab y))] rfl (av (lA 2 38 (wC qT (ab x)) a (fun b w2 l a=>lA 3 38 (wC qT (ab y)) a (fun c p j a=>lL a [.v 4 (iV 0)] (ah (kZ (aa a [.v 6 (pB b),.o 7 qT 1 0 1,.m 8 7,.v 9 (pB c),.o 10 qT 0 0 1,.v 11 qT,.m 5 11] (ak (aa a [.v 12 (qP c 1),.o 13 (nv (ab y)) 0 1 2,.v 14 (qP b 1),.o 15 (nv (ab x)) 1 1 2] (ag 16 a (lk (ab y) (ab x) aM aM _ _ a.g) (fun k u a=>lL a [.m 4 16] (ac a [] (iV (cD (ab y) (ab x))) (by rw[AH (bx e) (bx i)])))))))))))))
theorem uH (x y:Int)(b:(wds (ab x)).length≤1000000000)(a:(wds (ab y)).length≤1000000000)(w:World)(h:Hp)(g:G w h):CV 36 #[iv x,iv y] w h (iV (dJ x y)):=by
 rcases hx:ai x with _|_<;>rcases hy:ai y with _|_<;>rw[jg hx,jg hy]
 ·exact Eg x y b a hx hy w h g
 ·exact D4 x y b a hx hy w h g
 ·exact D7 x y b a hx hy w h g
 ·exact ER x y b a hx hy w h g
theorem Ej (x y:Int)(f:(wds (ab x)).length≤1000000000)(k:(wds (ab y)).length≤1000000000)(j:(wds (ab x+ab y)).length≤1000000000)(l:ai x=false)(i:ai y=false)(w:World)(h:Hp)(g:G w h):CV 159 #[wX (.bool false) (ab x),wX (.bool false) (ab y)] w h (iv (x+y)):=by
 have a:=sS g;have d:=bc l;have e:=bc i;refine go Tryz.func159 [(0,wX qF (ab x)),(1,wX qF (ab y))] rfl (av (lA 2 38 (wC qF (ab x)) a (fun b w2 z a=>lA 3 38 (wC qF (ab y)) a (fun c B u a=>lA 4 38 ([qF,uV 0,eS]) a (fun D p C a=>ah (aa a [.v 9 (pB b),.o 10 qF 2 0 1,.v 11 (pB c),.o 12 qF 1 0 1,.v 13 qT] (ak (cQ (cR 8 [] mixed a ar ?_)))))))));exact eV 0 14 (pB b) (eO 1 15 [(2,0,1)] qF a (eV 2 16 (qP b 1) (eO 3 17 [(2,1,2)] (nv (ab x)) a (eV 4 18 (qP c 1) (eO 5 19 [(1,1,2)] (nv (ab y)) a (aq 6 20 a (fun _ _ a=>Gz (ab x) (ab y) aM aM _ _ a.g) (fun _ _ a=>aq 7 21 a (fun _ _ a=>fH false ((ab x)+(ab y)) (by first|assumption|exact ax (Ll _ _) aM) _ _ a.g) (fun _ _ a=>ck a (fun _ _ a=>tP 8 0 0 (ic (bC false ((ab x)+(ab y)))) a (fun _ a=>tN (kX (a.ret [(0,0,3)] (iv (bC false ((ab x)+(ab y)))) (congrArg iv (by unfold bC ab at *;simp;omega))))))))))))))
theorem Ck (x y:Int)(f:(wds (ab x)).length≤1000000000)(l:(wds (ab y)).length≤1000000000)(k:(wds (ab x+ab y)).length≤1000000000)(p:ai x=false)(j:ai y=true)(u:ab y≤ab x)(w:World)(h:Hp)(g:G w h):CV 159 #[wX (.bool false) (ab x),wX (.bool true) (ab y)] w h (iv (x+y)):=by
 have a:=sS g;have d:=bc p;have e:=bx j;exact go Tryz.func159 [(0,wX qF (ab x)),(1,wX qT (ab y))] rfl (av (lA 2 38 (wC qF (ab x)) a (fun b w2 C a=>lA 3 38 (wC qT (ab y)) a (fun c D B a=>lA 4 38 ([qF,uV 0,eS]) a (fun H z F a=>ah (aa a [.v 9 (pB b),.o 10 qF 2 0 1,.v 11 (pB c),.o 12 qT 1 0 1,.v 13 qF] (af (cK (cQ (aa a [.v 23 (qP b 1),.o 24 (nv (ab x)) 2 1 2,.v 25 (qP c 1),.o 26 (nv (ab y)) 1 1 2] (ag 27 a (CZ (ab x) (ab y) oM aM aM _ _ a.g) (fun _ _ a=>lL a [.m 22 27,.v 28 (nv ((ab x)-(ab y))),.v 29 qT] (lA 5 36 ([uV 0,eS]) a (fun i _ _ a=>lP 0 0 (nc ((ab x)-(ab y))) a (fun _ a=>lL a [.m 6 29] (aI (lL a [.m 30 6] (ak (aa a [.v 31 (pB b),.o 32 qF 3 0 1,.o 33 (nv ((ab x)-(ab y))) 0 0 2] (ag 34 a (fH false ((ab x)-(ab y)) (by first|assumption|exact ax (Ll _ _) aM) _ _ a.g) (fun _ _ a=>lP 1 0 (ic (bC false ((ab x)-(ab y)))) a (fun _ a=>ac a [(1,0,3)] (iv (bC false ((ab x)-(ab y)))) (congrArg iv (by unfold bC ab at *;simp;omega))))))))))))))))))))))))
theorem Bg (x y:Int)(i:(wds (ab x)).length≤1000000000)(p:(wds (ab y)).length≤1000000000)(l:(wds (ab x+ab y)).length≤1000000000)(u:ai x=false)(k:ai y=true)(d:ab x<ab y)(w:World)(h:Hp)(g:G w h):CV 159 #[wX (.bool false) (ab x),wX (.bool true) (ab y)] w h (iv (x+y)):=by
 have a:=sS g;have e:=bc u;have f:=bx k;exact go Tryz.func159 [(0,wX qF (ab x)),(1,wX qT (ab y))] rfl (av (lA 2 38 (wC qF (ab x)) a (fun c w2 D a=>lA 3 38 (wC qT (ab y)) a (fun b F C a=>lA 4 38 ([qF,uV 0,eS]) a (fun I B H a=>ah (aa a [.v 9 (pB c),.o 10 qF 2 0 1,.v 11 (pB b),.o 12 qT 1 0 1,.v 13 qF] (af (cK (cQ (aa a [.v 23 (qP c 1),.o 24 (nv (ab x)) 2 1 2,.v 25 (qP b 1),.o 26 (nv (ab y)) 1 1 2] (ag 27 a (DC (ab x) (ab y) oM aM aM _ _ a.g) (fun _ _ a=>lL a [.m 22 27,.v 28 (nv 0),.v 29 qF] (lA 5 36 ([uV 0,eS]) a (fun j _ _ a=>lP 0 0 (nc 0) a (fun _ a=>lL a [.m 6 29] (aI (lL a [.m 30 6] (af (cK (aa a [.v 36 (qP b 1),.o 37 (nv (ab y)) 2 1 2,.v 38 (qP c 1),.o 39 (nv (ab x)) 3 1 2] (ag 40 a (CZ (ab y) (ab x) oM aM aM _ _ a.g) (fun _ _ a=>lL a [.m 35 40,.v 41 (nv ((ab y)-(ab x))),.v 42 qT] (lA 7 36 ([uV 0,eS]) a (fun z _ _ a=>lP 0 0 (nc ((ab y)-(ab x))) a (fun _ a=>lL a [.m 8 42] (aI (lL a [.v 43 (pB b),.o 44 qT 3 0 1,.o 45 (nv ((ab y)-(ab x))) 0 0 2] (ag 46 a (fH true ((ab y)-(ab x)) (by first|assumption|exact ax (Ll _ _) aM) _ _ a.g) (fun _ _ a=>lP 2 0 (ic (bC true ((ab y)-(ab x)))) a (fun _ a=>ac a [(2,0,3)] (iv (bC true ((ab y)-(ab x)))) (congrArg iv (by unfold bC ab at *;simp;omega))))))))))))))))))))))))))))))))
theorem Be (x y:Int)(f:(wds (ab x)).length≤1000000000)(l:(wds (ab y)).length≤1000000000)(k:(wds (ab x+ab y)).length≤1000000000)(p:ai x=true)(j:ai y=false)(u:ab y≤ab x)(w:World)(h:Hp)(g:G w h):CV 159 #[wX (.bool true) (ab x),wX (.bool false) (ab y)] w h (iv (x+y)):=by
 have a:=sS g;have d:=bx p;have e:=bc j;exact go Tryz.func159 [(0,wX qT (ab x)),(1,wX qF (ab y))] rfl (av (lA 2 38 (wC qT (ab x)) a (fun b w2 C a=>lA 3 38 (wC qF (ab y)) a (fun c D B a=>lA 4 38 ([qF,uV 0,eS]) a (fun H z F a=>ah (aa a [.v 9 (pB b),.o 10 qT 2 0 1,.v 11 (pB c),.o 12 qF 1 0 1,.v 13 qF] (af (cK (cQ (aa a [.v 23 (qP b 1),.o 24 (nv (ab x)) 2 1 2,.v 25 (qP c 1),.o 26 (nv (ab y)) 1 1 2] (ag 27 a (CZ (ab x) (ab y) oM aM aM _ _ a.g) (fun _ _ a=>lL a [.m 22 27,.v 28 (nv ((ab x)-(ab y))),.v 29 qT] (lA 5 36 ([uV 0,eS]) a (fun i _ _ a=>lP 0 0 (nc ((ab x)-(ab y))) a (fun _ a=>lL a [.m 6 29] (aI (lL a [.m 30 6] (ak (aa a [.v 31 (pB b),.o 32 qT 3 0 1,.o 33 (nv ((ab x)-(ab y))) 0 0 2] (ag 34 a (fH true ((ab x)-(ab y)) (by first|assumption|exact ax (Ll _ _) aM) _ _ a.g) (fun _ _ a=>lP 1 0 (ic (bC true ((ab x)-(ab y)))) a (fun _ a=>ac a [(1,0,3)] (iv (bC true ((ab x)-(ab y)))) (congrArg iv (by unfold bC ab at *;simp;omega))))))))))))))))))))))))
theorem Ch (x y:Int)(i:(wds (ab x)).length≤1000000000)(p:(wds (ab y)).length≤1000000000)(l:(wds (ab x+ab y)).length≤1000000000)(u:ai x=true)(k:ai y=false)(d:ab x<ab y)(w:World)(h:Hp)(g:G w h):CV 159 #[wX (.bool true) (ab x),wX (.bool false) (ab y)] w h (iv (x+y)):=by
 have a:=sS g;have e:=bx u;have f:=bc k;exact go Tryz.func159 [(0,wX qT (ab x)),(1,wX qF (ab y))] rfl (av (lA 2 38 (wC qT (ab x)) a (fun c w2 D a=>lA 3 38 (wC qF (ab y)) a (fun b F C a=>lA 4 38 ([qF,uV 0,eS]) a (fun I B H a=>ah (aa a [.v 9 (pB c),.o 10 qT 2 0 1,.v 11 (pB b),.o 12 qF 1 0 1,.v 13 qF] (af (cK (cQ (aa a [.v 23 (qP c 1),.o 24 (nv (ab x)) 2 1 2,.v 25 (qP b 1),.o 26 (nv (ab y)) 1 1 2] (ag 27 a (DC (ab x) (ab y) oM aM aM _ _ a.g) (fun _ _ a=>lL a [.m 22 27,.v 28 (nv 0),.v 29 qF] (lA 5 36 ([uV 0,eS]) a (fun j _ _ a=>lP 0 0 (nc 0) a (fun _ a=>lL a [.m 6 29] (aI (lL a [.m 30 6] (af (cK (aa a [.v 36 (qP b 1),.o 37 (nv (ab y)) 2 1 2,.v 38 (qP c 1),.o 39 (nv (ab x)) 3 1 2] (ag 40 a (CZ (ab y) (ab x) oM aM aM _ _ a.g) (fun _ _ a=>lL a [.m 35 40,.v 41 (nv ((ab y)-(ab x))),.v 42 qT] (lA 7 36 ([uV 0,eS]) a (fun z _ _ a=>lP 0 0 (nc ((ab y)-(ab x))) a (fun _ a=>lL a [.m 8 42] (aI (lL a [.v 43 (pB b),.o 44 qF 3 0 1,.o 45 (nv ((ab y)-(ab x))) 0 0 2] (ag 46 a (fH false ((ab y)-(ab x)) (by first|assumption|exact ax (Ll _ _) aM) _ _ a.g) (fun _ _ a=>lP 2 0 (ic (bC false ((ab y)-(ab x)))) a (fun _ a=>ac a [(2,0,3)] (iv (bC false ((ab y)-(ab x)))) (congrArg iv (by unfold bC ab at *;simp;omega))))))))))))))))))))))))))))))))
theorem FQ (x y:Int)(f:(wds (ab x)).length≤1000000000)(k:(wds (ab y)).length≤1000000000)(j:(wds (ab x+ab y)).length≤1000000000)(l:ai x=true)(i:ai y=true)(w:World)(h:Hp)(g:G w h):CV 159 #[wX (.bool true) (ab x),wX (.bool true) (ab y)] w h (iv (x+y)):=by
 have a:=sS g;have d:=bx l;have e:=bx i;refine go Tryz.func159 [(0,wX qT (ab x)),(1,wX qT (ab y))] rfl (av (lA 2 38 (wC qT (ab x)) a (fun b w2 z a=>lA 3 38 (wC qT (ab y)) a (fun c B u a=>lA 4 38 ([qF,uV 0,eS]) a (fun D p C a=>ah (aa a [.v 9 (pB b),.o 10 qT 2 0 1,.v 11 (pB c),.o 12 qT 1 0 1,.v 13 qT] (ak (cQ (cR 8 [] mixed a ar ?_)))))))));exact eV 0 14 (pB b) (eO 1 15 [(2,0,1)] qT a (eV 2 16 (qP b 1) (eO 3 17 [(2,1,2)] (nv (ab x)) a (eV 4 18 (qP c 1) (eO 5 19 [(1,1,2)] (nv (ab y)) a (aq 6 20 a (fun _ _ a=>Gz (ab x) (ab y) aM aM _ _ a.g) (fun _ _ a=>aq 7 21 a (fun _ _ a=>fH true ((ab x)+(ab y)) (by first|assumption|exact ax (Ll _ _) aM) _ _ a.g) (fun _ _ a=>ck a (fun _ _ a=>tP 8 0 0 (ic (bC true ((ab x)+(ab y)))) a (fun _ a=>tN (kX (a.ret [(0,0,3)] (iv (bC true ((ab x)+(ab y)))) (congrArg iv (by unfold bC ab at *;simp;omega))))))))))))))
theorem FR (x y:Int)(j:(wds (ab x)).length≤1000000000)(l:(wds (ab y)).length≤1000000000)(k:(wds (ab x*ab y)).length≤1000000000)(d:ai x=false)(b:ai y=false)(w:World)(h:Hp)(g:G w h):CV 73 #[wX (.bool false) (ab x),wX (.bool false) (ab y)] w h (iv (x*y)):=by
 have a:=sS g;have f:=bc d;have i:=bc b;refine go Tryz.func73 [(0,wX qF (ab x)),(1,wX qF (ab y))] rfl (av (lA 2 38 (wC qF (ab x)) a (fun c w2 u a=>lA 3 38 (wC qF (ab y)) a (fun e z p a=>lA 4 38 ([qF,uV 0,eS]) a (fun C o B a=>ah (cR 11 [] mixed a ar ?_))))));exact eV 0 5 (pB c) (eO 1 6 [(2,0,1)] qF a (eV 2 7 (pB e) (eO 3 8 [(1,0,1)] qF a (eV 4 9 qF (eV 5 10 (qP c 1) (eO 6 11 [(2,1,2)] (nv (ab x)) a (eV 7 12 (qP e 1) (eO 8 13 [(1,1,2)] (nv (ab y)) a (aq 9 14 a (fun _ _ a=>oR (ab x) (ab y) aM aM _ _ a.g) (fun _ _ a=>aq 10 15 a (fun _ _ a=>fH false ((ab x)*(ab y)) aM _ _ a.g) (fun _ _ a=>ck a (fun _ _ a=>tP 11 0 0 (ic (bC false ((ab x)*(ab y)))) a (fun _ a=>tN (kX (a.ret [(0,0,3)] (iv (bC false ((ab x)*(ab y)))) (by rw[←mb x y,d,b];rfl))))))))))))))))
theorem EI (x y:Int)(j:(wds (ab x)).length≤1000000000)(l:(wds (ab y)).length≤1000000000)(k:(wds (ab x*ab y)).length≤1000000000)(d:ai x=false)(b:ai y=true)(w:World)(h:Hp)(g:G w h):CV 73 #[wX (.bool false) (ab x),wX (.bool true) (ab y)] w h (iv (x*y)):=by
 have a:=sS g;have f:=bc d;have i:=bx b;refine go Tryz.func73 [(0,wX qF (ab x)),(1,wX qT (ab y))] rfl (av (lA 2 38 (wC qF (ab x)) a (fun c w2 u a=>lA 3 38 (wC qT (ab y)) a (fun e z p a=>lA 4 38 ([qF,uV 0,eS]) a (fun C o B a=>ah (cR 11 [] mixed a ar ?_))))));exact eV 0 5 (pB c) (eO 1 6 [(2,0,1)] qF a (eV 2 7 (pB e) (eO 3 8 [(1,0,1)] qT a (eV 4 9 qT (eV 5 10 (qP c 1) (eO 6 11 [(2,1,2)] (nv (ab x)) a (eV 7 12 (qP e 1) (eO 8 13 [(1,1,2)] (nv (ab y)) a (aq 9 14 a (fun _ _ a=>oR (ab x) (ab y) aM aM _ _ a.g) (fun _ _ a=>aq 10 15 a (fun _ _ a=>fH true ((ab x)*(ab y)) aM _ _ a.g) (fun _ _ a=>ck a (fun _ _ a=>tP 11 0 0 (ic (bC true ((ab x)*(ab y)))) a (fun _ a=>tN (kX (a.ret [(0,0,3)] (iv (bC true ((ab x)*(ab y)))) (by rw[←mb x y,d,b];rfl))))))))))))))))
theorem E4 (x y:Int)(j:(wds (ab x)).length≤1000000000)(l:(wds (ab y)).length≤1000000000)(k:(wds (ab x*ab y)).length≤1000000000)(d:ai x=true)(b:ai y=false)(w:World)(h:Hp)(g:G w h):CV 73 #[wX (.bool true) (ab x),wX (.bool false) (ab y)] w h (iv (x*y)):=by
 have a:=sS g;have f:=bx d;have i:=bc b;refine go Tryz.func73 [(0,wX qT (ab x)),(1,wX qF (ab y))] rfl (av (lA 2 38 (wC qT (ab x)) a (fun c w2 u a=>lA 3 38 (wC qF (ab y)) a (fun e z p a=>lA 4 38 ([qF,uV 0,eS]) a (fun C o B a=>ah (cR 11 [] mixed a ar ?_))))));exact eV 0 5 (pB c) (eO 1 6 [(2,0,1)] qT a (eV 2 7 (pB e) (eO 3 8 [(1,0,1)] qF a (eV 4 9 qT (eV 5 10 (qP c 1) (eO 6 11 [(2,1,2)] (nv (ab x)) a (eV 7 12 (qP e 1) (eO 8 13 [(1,1,2)] (nv (ab y)) a (aq 9 14 a (fun _ _ a=>oR (ab x) (ab y) aM aM _ _ a.g) (fun _ _ a=>aq 10 15 a (fun _ _ a=>fH true ((ab x)*(ab y)) aM _ _ a.g) (fun _ _ a=>ck a (fun _ _ a=>tP 11 0 0 (ic (bC true ((ab x)*(ab y)))) a (fun _ a=>tN (kX (a.ret [(0,0,3)] (iv (bC true ((ab x)*(ab y)))) (by rw[←mb x y,d,b];rfl))))))))))))))))
theorem Fs (x y:Int)(j:(wds (ab x)).length≤1000000000)(l:(wds (ab y)).length≤1000000000)(k:(wds (ab x*ab y)).length≤1000000000)(d:ai x=true)(b:ai y=true)(w:World)(h:Hp)(g:G w h):CV 73 #[wX (.bool true) (ab x),wX (.bool true) (ab y)] w h (iv (x*y)):=by
 have a:=sS g;have f:=bx d;have i:=bx b;refine go Tryz.func73 [(0,wX qT (ab x)),(1,wX qT (ab y))] rfl (av (lA 2 38 (wC qT (ab x)) a (fun c w2 u a=>lA 3 38 (wC qT (ab y)) a (fun e z p a=>lA 4 38 ([qF,uV 0,eS]) a (fun C o B a=>ah (cR 11 [] mixed a ar ?_))))));exact eV 0 5 (pB c) (eO 1 6 [(2,0,1)] qT a (eV 2 7 (pB e) (eO 3 8 [(1,0,1)] qT a (eV 4 9 qF (eV 5 10 (qP c 1) (eO 6 11 [(2,1,2)] (nv (ab x)) a (eV 7 12 (qP e 1) (eO 8 13 [(1,1,2)] (nv (ab y)) a (aq 9 14 a (fun _ _ a=>oR (ab x) (ab y) aM aM _ _ a.g) (fun _ _ a=>aq 10 15 a (fun _ _ a=>fH false ((ab x)*(ab y)) aM _ _ a.g) (fun _ _ a=>ck a (fun _ _ a=>tP 11 0 0 (ic (bC false ((ab x)*(ab y)))) a (fun _ a=>tN (kX (a.ret [(0,0,3)] (iv (bC false ((ab x)*(ab y)))) (by rw[←mb x y,d,b];rfl))))))))))))))))
theorem GM (x y:Int)(b:(wds (ab x)).length+(wds (ab y)).length≤999999999)(w:World)(h:Hp)(g:G w h):CV 159 #[iv x,iv y] w h (iv (x+y)):=by
 have a:(wds (ab x+ab y)).length≤1000000000:=ez j5 oM
 rcases hx:ai x with _|_<;>rcases hy:ai y with _|_<;>rw[jg hx,jg hy]
 ·exact Ej x y oM oM a hx hy w h g
 ·rcases ep (ab x) (ab y) with hc|hc
  ·exact Bg x y oM oM a hx hy hc w h g
  ·exact Ck x y oM oM a hx hy hc w h g
 ·rcases ep (ab x) (ab y) with hc|hc
  ·exact Ch x y oM oM a hx hy hc w h g
  ·exact Be x y oM oM a hx hy hc w h g
 ·exact FQ x y oM oM a hx hy w h g
theorem B3 (x y:Int)(b:(wds (ab x)).length+(wds (ab y)).length≤1000000000)(w:World)(h:Hp)(g:G w h):CV 73 #[iv x,iv y] w h (iv (x*y)):=by
 have a:(wds (ab x*ab y)).length≤1000000000:=ez cY oM
 rcases hx:ai x with _|_<;>rcases hy:ai y with _|_<;>rw[jg hx,jg hy]
 ·exact FR x y oM oM a hx hy w h g
 ·exact EI x y oM oM a hx hy w h g
 ·exact E4 x y oM oM a hx hy w h g
 ·exact Fs x y oM oM a hx hy w h g
theorem vj (n:Nat)(hl:(wds n).length≤1000000000)(w:World)(h:Hp)(g:G w h):CR 165 #[nv n] w h (fun v h1=>∃ A,v=.slice A ((nb n+7)/8) ((nb n+7)/8)∧SlO 1 mq 0 h1 A (fs n ((nb n+7)/8))):=by
 have c:=sS g;have Y:=ma n;have V:=kU n;refine go Tryz.func165 [(0,nv n)] rfl (av (lA 1 36 (nc n) c (fun J w2 h3 c=>lL c [.v 2 (sZ)] (aI (lL c [.o 7 (nv n) 0 0 2] (ag 8 c (eu n hl _ _ c.g) (fun w4 h5 c=>bD 9 ((nb n:Nat)+7) ((nb n)+7) (lV 10 (nV (((nb n)+7)/8)) ?_ (hr:=aK (dl (t:=3) (u:=3) (x:=.tmp 9) (y:=.const (iV 8)) (k:=.i64) (a:=(((nb n)+7:Nat):Int)) (b:=(8:Int)) kR kR kR oM _) (dh ((nb n)+7) 8 oM))))))))));refine lL c [.m 3 10] (aI (lL c [.m 11 3] (lK 12 5 (((nb n)+7)/8:Nat) 1 1 (.int .u8 0) mq 0 c (fun z w7 h8 c=>?_))));have F:(Am (((nb n)+7)/8:Nat) 0).length=(((nb n)+7)/8:Nat):=by simp
 refine lL c [.m 4 12] (aI (lL c [.o 13 (nv n) 1 0 2] (lC 14 c (fL n oM _ _ c.g) ?_)));rintro _ _ Z c ⟨e,B,rfl,U,K⟩;replace c:=c.aS K;refine lL c [.m 5 14] (ah (aa c [.m 15 3,.v 16 (iV 0)] (a8 ?_)));refine bH _ (CG.loop (fun H Γ w_=>∃ (i:Nat) (l:List Nat) (I:Hp),H=((nb n+7)/8)-i∧Γ=[(2,sZ),(3,nV (((nb n)+7)/8)),(4,qS (sB z) (((nb n)+7)/8:Nat) (((nb n)+7)/8:Nat)),(5,qS e ((wds n).length) B),(15,nV (((nb n)+7)/8)),(16,nV i)]∧SS w h w_ I [⟨z,5,(l).flatMap mq⟩,⟨J,36,nc n⟩] [] [fun I=>SlO 1 am 0 I e (wds n)]∧i≤((nb n+7)/8)∧l.length=((nb n+7)/8)∧(∀ j,j<i→l.getD (((nb n+7)/8)-1-j) 0=n/256^j%256)) _ ⟨0,Am (((nb n)+7)/8:Nat) 0,Z,rfl,rfl,c.to _ _,K7 _,F,(fun j O=>MO O oM)⟩ ?_);rintro _ _ _ ⟨i,l,ze,M,rfl,c,hi,p,Q⟩;have hwi:=oa n (i/8);refine av ?_;cases za:(decide ((i:Int)<((((nb n)+7)/8:Nat):Int)))
 ·
  have zb:=oF za;refine lB 17 za (ah (cv (CG.exit ?_)))
  show CG _ _ _ _ _ _ _ _
  refine aa c [.m 36 4,.m 2 36] (lN (kX ?_));have X:i=((nb n+7)/8):=by omega
  have D:l=fs n ((nb n+7)/8):=pS p (fun j O=>Q j oM);rw[D] at c
  obtain ⟨_,c,C,S,L⟩:=c.pub 0;replace c:=(c.to [⟨J,36,nc n⟩] []).aS (SlO.of_flat (sz:=1) (f:=mq) (d:=0) (b:=z) (o:=0) (l:=fs n ((nb n+7)/8)) (fun _=>rfl) C);exact c.ret [] (qS (sB z) (((nb n)+7)/8:Nat) (((nb n)+7)/8:Nat)) (⟨sB z,rfl,c.f.1⟩)
 have zb:=oT za;refine lB 17 za (ah (ce (cK (cQ (kZ (aa c [.m 18 16,.m 6 18] (lN (kQ (lL c [.m 19 4,.m 20 3] (bD 21 ((((nb n)+7)/8:Nat)-1) ((((nb n)+7)/8:Nat)-1) ?_))))))))));refine lL c [.m 22 6] (bD 23 (((((nb n)+7)/8:Nat)-1:Nat)-(i:Nat)) (((((nb n)+7)/8:Nat)-1:Nat)-i) ?_);refine lL c [.m 24 5,.m 25 6] (lV 26 (nV (i/8)) ?_ (hr:=aK (dl (t:=3) (u:=3) (x:=.tmp 25) (y:=.const (iV 8)) (k:=.i64) (a:=(i:Int)) (b:=(8:Int)) kR kR kR oM _) (dh i 8 oM)));refine lX 27 e ((wds n).length) B 1 (i/8:Nat) (i/8) ((c.f.1).ok oM) (lH 28 (mV ((wds n).getD (i/8) 0)) c ((c.f.1).el (i/8) oM) (lL c [.m 29 6] (lV 30 (nV (i%8)) ?_ (hr:=aK (dU (t:=3) (u:=3) (x:=.tmp 29) (y:=.const (iV 8)) (k:=.i64) (a:=(i:Int)) (b:=(8:Int)) kR kR kR oM _) (cp i 8)))));refine bD 31 (8*(i%8:Nat)) (8*(i%8)) (lV 32 (mV (((wds n).getD (i/8) 0)/2^(8*(i%8)))) ?_ (hr:=fV (t:=34) (u:=3) (x:=.tmp 28) (y:=.tmp 31) (ky:=.i64) (a:=((wds n).getD (i/8) 0)) (n:=(8*(i%8))) kR kR kR oM _));refine lV 33 (.int .u8 ((wds n).getD (i/8) 0/2^(8*(i%8))%256:Nat)) ?_ (hr:=aK (n:=JJ .u8 (((wds n).getD (i/8) 0/2^(8*(i%8)):Nat):Int)) kR (AV _));refine lX 34 (sB z) (((nb n)+7)/8:Nat) (((nb n)+7)/8:Nat) 1 (((((nb n)+7)/8:Nat)-1:Nat)-i:Nat) (((((nb n)+7)/8:Nat)-1:Nat)-i:Nat) rfl (lW 0 l mq 1 (((((nb n)+7)/8:Nat)-1:Nat)-i:Nat) ((wds n).getD (i/8) 0/2^(8*(i%8))%256:Nat) c oM (fun _ c=>?_));have W:((l).set (((((nb n)+7)/8:Nat)-1:Nat)-i:Nat) ((wds n).getD (i/8) 0/2^(8*(i%8))%256:Nat)).length=(((nb n)+7)/8:Nat):=by rw[KP];exact p
 replace c:=c.to [⟨z,5,((l).set (((((nb n)+7)/8:Nat)-1:Nat)-i:Nat) ((wds n).getD (i/8) 0/2^(8*(i%8))%256:Nat)).flatMap mq⟩,⟨J,36,nc n⟩] [];refine lN (kQ (bD 35 ((i:Nat)+1) (i+1) ?_));refine lL c [.m 16 35] (lD ?_);intro a_ ka;refine ⟨_,_,?_,⟨i+1,(l).set (((((nb n)+7)/8:Nat)-1:Nat)-i:Nat) ((wds n).getD (i/8) 0/2^(8*(i%8))%256:Nat),ze,rfl,rfl,c.to _ _,oM,W,(gc p oM Q (vA n i))⟩,ka.to _ kR⟩
 omega
theorem wy (n m:Nat)(A:Option Addr)(c:Nat)(hc:m≤c)(hm:m≤10000000000)(X:n<256^m)(w:World)(h:Hp)(g:G w h)(hA:SlO 1 mq 0 h A (fs n m)):CV 89 #[.slice A m c] w h (nv n):=by
 have e:=((sS g).aS hA);have Y:=jD n m;refine go Tryz.func89 [(0,qS A m c)] rfl (av (lA 2 36 ([uV 0,eS]) e (fun z w2 h3 e=>aI (lL e [.m 5 0,.v 6 (nV m)] (bD 7 ((m:Nat)+7) (m+7) ?_)))));refine lV 8 (nV ((m+7)/8)) ?_ (hr:=aK (dl (t:=3) (u:=3) (x:=.tmp 7) (y:=.const (iV 8)) (k:=.i64) (a:=((m+7:Nat):Int)) (b:=(8:Int)) kR kR kR oM _) (dh (m+7) 8 oM));refine lK 9 34 ((m+7)/8) 1 8 (uV 0) am 0 e (fun j w5 S e=>?_);have K:(Am ((m+7)/8) 0).length=((m+7)/8):=by simp
 refine lL e [.m 3 9] (ah (aa e [.m 10 0,.v 11 (nV m),.v 12 (iV 0)] (a8 ?_)));refine bH _ (CG.loop (fun F Γ w_=>∃ (i:Nat) (l:List Nat) (I:Hp),F=m-i∧Γ=[(0,qS A m c),(2,pB z),(3,qS (sB j) ((m+7)/8) ((m+7)/8)),(11,nV m),(12,nV i)]∧SS w h w_ I [⟨j,34,(l).flatMap am⟩,⟨z,36,[uV 0,eS]⟩] [] [fun I=>SlO 1 mq 0 I A (fs n m)]∧i≤m∧l.length=(m+7)/8∧Wd l∧aD l=n%256^i) _ ⟨0,Am ((m+7)/8) 0,S,rfl,rfl,e.to _ _,K7 _,K,Wd.rep _,(by show aj _ _=_;rw[dk,K8,Nat.mod_one])⟩ ?_);rintro _ _ w8 ⟨i,l,h9,Q,rfl,e,hi,J,H,inv⟩;have W:=j3 n m (m-1-i);refine av ?_;cases za:(decide ((i:Int)<(m:Int)))
 ·
  have zb:=oF za;refine lB 13 za (ah (cv (CG.exit ?_)))
  show CG _ _ _ _ _ _ _ _
  refine av ?_;have C:i=m:=by omega
  have hE:aD l=n:=by rw[inv,C];exact AS X
  obtain ⟨_,e,p,M,O⟩:=e.pub 0;replace e:=(e.to [⟨z,36,[uV 0,eS]⟩] []).aS (SlO.of_flat (sz:=1) (f:=am) (d:=0) (b:=j) (o:=0) (l:=l) (fun _=>rfl) p);exact lL e [.m 36 3] (ag 37 e (cB (sB j) ((m+7)/8) (l) ((m+7)/8) (n) (by first|rfl|assumption|(simp;done)|(simp;omega)|omega) (H) (hE) sM sM _ _ e.g e.f.1) (fun _ _ e=>lP 0 0 (nc n) e (fun _ e=>ac e [(0,0,2)] (nv n) rfl)))
 have zb:=oT za;refine lB 13 za (ah (ce (cK (cQ (kZ (aa e [.m 14 12,.m 4 14] (lN (cR 19 [] mixed e ar ?_))))))));refine eV 0 15 (qS (sB j) ((m+7)/8) ((m+7)/8)) (eV 1 16 (nV i) (eV 2 17 (nV (i/8)) ?_ (hv:=fun _=>aK (dl (t:=3) (u:=3) (x:=.tmp 16) (y:=.const (iV 8)) (k:=.i64) (a:=(i:Int)) (b:=(8:Int)) kR kR kR oM _) (dh i 8 oM))));refine eX 3 18 (sB j) ((m+7)/8) ((m+7)/8) 1 (i/8:Nat) (i/8) rfl (eQ 4 19 0 l am 1 0 (i/8) (mV ((l).getD (i/8) 0)) e oM (eV 5 20 (qS A m c) (eV 6 21 (qS A m c) (eV 7 22 (nV m) (jy 8 23 ((m:Nat)-1) (m-1) (eV 9 24 (nV i) (jy 10 25 ((m-1:Nat)-(i:Nat)) ((m-1)-i) (eX 11 26 A m c 1 ((m-1)-i:Nat) ((m-1)-i) ((e.f.1).ok oM) (eH 12 27 (.int .u8 ((fs n m).getD ((m-1)-i) 0:Nat)) e ((e.f.1).el ((m-1)-i) oM) (eV 13 28 (mV ((fs n m).getD ((m-1)-i) 0)) ?_ (hv:=fun _=>rU ((((fs n m).getD ((m-1)-i) 0:Nat):Int)) kR (ba oM oM))))))))))));refine eV 14 29 (nV i) (eV 15 30 (nV (i%8)) ?_ (hv:=fun _=>aK (dU (t:=3) (u:=3) (x:=.tmp 29) (y:=.const (iV 8)) (k:=.i64) (a:=(i:Int)) (b:=(8:Int)) kR kR kR oM _) (cp i 8)));refine jy 16 31 (8*(i%8:Nat)) (8*(i%8)) (eV 17 32 (mV (((fs n m).getD ((m-1)-i) 0:Nat)*2^(8*(i%8))%18446744073709551616)) ?_ (hv:=fun _=>gf (t:=34) (u:=3) (x:=.tmp 28) (y:=.tmp 31) (ky:=.i64) (a:=((fs n m).getD ((m-1)-i) 0:Nat)) (n:=(8*(i%8))) kR kR kR _));obtain ⟨L,D,B⟩:=sK oM inv (show (fs n m).getD (m-1-i) 0=n/256^i%256 by rw[ie n m _ oM,show m-1-(m-1-i)=i by omega]);have V:=H.get (i/8);refine eV 18 33 (mV (l.getD (i/8) 0+(fs n m).getD (m-1-i) 0*2^(8*(i%8)))) ?_ (hv:=fun _=>aK (gB (t:=34) (u:=34) (x:=.tmp 19) (y:=.tmp 32) (a:=((l).getD (i/8) 0)) (b:=(((fs n m).getD ((m-1)-i) 0:Nat)*2^(8*(i%8))%18446744073709551616:Nat)) kR kR kR oM oM _) (by rw[L]));refine ck e (fun _ Z e=>tX 19 34 (sB j) ((m+7)/8) ((m+7)/8) 1 (i/8:Nat) (i/8) rfl (tW 20 0 l am 1 (i/8) (l.getD (i/8) 0+(fs n m).getD (m-1-i) 0*2^(8*(i%8)):Nat) e oM (fun _ e=>?_)));have U:((l).set (i/8) (l.getD (i/8) 0+(fs n m).getD (m-1-i) 0*2^(8*(i%8)):Nat)).length=((m+7)/8):=by rw[KP];exact J
 replace e:=e.to [⟨j,34,((l).set (i/8) (l.getD (i/8) 0+(fs n m).getD (m-1-i) 0*2^(8*(i%8)):Nat)).flatMap am⟩,⟨z,36,[uV 0,eS]⟩] [];refine tN (kQ (bD 35 ((i:Nat)+1) (i+1) ?_));refine lL e [.m 12 35] (lD ?_);intro a_ ka;refine ⟨_,_,?_,⟨i+1,(l).set (i/8) (l.getD (i/8) 0+(fs n m).getD (m-1-i) 0*2^(8*(i%8)):Nat),Z,rfl,rfl,e.to _ _,oM,U,(H.set _ D),B⟩,ka.to _ kR⟩
 omega
theorem EX (n k:Nat)(D:(wds n).length≤1000000000)(L:k≤65536)(w:World)(h:Hp)(g:G w h):CV 200 #[nv n,nV k] w h (nv (n*2^k)):=by
 have a:=sS g;refine go Tryz.func200 [(0,nv n),(1,nV k)] rfl (av (lA 2 36 (nc n) a (fun I w2 J a=>lA 4 36 ([uV 0,eS]) a (fun M K H a=>aI (lL a [.m 5 1] (lV 6 (nV k) ?_ (hr:=aK (n:=if (65536:Int)<(k:Int) then (65536:Int) else (k:Int)) kR (MM oM))))))));refine lV 7 (nV k) ?_ (hr:=aK (n:=if (k:Int)>(-65536:Int) then (k:Int) else (-65536:Int)) kR (MN oM));refine lL a [.m 1 7] (ah (aa a [.m 8 1] ?_));have ⟨e,l⟩:=dF (p:=(k:Int)<(0:Int)) oM;refine lB 9 e (af (cK (aa a [.o 16 (nv n) 1 0 2] (lC 17 a (fL n oM _ _ a.g) ?_))));rintro _ F O a ⟨b,i,rfl,u,d⟩;replace a:=a.aS d;refine lL a [.m 18 1] (lC 19 a (uF b i (wds n) (Wd.wds n) D k oM _ _ a.g a.f.1) ?_);rintro _ _ _ a ⟨C,y,z,rfl,B,x,j,c,hz⟩;replace a:=a.aS hz;exact ag 20 a (cB C y (z) z.length ((n*2^k)) (by first|rfl|assumption|(simp;done)|(simp;omega)|omega) (j) (by rw[c,ay]) sM sM _ _ a.g a.f.1) (fun _ _ a=>lP 0 0 (nc (n*2^k)) a (fun _ a=>ac a [(0,0,2)] (nv (n*2^k)) rfl))
section
variable {P:Program} {Γ:bz} {o:Oper}
theorem HM {t e:TypeId}{x ix:Operand}{b off sz len:Nat}{i:Int}{kk:IntKind}(k:Nat)(p:o.op=.indexAddr t x ix)(y:ev Γ x=.pointer (some ⟨b,off,none⟩))(hi:ev Γ ix=.int kk i)
    (h:P.underlying t=some (.array len e))(d:(P.info? e).map (·.size)=some sz)(u:i=k)(j:k<len)(w:World) :
    (execOp (ev Γ) o).run P w=.ok (.value (.pointer (some ⟨b,off+k*sz,none⟩))) w:=by
  subst u
  unfold execOp
  simp only[p]
  rw[y,hi];have f:P.elem t=e:=by unfold Program.elem;rw[h]
  have c:P.arrayLen t=len:=by unfold Program.arrayLen;rw[h]
  have h1:=run_indexAt_array (P:=P) w t ⟨b,off,none⟩ kk (k:Int) (by rw[f,c];exact h);rw[c,MN ⟨by omega,by omega⟩,f] at h1
  have l:(sizeOf e).run P w=.ok sz w:=by
    cases a:P.info? e with
    | none=>rw[a] at d;cases d
    | some i =>
      rw[a] at d
      simp at d
      simp[sizeOf,typeInfo,a,d]
  rw[l] at h1
  simp[h1,Result.andThen,Addr.add]
end
def Tz (n k m:Nat):Prop:=n=2^k*m∧m%2=1
theorem EN {x:Nat}(h0:x≠0)(h:x<18446744073709551616):∃ m,Tz x (Lib.ctz 64 x) m∧Lib.ctz 64 x<64:=by
 unfold Lib.ctz
 rw[MM h0];obtain ⟨m,e,a⟩:=Lib.ctzFrom_spec 64 x oM h;exact ⟨2*m+1,⟨e,by omega⟩,a⟩
theorem Tz.odd_pos {n k m:Nat}(h:Tz n k m):0<m:=by have:=h.2;omega
theorem Tz.word {n i x k m r:Nat}(e:n=18446744073709551616^i*(x+18446744073709551616*r))(t:Tz x k m)(d:k<64):Tz n (64*i+k) (m+2^(64-k)*r):=by
 obtain ⟨b,c⟩:=t;refine ⟨?_,?_⟩
 ·have a:(18446744073709551616:Nat)=2^k*2^(64-k):=by rw[←Kd,show k+(64-k)=64 by omega]
  have e1:(18446744073709551616:Nat)^i=2^(64*i):=by rw[Nat.pow_mul]
  rw[e,e1,b]
  conv=>lhs;rw[a]
  rw[Kd,J2 (2^k),←J1,←J2]
 ·obtain ⟨j,hj⟩:∃ j,64-k=j+1:=⟨63-k,by omega⟩
  rw[hj,JY,JZ (2^j) 2,J2]
  omega
end Go.Proofs.YtnflfcbfifhpaaaGreatDoor
