/- Laws of this claim, part 3. -/
import Derived.Test.YtnphimgdpdiekaaGreatDoorQe0
import Derived.Test.YtnphimgdpdiekaaGreatDoorQe1
set_option maxRecDepth 100000
set_option maxHeartbeats 4000000
namespace Go.Proofs.YtnphimgdpdiekaaGreatDoor
open Int renaming eq_ofNat_of_zero_le -> M1, mul_neg -> M3, neg_mul -> M4, neg_neg -> M5
open List renaming drop_eq_nil_of_le -> z2, flatMap_cons -> y4, length_drop -> Mq, length_set -> LB, length_take -> LF, mem_cons -> g4, mem_cons_of_mem -> MJ, mem_cons_self -> MI, mem_singleton -> te, replicate -> As, set_set -> MZ, take_length -> y8, take_of_length_le -> Mu
open Nat renaming add_mul -> LI, add_sub_cancel -> My, add_zero -> y5, div_add_mod -> Mx, div_eq_of_lt -> LP, div_le_self -> LN, div_mul_le_self -> MK, eq_of_mul_eq_mul_left -> M7, eq_zero_or_pos -> Ga, gcd -> MX, gcd_comm -> MY, gcd_mul_left -> M9, le_of_eq -> M0, le_total -> M8, le_trans -> e4, lt_of_lt_of_le -> e5, lt_or_ge -> ea, min_eq_left -> LS, min_eq_right -> MA, mod_eq_of_lt -> A0, mod_lt -> LX, mul_add -> Mg, mul_assoc -> L6, mul_comm -> LC, mul_le_mul_left -> LW, mul_le_mul_right -> Af, mul_lt_mul_of_pos_left -> Mb, mul_lt_mul_of_pos_right -> MN, mul_one -> Mh, mul_zero -> Mj, one_mul -> Mw, pow_add -> L4, pow_le_pow_right -> L3, pow_succ -> LR, pow_zero -> L9, sub_le -> M6, succ_pos -> MW, two_pow_pos -> Mc, zero_add -> Ab, zero_le -> MG, zero_mul -> zZ
open Go.RowKit
theorem oq (a:Nat)(A:Option Addr)(c:Nat)(l:(lim a).length<=c)(b:Nat)(D:Option Addr)(d:Nat)(j:(lim b).length<=d)(f:(lim a).length<=3000000000)(e:(lim b).length<=3000000000)(x:0<b)(w:World)(h:Hp)(g:G w h)(o:S3 A (lim a) h)(i:S3 D (lim b) h):CR 140 #[.slice A (lim a).length c,.slice D (lim b).length d] w h (fun v h1=>∃ u p,v=.tuple #[u,p]/\RN h1 u (a/b)/\RN h1 p (a%b)):=by
 have y:=bR.2 x
 rcases ea a b with h1|h1
 ·exact nU a A c l b D d j f e h1 w h g o i
 ·rcases ea (lim b).length 2 with h2|h2
  ·exact ng a A c l b D d j f e h1 oM w h g o i
  ·exact qn a A c l b D d j f e h1 h2 _ rfl w h g o i
theorem jp (x y:Nat):MX y (x%y)=MX x y:=by rw[MY y,<-Nat.gcd_rec,MY]
theorem Cf (a:Nat)(A:Option Addr)(c:Nat)(hc:(lim a).length<=c)(b:Nat)(D:Option Addr)(d:Nat)(U:(lim b).length<=d)(I:(lim a).length<=3000000000)(B:(lim b).length<=3000000000)(w:World)(h:Hp)(g:G w h)(hA:S3 A (lim a) h)(O:S3 D (lim b) h):CR 139 #[.slice A ((lim a).length) c,.slice D ((lim b).length) d] w h (fun v h1=>RN h1 v (MX a b)):=by
 have e:=(((sS g).aS hA).aS O);refine go Tryz.func139 [(0,qS A ((lim a).length) c),(1,qS D ((lim b).length) d)] rfl (aa e ac (ah (kZ ?_)));replace e:=e.aS e.f.1;replace e:=e.aS e.f.r.1;refine bH _ (CG.loop (fun H Γ W=>∃ (x:Nat) (j:Option Addr) (c1:Nat) (y:Nat) (p:Option Addr) (c2:Nat) (z:Hp),H=y/\Γ=[(4,sZ),(0,qS j ((lim x).length) c1),(1,qS p ((lim y).length) c2)]/\SS w h W z [] [] [S3 j (lim x),S3 p (lim y),S3 D (lim b),S3 A (lim a)]/\(lim x).length<=c1/\(lim y).length<=c2/\(lim x).length<=3000000000/\(lim y).length<=3000000000/\MX x y=MX a b) _ ⟨a,A,c,b,D,d,h,rfl,rfl,e.to _ _,hc,U,I,B,rfl⟩ ?_);rintro _ _ w1 ⟨x,j,c1,y,p,c2,h2,V,rfl,e,u,l,Z,F,L⟩;refine cQ (aa e [.c,.v (nV ((lim y).length))] ?_);cases i:(decide ((0:Int)<(((lim y).length:Nat):Int)))
 .
  have o:=oF i;refine lB 9 i (ag (CG.exit ?_))
  show CG _ _ _ _ _ _ _ _
  refine aa e aD (lN (kX ?_));have J:y=0:=Nat.eq_zero_of_not_pos (fun z=>by have:=bR.2 z;omega);exact e.ret [] (qS j ((lim x).length) c1) (by rw[<-L,J,Nat.gcd_zero_right];exact ⟨j,c1,rfl,u,e.f.1⟩)
 have o:=oT i;refine lB 9 i (ak (cK (kZ (aa e aD (lC 13 e (oq x j c1 u y p c2 l oM oM (bR.1 oM) _ _ e.g e.f.1 e.f.2.1) ?_)))));rintro _ w5 X e ⟨_,_,rfl,⟨Y,cq,rfl,S,hq⟩,⟨M,K,rfl,C,hr⟩⟩;replace e:=e.aS hr;have hmd:=LX x (bR.1 (show 0<(lim y).length by omega));have Q:=dG (show x%y<=y by omega);refine lL e [.c,.v (qS Y (lim (x/y)).length cq),.v (qS M ((lim (x%y)).length) K),.c,.c] (aG (lL e aD (lN (kQ (lL e aD (lD ?_))))));intro a_ ka;replace e:=((e.tl.tl.tl.aS e.f.1).aS e.f.r.1);refine ⟨_,_,?_,⟨y,p,c2,x%y,M,K,X,rfl,rfl,e.to _ _,l,C,F,oM,(by rw[jp];exact L)⟩,ka.to _ kR⟩
 omega
def aq (x:Nat):List Value:=[.int .u64 (x:Nat)]
theorem xJ {l:List Nat}{m:Nat}(h:0<m)(h0:l.getD (m-1) 0=0):tl l m=tl l (m-1):=by
 obtain ⟨k,rfl⟩:∃ k,m=k+1:=⟨m-1,by omega⟩;rw[kY,if_pos (by simpa using h0)];rfl
theorem qQ (s:ByteArray)(d:8<=s.size)(w:World)(h:Hp)(g:G w h):CV 131 #[.string s] w h (mV (wv s)):=by
 have c:=sS g;have C:=cJ s 0;have B:=cJ s 1;have e:=cJ s 2;have l:=cJ s 3;have o:=cJ s 4;have D:=cJ s 5;have z:=cJ s 6;have f:=cJ s 7;refine go Tryz.func131 [(0,.string s)] rfl (aa c ac (ah (cR 38 [] mixed c ao ?_)));refine eV 0 3 (.string s) (eV 1 4 (.int .u8 (aR s 0:Nat)) ?_ (hv:=fun _=>dR (tx:=9) (x:=.tmp 3) (i:=.const (iV 0)) (k:=.i64) (s:=s) (n:=0) (j:=(0:Int)) kR kR kR kR oM oM _));refine eV 2 5 (mV (aR s 0)) ?_ (hv:=fun _=>rU (((aR s 0:Nat):Int)) kR (a8 oM oM));refine eV 3 6 (.string s) (eV 4 7 (.int .u8 (aR s 1:Nat)) ?_ (hv:=fun _=>dR (tx:=9) (x:=.tmp 6) (i:=.const (iV 1)) (k:=.i64) (s:=s) (n:=1) (j:=(1:Int)) kR kR kR kR oM oM _));refine eV 5 8 (mV (aR s 1)) ?_ (hv:=fun _=>rU (((aR s 1:Nat):Int)) kR (a8 oM oM));refine eV 6 9 (mV ((aR s 1)*256)) ?_ (hv:=fun _=>rU ((((aR s 1:Nat):Int)*256)) kR ((a8 oM oM).trans oM));refine eV 7 10 (mV (aR s 0+aR s 1*256)) ?_ (hv:=fun _=>aI (iw (t:=38) (u:=38) (x:=.tmp 5) (y:=.tmp 9) (a:=(aR s 0)) (b:=((aR s 1)*256)) kR kR kR oM oM _) (by rw[gU 8 oM];first|done|omega));refine eV 8 11 (.string s) (eV 9 12 (.int .u8 (aR s 2:Nat)) ?_ (hv:=fun _=>dR (tx:=9) (x:=.tmp 11) (i:=.const (iV 2)) (k:=.i64) (s:=s) (n:=2) (j:=(2:Int)) kR kR kR kR oM oM _));refine eV 10 13 (mV (aR s 2)) ?_ (hv:=fun _=>rU (((aR s 2:Nat):Int)) kR (a8 oM oM));refine eV 11 14 (mV ((aR s 2)*65536)) ?_ (hv:=fun _=>rU ((((aR s 2:Nat):Int)*65536)) kR ((a8 oM oM).trans oM));refine eV 12 15 (mV (aR s 0+aR s 1*256+aR s 2*65536)) ?_ (hv:=fun _=>aI (iw (t:=38) (u:=38) (x:=.tmp 10) (y:=.tmp 14) (a:=(aR s 0+aR s 1*256)) (b:=((aR s 2)*65536)) kR kR kR oM oM _) (by rw[gU 16 oM];first|done|omega));refine eV 13 16 (.string s) (eV 14 17 (.int .u8 (aR s 3:Nat)) ?_ (hv:=fun _=>dR (tx:=9) (x:=.tmp 16) (i:=.const (iV 3)) (k:=.i64) (s:=s) (n:=3) (j:=(3:Int)) kR kR kR kR oM oM _));refine eV 15 18 (mV (aR s 3)) ?_ (hv:=fun _=>rU (((aR s 3:Nat):Int)) kR (a8 oM oM));refine eV 16 19 (mV ((aR s 3)*16777216)) ?_ (hv:=fun _=>rU ((((aR s 3:Nat):Int)*16777216)) kR ((a8 oM oM).trans oM));refine eV 17 20 (mV (aR s 0+aR s 1*256+aR s 2*65536+aR s 3*16777216)) ?_ (hv:=fun _=>aI (iw (t:=38) (u:=38) (x:=.tmp 15) (y:=.tmp 19) (a:=(aR s 0+aR s 1*256+aR s 2*65536)) (b:=((aR s 3)*16777216)) kR kR kR oM oM _) (by rw[gU 24 oM];first|done|omega));refine eV 18 21 (.string s) (eV 19 22 (.int .u8 (aR s 4:Nat)) ?_ (hv:=fun _=>dR (tx:=9) (x:=.tmp 21) (i:=.const (iV 4)) (k:=.i64) (s:=s) (n:=4) (j:=(4:Int)) kR kR kR kR oM oM _));refine eV 20 23 (mV (aR s 4)) ?_ (hv:=fun _=>rU (((aR s 4:Nat):Int)) kR (a8 oM oM));refine eV 21 24 (mV ((aR s 4)*4294967296)) ?_ (hv:=fun _=>rU ((((aR s 4:Nat):Int)*4294967296)) kR ((a8 oM oM).trans oM));refine eV 22 25 (mV (aR s 0+aR s 1*256+aR s 2*65536+aR s 3*16777216+aR s 4*4294967296)) ?_ (hv:=fun _=>aI (iw (t:=38) (u:=38) (x:=.tmp 20) (y:=.tmp 24) (a:=(aR s 0+aR s 1*256+aR s 2*65536+aR s 3*16777216)) (b:=((aR s 4)*4294967296)) kR kR kR oM oM _) (by rw[gU 32 oM];first|done|omega));refine eV 23 26 (.string s) (eV 24 27 (.int .u8 (aR s 5:Nat)) ?_ (hv:=fun _=>dR (tx:=9) (x:=.tmp 26) (i:=.const (iV 5)) (k:=.i64) (s:=s) (n:=5) (j:=(5:Int)) kR kR kR kR oM oM _));refine eV 25 28 (mV (aR s 5)) ?_ (hv:=fun _=>rU (((aR s 5:Nat):Int)) kR (a8 oM oM));refine eV 26 29 (mV ((aR s 5)*1099511627776)) ?_ (hv:=fun _=>rU ((((aR s 5:Nat):Int)*1099511627776)) kR ((a8 oM oM).trans oM));refine eV 27 30 (mV (aR s 0+aR s 1*256+aR s 2*65536+aR s 3*16777216+aR s 4*4294967296+aR s 5*1099511627776)) ?_ (hv:=fun _=>aI (iw (t:=38) (u:=38) (x:=.tmp 25) (y:=.tmp 29) (a:=(aR s 0+aR s 1*256+aR s 2*65536+aR s 3*16777216+aR s 4*4294967296)) (b:=((aR s 5)*1099511627776)) kR kR kR oM oM _) (by rw[gU 40 oM];first|done|omega));refine eV 28 31 (.string s) (eV 29 32 (.int .u8 (aR s 6:Nat)) ?_ (hv:=fun _=>dR (tx:=9) (x:=.tmp 31) (i:=.const (iV 6)) (k:=.i64) (s:=s) (n:=6) (j:=(6:Int)) kR kR kR kR oM oM _));refine eV 30 33 (mV (aR s 6)) ?_ (hv:=fun _=>rU (((aR s 6:Nat):Int)) kR (a8 oM oM));refine eV 31 34 (mV ((aR s 6)*281474976710656)) ?_ (hv:=fun _=>rU ((((aR s 6:Nat):Int)*281474976710656)) kR ((a8 oM oM).trans oM));refine eV 32 35 (mV (aR s 0+aR s 1*256+aR s 2*65536+aR s 3*16777216+aR s 4*4294967296+aR s 5*1099511627776+aR s 6*281474976710656)) ?_ (hv:=fun _=>aI (iw (t:=38) (u:=38) (x:=.tmp 30) (y:=.tmp 34) (a:=(aR s 0+aR s 1*256+aR s 2*65536+aR s 3*16777216+aR s 4*4294967296+aR s 5*1099511627776)) (b:=((aR s 6)*281474976710656)) kR kR kR oM oM _) (by rw[gU 48 oM];first|done|omega));refine eV 33 36 (.string s) (eV 34 37 (.int .u8 (aR s 7:Nat)) ?_ (hv:=fun _=>dR (tx:=9) (x:=.tmp 36) (i:=.const (iV 7)) (k:=.i64) (s:=s) (n:=7) (j:=(7:Int)) kR kR kR kR oM oM _));refine eV 35 38 (mV (aR s 7)) ?_ (hv:=fun _=>rU (((aR s 7:Nat):Int)) kR (a8 oM oM));refine eV 36 39 (mV ((aR s 7)*72057594037927936)) ?_ (hv:=fun _=>rU ((((aR s 7:Nat):Int)*72057594037927936)) kR ((a8 oM oM).trans oM));refine eV 37 40 (mV (aR s 0+aR s 1*256+aR s 2*65536+aR s 3*16777216+aR s 4*4294967296+aR s 5*1099511627776+aR s 6*281474976710656+aR s 7*72057594037927936)) ?_ (hv:=fun _=>aI (iw (t:=38) (u:=38) (x:=.tmp 35) (y:=.tmp 39) (a:=(aR s 0+aR s 1*256+aR s 2*65536+aR s 3*16777216+aR s 4*4294967296+aR s 5*1099511627776+aR s 6*281474976710656)) (b:=((aR s 7)*72057594037927936)) kR kR kR oM oM _) (by rw[gU 56 oM];first|done|omega));exact bP c (fun w1 p c=>tV 38 2 (mV (aR s 0+aR s 1*256+aR s 2*65536+aR s 3*16777216+aR s 4*4294967296+aR s 5*1099511627776+aR s 6*281474976710656+aR s 7*72057594037927936)) (tN (kX (c.ret [] (mV (aR s 0+aR s 1*256+aR s 2*65536+aR s 3*16777216+aR s 4*4294967296+aR s 5*1099511627776+aR s 6*281474976710656+aR s 7*72057594037927936)) rfl))))
theorem Fu (A:Option Addr)(c:Nat)(l:List Nat)(D:l.length<=1099511627776)(C:l.length<=c)(w:World)(h:Hp)(g:G w h)(z:SlO 1 aq 0 h A l):CV 157 #[.slice A l.length c] w h (.slice A (tl l l.length) c):=by
 have a:=((sS g).aS z);refine go Tryz.func157 [(0,qS A l.length c)] rfl (aa a ac (ah (kZ ?_)));refine bH _ (CG.loop (fun o Γ x=>∃ (m:Nat) (j:Hp),o=m/\Γ=[(2,sZ),(0,qS A m c)]/\SS w h x j [] [] [fun j=>SlO 1 aq 0 j A l]/\m<=l.length/\tl l l.length=tl l m) _ ⟨l.length,h,rfl,rfl,a.to _ _,nR _,rfl⟩ ?_);rintro _ _ w1 ⟨m,p,u,rfl,a,F,ht⟩;refine cQ (aa a [.c,.v (nV m)] ?_);cases d:(decide ((0:Int)<(m:Int)))
 .
  have e:=oF d;refine lB 5 d (lL a ac (lG 7 ?_));refine lG 8 (lG 9 (lG 10 (lG 11 (lG 12 (lG 13 (lL a [.v qF] (ag (CG.exit ?_))))))))
  show CG _ _ _ _ _ _ _ _
  exact aa a aD (ae a [] (qS A m c) (by rw[ht,nY oM]))
 have e:=oT d;refine lB 5 d (lL a [.c,.c,.c,.v (nV m)] (bh 10 ((m:Nat)-1) (m-1) ?_));refine lX 11 A m c 1 (m-1:Nat) (m-1) ((a.f.1).ok oM) (lH 12 (mV (l.getD (m-1) 0)) a ((a.f.1).el (m-1) oM) ?_);cases b:(((l.getD (m-1) 0:Nat):Int) == (0:Int))
 .
  have i:=aj b;refine lB 13 b (lL a [.v qF] (ag (CG.exit ?_)))
  show CG _ _ _ _ _ _ _ _
  exact aa a aD (ae a [] (qS A m c) (by rw[ht,nY oM]))
 have i:=eq_of_beq b;refine lB 13 b (lL a [.v qT] (ak (cK (kZ (kQ (lL a [.c,.c,.v (nV m)] (bh 18 ((m:Nat)-1) (m-1) ?_)))))));refine lT 19 A m c 1 (m-1:Nat) (m-1) (lL a ac (lD ?_));intro B y;refine ⟨_,_,?_,⟨m-1,p,rfl,rfl,a.to _ _,oM,(by rw[ht];exact xJ oM oM)⟩,y.to _ kR⟩
 omega
theorem pZ {l m:List Nat}(a:l.length=m.length)(h:∀ j,j<l.length->l.getD j 0=m.getD j 0):l=m:=by
 apply List.ext_getElem a
 intro i h1 b;have:=h i h1
 simpa [h1,b] using this
theorem pP {l m:List Nat}{i x:Nat}(hi:i<l.length)(h:∀ j,j<i->l.getD j 0=m.getD j 0)(a:x=m.getD i 0):∀ j,j<i+1->(l.set i x).getD j 0=m.getD j 0:=fun j b=>by
 rw[bw hi]
 split
 ·rename_i e;rw[<-e];exact a
 ·exact h j oM
def Ci (h h1:Hp)(v:Value)(l:List Nat):Prop:=∃ b,v=.slice (some ⟨b,0,none⟩) l.length l.length/\h.size<=b/\h1[b]?=some (.cells (l.flatMap aq).toArray 38 (0,0))/\SlO 1 aq 0 h1 (some ⟨b,0,none⟩) l
theorem ll  (w:World)(h:Hp)(g:G w h):CV 148 #[nv 0] w h sZ:=by
 have a:=sS g;exact go Tryz.func148 [(0,nv 0)] rfl (ax (lA 1 40 ([uV 0,eS]) a (fun b w2 d a=>lL a ac (ah (aa a [.v (qP b 1),.o (eS) 0 1 1,.v qT,.c,.v (pB b),.o (uV 0) 0 0 1,.v qT,.v qT] (ak (aa a ac (ae a [] (sZ) rfl))))))))
theorem iF (s:ByteArray)(k:Nat):(s.extract k s.size).size=s.size-k:=by
 simp[ByteArray.size_extract]
theorem rr {n L:Nat}(a:0<L):∀ j,j<1->((As L 0).set 0 (n%18446744073709551616)).getD j 0=(wds n).getD j 0:=fun j b=>by
 have:j=0:=by omega
 subst this;rw[bw (by simpa using a),if_pos rfl];have:=rH n
 unfold lo at this
 exact Int.ofNat.inj this
theorem CH (n:Nat)(hn:0<n)(hl:(wds n).length<=1000000000)(B:n<18446744073709551616)(w:World)(h:Hp)(g:G w h):CR 148 #[nv n] w h (fun v h1=>Ci h h1 v (wds n)):=by
 have e:=sS g;have hz:=iZ n;have hp:=k6.2 hn;have V:=mm B;have J:=congrArg List.length (kc hn B)
 simp only[List.length_singleton] at J
 refine go Tryz.func148 [(0,nv n)] rfl (ax (lA 1 40 (nc n) e (fun p w2 h3 e=>lL e ac (ah (aa e [.v (qP p 1),.o (.string (hi n)) 0 1 1] (lV 7 qT ?_ (hr:=rb kR (jz (ff B)))))))));refine lL e [.c,.v (pB p),.o (mV (n%18446744073709551616)) 0 0 1] ?_;have H:(((n%18446744073709551616:Nat):Int) == (0:Int))=false:=eM oM;have Q:=aj H;refine lB 11 H (lL e [.v qF] (ag (cK (aa e [.v (qP p 1),.o (.string (hi n)) 0 1 1,.v (nV ((hi n).size))] (lV 16 (nV (((hi n).size)/8)) ?_ (hr:=aI (dH (t:=3) (u:=3) (x:=.tmp 15) (y:=.const (iV 8)) (k:=.i64) (a:=(((hi n).size:Nat):Int)) (b:=(8:Int)) kR kR kR oM _) (dE ((hi n).size) 8 oM)))))));refine bh 17 (1+(((hi n).size)/8:Nat)) ((wds n).length) (lK 18 38 ((wds n).length) 1 8 (uV 0) aq 0 e (fun z w6 h7 e=>?_));have I:(As ((wds n).length) 0).length=((wds n).length):=by simp
 refine lL e ac (aG (lL e [.c,.v (pB p),.o (mV (n%18446744073709551616)) 1 0 1] (lX 22 (sB z) ((wds n).length) ((wds n).length) 1 0 0 rfl ?_)));refine lW 0 (As ((wds n).length) 0) aq 1 0 (n%18446744073709551616) e oM (fun w9 e=>?_);have W:((As ((wds n).length) 0).set 0 (n%18446744073709551616)).length=((wds n).length):=by rw[LB];exact I
 replace e:=e.to [⟨z,38,((As ((wds n).length) 0).set 0 (n%18446744073709551616)).flatMap aq⟩,⟨p,40,nc n⟩] [];refine ah (aa e ac (aY ?_));refine bH _ (CG.loop (fun L Γ Y=>∃ (i:Nat) (l:List Nat) (h_:Hp),L=(wds n).length-i/\Γ=[(1,pB p),(2,sZ),(3,qS (sB z) ((wds n).length) ((wds n).length)),(4,nV i)]/\SS w h Y h_ [⟨z,38,(l).flatMap aq⟩,⟨p,40,nc n⟩] [] []/\1<=i/\i<=(wds n).length/\l.length=(wds n).length/\(∀ j,j<i->l.getD j 0=(wds n).getD j 0)) _ ⟨1,(As ((wds n).length) 0).set 0 (n%18446744073709551616),h7,rfl,rfl,e.to _ _,nR _,by omega,W,rr oM⟩ ?_);rintro _ _ _ ⟨i,l,_,O,rfl,e,hi1,X,M,S⟩;refine cQ (aa e [.c,.c,.v (nV ((wds n).length))] ?_);cases za:(decide ((i:Int)<((((wds n).length):Nat):Int)))
 .
  have zb:=oF za;refine lB 26 za (ag (CG.exit ?_))
  show CG _ _ _ _ _ _ _ _
  refine aa e aD (lN (kX ?_));have Z:i=(wds n).length:=by omega
  have K:l=wds n:=pZ oM (fun j hj=>S j oM);rw[K] at e
  obtain ⟨_,e,F,C,D⟩:=e.pub 0;replace e:=(e.to [⟨p,40,nc n⟩] []).aS (SlO.of_flat (sz:=1) (f:=aq) (d:=0) (b:=z) (o:=0) (l:=wds n) (fun _=>rfl) F);exact e.ret [] (qS (sB z) ((wds n).length) ((wds n).length)) (⟨z,rfl,C,D,e.f.1⟩)
 have zb:=oT za;refine lB 26 za (ak (cK (cQ (kZ (kQ (lL e [.c,.c,.v (qP p 1),.o (.string (hi n)) 1 1 1,.c] (lI 34 ((i:Nat)-1) ?_)))))));refine bh 35 (8*((i:Nat)-1)) (8*(i-1)) (lV 36 (.string ((hi n).extract (8*(i-1)) (hi n).size)) ?_ (hr:=pL (tx:=9) (x:=.tmp 32) (i:=.tmp 35) (k:=.i64) (s:=hi n) (n:=(8*(i-1))) (j:=((8*(i-1):Nat):Int)) kR kR kR kR oM oM _));refine ar 37 e (qQ ((hi n).extract (8*(i-1)) (hi n).size) (by rw[iF];omega) _ _ e.g) (fun _ U e=>lX 38 (sB z) ((wds n).length) ((wds n).length) 1 (i:Nat) i rfl (lW 0 l aq 1 i (wv ((hi n).extract (8*(i-1)) (hi n).size):Nat) e oM (fun _ e=>?_)));have zd:((l).set i (wv ((hi n).extract (8*(i-1)) (hi n).size):Nat)).length=((wds n).length):=by rw[LB];exact M
 replace e:=e.to [⟨z,38,((l).set i (wv ((hi n).extract (8*(i-1)) (hi n).size):Nat)).flatMap aq⟩,⟨p,40,nc n⟩] [];refine lN (kQ (lL e ac (bh 28 ((i:Nat)+1) (i+1) ?_)));refine lL e ac (lD ?_);intro a_ ka;refine ⟨_,_,?_,⟨i+1,(l).set i (wv ((hi n).extract (8*(i-1)) (hi n).size):Nat),U,rfl,rfl,e.to _ _,oM,oM,zd,(pP oM S (by rw[ju n (i-1) oM,show i-1+1=i by omega]))⟩,ka.to _ kR⟩
 omega
theorem EE (n:Nat)(hn:0<n)(hl:(wds n).length<=1000000000)(F:18446744073709551616<=n)(w:World)(h:Hp)(g:G w h):CR 148 #[nv n] w h (fun v h1=>Ci h h1 v (wds n)):=by
 have e:=sS g;have hz:=iZ n;have hp:=k6.2 hn;refine go Tryz.func148 [(0,nv n)] rfl (ax (lA 1 40 (nc n) e (fun z w2 h3 e=>lL e ac (ah (aa e [.v (qP z 1),.o (.string (hi n)) 0 1 1] (lV 7 qF ?_ (hr:=rb kR (je (fF F)))))))));refine lL e ac (lG 9 ?_);refine lG 10 (lG 11 (lL e [.v qF] (ag (cK (aa e [.v (qP z 1),.o (.string (hi n)) 0 1 1,.v (nV ((hi n).size))] (lV 16 (nV (((hi n).size)/8)) ?_ (hr:=aI (dH (t:=3) (u:=3) (x:=.tmp 15) (y:=.const (iV 8)) (k:=.i64) (a:=(((hi n).size:Nat):Int)) (b:=(8:Int)) kR kR kR oM _) (dE ((hi n).size) 8 oM))))))));refine bh 17 (1+(((hi n).size)/8:Nat)) ((wds n).length) (lK 18 38 ((wds n).length) 1 8 (uV 0) aq 0 e (fun p w5 Y e=>?_));have H:(As ((wds n).length) 0).length=((wds n).length):=by simp
 refine lL e ac (aG (lL e [.c,.v (pB z),.o (mV (n%18446744073709551616)) 1 0 1] (lX 22 (sB p) ((wds n).length) ((wds n).length) 1 0 0 rfl ?_)));refine lW 0 (As ((wds n).length) 0) aq 1 0 (n%18446744073709551616) e oM (fun w8 e=>?_);have K:((As ((wds n).length) 0).set 0 (n%18446744073709551616)).length=((wds n).length):=by rw[LB];exact H
 replace e:=e.to [⟨p,38,((As ((wds n).length) 0).set 0 (n%18446744073709551616)).flatMap aq⟩,⟨z,40,nc n⟩] [];refine ah (aa e ac (aY ?_));refine bH _ (CG.loop (fun J Γ U=>∃ (i:Nat) (l:List Nat) (h_:Hp),J=(wds n).length-i/\Γ=[(1,pB z),(2,sZ),(3,qS (sB p) ((wds n).length) ((wds n).length)),(4,nV i)]/\SS w h U h_ [⟨p,38,(l).flatMap aq⟩,⟨z,40,nc n⟩] [] []/\1<=i/\i<=(wds n).length/\l.length=(wds n).length/\(∀ j,j<i->l.getD j 0=(wds n).getD j 0)) _ ⟨1,(As ((wds n).length) 0).set 0 (n%18446744073709551616),Y,rfl,rfl,e.to _ _,nR _,by omega,K,rr oM⟩ ?_);rintro _ _ _ ⟨i,l,_,O,rfl,e,X,S,L,M⟩;refine cQ (aa e [.c,.c,.v (nV ((wds n).length))] ?_);cases za:(decide ((i:Int)<((((wds n).length):Nat):Int)))
 .
  have zb:=oF za;refine lB 26 za (ag (CG.exit ?_))
  show CG _ _ _ _ _ _ _ _
  refine aa e aD (lN (kX ?_));have W:i=(wds n).length:=by omega
  have I:l=wds n:=pZ oM (fun j hj=>M j oM);rw[I] at e
  obtain ⟨_,e,C,D,B⟩:=e.pub 0;replace e:=(e.to [⟨z,40,nc n⟩] []).aS (SlO.of_flat (sz:=1) (f:=aq) (d:=0) (b:=p) (o:=0) (l:=wds n) (fun _=>rfl) C);exact e.ret [] (qS (sB p) ((wds n).length) ((wds n).length)) (⟨p,rfl,D,B,e.f.1⟩)
 have zb:=oT za;refine lB 26 za (ak (cK (cQ (kZ (kQ (lL e [.c,.c,.v (qP z 1),.o (.string (hi n)) 1 1 1,.c] (lI 34 ((i:Nat)-1) ?_)))))));refine bh 35 (8*((i:Nat)-1)) (8*(i-1)) (lV 36 (.string ((hi n).extract (8*(i-1)) (hi n).size)) ?_ (hr:=pL (tx:=9) (x:=.tmp 32) (i:=.tmp 35) (k:=.i64) (s:=hi n) (n:=(8*(i-1))) (j:=((8*(i-1):Nat):Int)) kR kR kR kR oM oM _));refine ar 37 e (qQ ((hi n).extract (8*(i-1)) (hi n).size) (by rw[iF];omega) _ _ e.g) (fun _ V e=>lX 38 (sB p) ((wds n).length) ((wds n).length) 1 (i:Nat) i rfl (lW 0 l aq 1 i (wv ((hi n).extract (8*(i-1)) (hi n).size):Nat) e oM (fun _ e=>?_)));have Q:((l).set i (wv ((hi n).extract (8*(i-1)) (hi n).size):Nat)).length=((wds n).length):=by rw[LB];exact L
 replace e:=e.to [⟨p,38,((l).set i (wv ((hi n).extract (8*(i-1)) (hi n).size):Nat)).flatMap aq⟩,⟨z,40,nc n⟩] [];refine lN (kQ (lL e ac (bh 28 ((i:Nat)+1) (i+1) ?_)));refine lL e ac (lD ?_);intro a_ Z;refine ⟨_,_,?_,⟨i+1,(l).set i (wv ((hi n).extract (8*(i-1)) (hi n).size):Nat),V,rfl,rfl,e.to _ _,oM,oM,Q,(pP oM M (by rw[ju n (i-1) oM,show i-1+1=i by omega]))⟩,Z.to _ kR⟩
 omega
theorem f4 (n:Nat)(hn:0<n)(a:(wds n).length<=1000000000)(w:World)(h:Hp)(g:G w h):CR 148 #[nv n] w h (fun v h1=>Ci h h1 v (wds n)):=by
 rcases ea n 18446744073709551616 with hs|hs
 ·exact CH n hn a hs w h g
 ·exact EE n hn a hs w h g
open Go.RowKit Go.Shelf
def wA:Go.Shelf.Ren:=⟨fun|167=>159|240=>190|276=>213|n=>n,fun|0=>0|4=>4|5=>5|9=>9|20=>20|37=>163|70=>221|72=>223|75=>226|164=>274|80=>228|n=>n,fun n=>n⟩
theorem Da:Go.Proofs.Lays.n167 Tryz.prog wA:={
 mixed:=by kernel_rfl
 f167:=Tryz.func159.trans (congrArg some kR)
 f240:=Tryz.func190.trans (congrArg some kR)
 f276:=Tryz.func213.trans (congrArg some kR)
 t0:=Tryz.underlying0
 a0:=Tryz.isAgg0
 z0:=Tryz.sizeOf0
 v0:=Tryz.zeroValue0
 t4:=Tryz.underlying4
 a4:=Tryz.isAgg4
 z4:=Tryz.sizeOf4
 v4:=Tryz.zeroValue4
 t5:=Tryz.underlying5
 a5:=Tryz.isAgg5
 z5:=Tryz.sizeOf5
 v5:=Tryz.zeroValue5
 t9:=Tryz.underlying9
 a9:=Tryz.isAgg9
 z9:=Tryz.sizeOf9
 v9:=Tryz.zeroValue9
 t20:=Tryz.underlying20
 a20:=Tryz.isAgg20
 z20:=Tryz.sizeOf20
 v20:=Tryz.zeroValue20
 t37:=Tryz.underlying163
 a37:=Tryz.isAgg163
 z37:=Tryz.sizeOf163
 v37:=Tryz.zeroValue163
 t70:=Tryz.underlying221
 a70:=Tryz.isAgg221
 z70:=Tryz.sizeOf221
 v70:=Tryz.zeroValue221
 t72:=Tryz.underlying223
 a72:=Tryz.isAgg223
 z72:=Tryz.sizeOf223
 v72:=Tryz.zeroValue223
 t75:=Tryz.underlying226
 a75:=Tryz.isAgg226
 z75:=Tryz.sizeOf226
 v75:=Tryz.zeroValue226
 t164:=Tryz.underlying274
 a164:=Tryz.isAgg274
 z164:=Tryz.sizeOf274
 v164:=Tryz.zeroValue274 }
theorem xl:Builder.Extra Tryz.prog wA:={
 sizeBuilder:=by kernel_rfl
 liesBuilder:=by kernel_rfl
 t5:=Tryz.underlying5
 a5:=Tryz.isAgg5
 z5:=Tryz.sizeOf5
 v5:=Tryz.zeroValue5
 infoByte:=by kernel_rfl
 cellsByte:=by kernel_rfl
 sizeByte:=by kernel_rfl
 neB5:=by decide }
theorem Fm (A:Option Addr)(c:Nat)(l:List Nat)(S:Wd l)(hl:l.length<=1099511627776)(W:l.length<=c)(w:World)(h:Hp)(g:G w h)(hA:SlO 1 aq 0 h A l):CV 132 #[.slice A l.length c] w h (nv (aA l)):=by
 have d:=((sS g).aS hA);have htl:=it l l.length;have hdl:(l.drop 1).length=l.length-1:=Mq;refine go Tryz.func132 [(0,qS A l.length c)] rfl (ax (lA 2 40 ([uV 0,eS]) d (fun O w2 h3 d=>aG (lL d ac (ar 8 d (Fu A c l hl W _ _ d.g d.f.1) (fun e h5 d=>lL d ac (ah (aa d [.c,.v (nV (tl l l.length))] (aY (ax ?_))))))))));cases B:((((tl l l.length):Nat):Int) == (0:Int))
 .
  have M:=aj B;refine lB 12 B (lL d ac (ag (ax ?_)));cases C:((((tl l l.length):Nat):Int) == (1:Int))
  .
   have L:=aj C;refine lB 15 C (lL d ac (ag (cK (ax ?_))));have j:=d;refine La 3 223 [.pointer none,sZ] d (fun w8 i Q Y=>?_);obtain ⟨h9,d,-⟩:=j.liftJ i;refine aG (lL d [.c,.v (nV (tl l l.length))] (bh 22 (((tl l l.length):Nat)-1) ((tl l l.length)-1) ?_));refine bh 23 (8*((tl l l.length)-1:Nat)) (8*((tl l l.length)-1)) (K3 24 j i (Tryz.Builder_Grow_fresh e.heap.size e.heap.size (8*((tl l l.length)-1):Nat) _ (nR _) Y Q oM) (fun _ ze d p D=>?_))
   clear i
   have i:=p;clear p;have F:Lib.IsBuilder 223 5 e.heap.size e.heap.size (Lib.byteCells (((l.drop 1).take 0).flatMap b8)) _:=.inr D;refine ah (aa d ac (lF 26 A (tl l l.length) c 1 1 1 ?_));replace d:=d.aS (d.f.1.drop 1 c W);replace j:=j.aS (j.f.1.drop 1 c W);refine lL d [.v (nV ((tl l l.length)-1)),.c] (aY ?_);refine bH _ (CG.loop (fun I Γ H=>∃ (k:Nat) (o:Hp),I=(tl l l.length)-k/\Γ=[(0,qS A (tl l l.length) c),(2,pB O),(3,.pointer (some ⟨e.heap.size,0,none⟩)),(26,qS (if c=1 then A else A.map (·.add (1*1))) ((tl l l.length)-1) (c-1)),(27,nV ((tl l l.length)-1)),(28,nV k)]/\SS w h H o [⟨O,40,[uV 0,eS]⟩] [] [fun o=>SlO 1 aq 0 o (if c=1 then A else A.map (·.add (1*1))) (l.drop 1),fun o=>SlO 1 aq 0 o A l]/\k<=(tl l l.length)-1/\Ext e H/\Lib.IsBuilder 223 5 e.heap.size e.heap.size (Lib.byteCells (((l.drop 1).take k).flatMap b8)) H) _ ⟨0,ze,rfl,rfl,d.to _ _,MG _,i,F⟩ ?_);rintro _ _ zf ⟨k,zg,Z,rfl,d,hk,i,F⟩;have hxk:(l.drop 1).getD k 0<18446744073709551616:=Dg.getD (Dg.drop S 1) kD k;refine ax ?_;cases za:(decide ((k:Int)<(((tl l l.length)-1:Nat):Int)))
   .
    have zc:=oF za;refine lB 29 za (ah (dr (CG.exit ?_)))
    show CG _ _ _ _ _ _ _ _
    refine cQ (wg ⟨Dm e.heap.size zf.heap.size,none⟩ 5 mixed ?_);obtain ⟨_,d,hj⟩:=j.liftJ i.drew;refine aV 0 43 (qS A (tl l l.length) c) (aX 1 44 A (tl l l.length) c 1 0 0 ((d.f.2.1).ok oM) (aH 2 45 (mV (l.getD 0 0)) d ((d.f.2.1).el 0 oM) ?_ (fun b hb=>hj b (mH.1 hb).1 (mH.1 hb).2)));refine aC 3 46 ((Tryz.Builder_String_any e.heap.size e.heap.size (((l.drop 1).take k).flatMap b8) _ (sf F ((Ext.refl _).drew)) i.size).mono fun e_ _ ⟨U,J⟩=>⟨_,U,wu J,?_⟩);obtain ⟨_,d,-⟩:=j.liftJ (Below.trans i.drew J);refine aV 4 47 (.agg #[mV (l.getD 0 0),.string (⟨(((l.drop 1).take k).flatMap b8).toArray⟩)]) (tP 5 0 0 ([mV (l.getD 0 0),.string (⟨(((l.drop 1).take k).flatMap b8).toArray⟩)]) d (fun _ d=>tN (kX ?_)));have X:k=(tl l l.length)-1:=by omega
    exact d.ret [(0,0,2)] (.agg #[mV (l.getD 0 0),.string (⟨(((l.drop 1).take k).flatMap b8).toArray⟩)]) (by rw[X];exact Dc S oM)
   have zc:=oT za;refine lB 29 za (ah (co (cK (cQ (kZ (ax (lX 30 (if c=1 then A else A.map (·.add (1*1))) ((tl l l.length)-1) (c-1) 1 (k:Nat) k ((d.f.1).ok oM) ?_)))))));refine lH 31 (mV ((l.drop 1).getD k 0)) d ((d.f.1).el k oM) (lL d ac (aG (lL d ac (aY ?_))));refine bH _ (CG.loop (fun I Γ H=>∃ (m:Nat) (o:Hp),I=8-m/\Γ=[(0,qS A (tl l l.length) c),(2,pB O),(3,.pointer (some ⟨e.heap.size,0,none⟩)),(26,qS (if c=1 then A else A.map (·.add (1*1))) ((tl l l.length)-1) (c-1)),(27,nV ((tl l l.length)-1)),(28,nV k),(5,mV ((l.drop 1).getD k 0)),(32,nV m)]/\SS w h H o [⟨O,40,[uV 0,eS]⟩] [] [fun o=>SlO 1 aq 0 o (if c=1 then A else A.map (·.add (1*1))) (l.drop 1),fun o=>SlO 1 aq 0 o A l]/\m<=8/\Ext e H/\Lib.IsBuilder 223 5 e.heap.size e.heap.size (Lib.byteCells (((l.drop 1).take k).flatMap b8++(b8 ((l.drop 1).getD k 0)).take m)) H) _ ⟨0,zg,rfl,rfl,d.to _ _,MG _,i,(by simpa using F)⟩ ?_);rintro _ _ _ ⟨m,zi,bb,rfl,d,hm,i,z⟩;refine ax ?_;cases zb:(decide ((m:Int)<(8:Int)))
   .
    have zd:=oF zb;refine lB 33 zb (ah (dr (CG.exit ?_)))
    show CG _ _ _ _ _ _ _ _
    refine kQ (bh 42 ((k:Nat)+1) (k+1) ?_);refine lL d ac (lD ?_);intro a_ V;refine ⟨_,_,?_,⟨k+1,zi,rfl,rfl,d.to _ _,oM,i,(by rw[show m=8 by omega,vW oM] at z;exact z)⟩,V.to _ kR⟩
    omega
   have zd:=oT zb;refine lB 33 zb (ah (co (cK (cQ (kZ (aa d aD (lN (kQ (lL d aD (bh 37 (8*(m:Nat)) (8*m) ?_))))))))));refine lV 38 (mV (((l.drop 1).getD k 0)/2^(8*m))) ?_ (hr:=gI (t:=38) (u:=3) (x:=.tmp 35) (y:=.tmp 37) (ky:=.i64) (a:=((l.drop 1).getD k 0)) (n:=(8*m)) kR kR kR oM _);refine lV 39 (.int .u8 ((((l.drop 1).getD k 0)/2^(8*m):Nat)%256:Nat)) ?_ (hr:=aI (n:=IntKind.wrap .u8 ((((l.drop 1).getD k 0)/2^(8*m):Nat):Int)) kR (CQ _));refine K3 40 j i (Any.Builder_WriteByte Da xl e.heap.size e.heap.size _ ((((l.drop 1).getD k 0)/2^(8*m)%256:Nat):Int) _ z (vt oM oM oM) i.size) (fun _ zj d p D=>?_)
   clear i
   have i:=p;clear p;rw[sY oM] at D
   have K:Lib.IsBuilder 223 5 e.heap.size e.heap.size _ _:=.inr D;refine lN (kQ (bh 41 ((m:Nat)+1) (m+1) ?_));refine lL d ac (lD ?_);intro a_ V;refine ⟨_,_,?_,⟨m+1,zj,rfl,rfl,d.to _ _,oM,i,K⟩,V.to _ kR⟩
   omega
  have L:=eq_of_beq C;refine lB 15 C (lL d ac (ak (aa d ac (lX 17 A (tl l l.length) c 1 0 0 ((d.f.1).ok oM) ?_))));exact lH 18 (mV (l.getD 0 0)) d ((d.f.1).el 0 oM) (lL d [.v (.agg #[mV (l.getD 0 0),eS])] (lP 0 0 ([mV (l.getD 0 0),eS]) d (fun _ d=>ae d [(0,0,2)] (.agg #[mV (l.getD 0 0),eS]) (F4 S oM))))
 have M:=eq_of_beq B;exact lB 12 B (lL d ac (ak (aa d [.v (.agg #[uV 0,eS])] (lP 0 0 ([uV 0,eS]) d (fun _ d=>ae d [(0,0,2)] (.agg #[uV 0,eS]) (C1 oM))))))
theorem JY (n:Nat)(hn:n<18446744073709551616)(w:World)(h:Hp)(g:G w h):CV 113 #[mV n] w h (nv n):=by
 have a:=sS g;exact go Tryz.func113 [(0,mV n)] rfl (ax (lA 2 40 ([uV 0,eS]) a (fun d w2 e a=>aG (lL a [.c,.v (.agg #[mV n,eS])] (lP 0 0 ([mV n,eS]) a (fun b a=>ae a [(0,0,2)] (.agg #[mV n,eS]) (jw hn)))))))
theorem tc (n:Nat)(hn:n<18446744073709551616)(w:World)(h:Hp)(g:G w h):CV 155 #[nv n] w h (.tuple #[mV n,.bool true]):=by
 have a:=sS g;refine go Tryz.func155 [(0,nv n)] rfl (ax (lA 1 40 (nc n) a (fun b w2 d a=>lL a aD (ah (aa a [.v (qP b 1),.o (.string (hi n)) 0 1 1] (lV 6 qF ?_ (hr:=rb kR (IA (ff hn)))))))));exact ag (cK (aa a [.v (pB b),.o (mV (n%18446744073709551616)) 0 0 1,.c,.c] (ae a [] (.tuple #[mV (n%18446744073709551616),qT]) (by rw[A0 hn]))))
theorem EL (n:Nat)(hn:18446744073709551616<=n)(w:World)(h:Hp)(g:G w h):CV 155 #[nv n] w h (.tuple #[uV 0,.bool false]):=by
 have a:=sS g;refine go Tryz.func155 [(0,nv n)] rfl (ax (lA 1 40 (nc n) a (fun b w2 c a=>lL a aD (ah (aa a [.v (qP b 1),.o (.string (hi n)) 0 1 1] (lV 6 qT ?_ (hr:=rb kR (Iv (fF hn)))))))));exact ak (aa a aD (ae a [] (.tuple #[uV 0,qF]) rfl))
theorem E0 (a b:Nat)(w:World)(h:Hp)(g:G w h):CV 179 #[mV a,mV b] w h (iV (bX a b)):=by
 have c:=sS g;refine go Tryz.func179 [(0,mV a),(1,mV b)] rfl (aa c ac (ah (kZ (aa c aD ?_))));cases d:(decide ((a:Int)<(b:Int)))
 .
  have f:=oF d;refine lB 8 d (lL c ac (ag (aa c aD ?_)));cases e:(decide ((b:Int)<(a:Int)))
  .
   have i:=oF e;exact lB 12 e (lL c ac (ag (cK (aa c ac (ae c [] (iV 0) (by rw[i5 oM]))))))
  have i:=oT e;exact lB 12 e (lL c ac (ak (aa c ac (ae c [] (iV 1) (by rw[fM oM])))))
 have f:=oT d;exact lB 8 d (lL c ac (ak (aa c ac (ae c [] (iV (-1)) (by rw[dY oM])))))
theorem Hv (n:Nat)(hn:n<18446744073709551616)(w:World)(h:Hp)(g:G w h):CV 90 #[nv n] w h (nV (nb n)):=by
 have a:=sS g;refine go Tryz.func90 [(0,nv n)] rfl (ax (lA 1 40 (nc n) a (fun b w2 e a=>lL a ac (ah (aa a [.v (qP b 1),.o (.string (hi n)) 0 1 1] (lV 5 qT ?_ (hr:=rb kR (jz (ff hn)))))))));exact ak (aa a [.v (pB b),.o (mV (n%18446744073709551616)) 0 0 1] (ar 8 a (AJ (n%18446744073709551616) wM _ _ a.g) (fun c d a=>lL a ac (ae a [] (nV (nb (n%18446744073709551616))) (by rw[A0 hn])))))
theorem FR (n:Nat)(hn:18446744073709551616<=n)(B:(wds n).length<=1000000000)(w:World)(h:Hp)(g:G w h):CV 90 #[nv n] w h (nV (nb n)):=by
 have a:=sS g;have hz:=iZ n;have f:=de hn;refine go Tryz.func90 [(0,nv n)] rfl (ax (lA 1 40 (nc n) a (fun b w2 u a=>lL a ac (ah (aa a [.v (qP b 1),.o (.string (hi n)) 0 1 1] (lV 5 qF ?_ (hr:=rb kR (je (fF hn)))))))));refine ag (cK (cQ (cR 14 [] mixed a ao ?_)));refine eV 0 9 (qP b 1) (eO 1 10 [(0,1,1)] (.string (hi n)) a (eV 2 11 (nV ((hi n).size)) (jX 3 12 (8*((hi n).size:Nat)) (8*(hi n).size) (eV 4 13 (qP b 1) (eO 5 14 [(0,1,1)] (.string (hi n)) a (eV 6 15 (qP b 1) (eO 7 16 [(0,1,1)] (.string (hi n)) a (eV 8 17 (nV ((hi n).size)) (jX 9 18 (((hi n).size:Nat)-8) (8*((wds n).length-2)) (eV 10 19 (.string ((hi n).extract (8*((wds n).length-2):Nat) (hi n).size)) ?_ (hv:=fun _=>pL (tx:=9) (x:=.tmp 14) (i:=.tmp 18) (k:=.i64) (s:=hi n) (n:=(8*((wds n).length-2):Nat)) (j:=((8*((wds n).length-2):Nat):Int)) kR kR kR kR oM oM _)))))))))));refine au 11 20 a (fun _ _ a=>qQ ((hi n).extract (8*((wds n).length-2):Nat) (hi n).size) (by rw[iF];omega) _ _ a.g) (fun z C a=>au 12 21 a (fun _ _ a=>AJ (wv ((hi n).extract (8*((wds n).length-2):Nat) (hi n).size):Nat) wM _ _ a.g) (fun y D a=>?_));have d:=ju n ((wds n).length-2) oM;rw[show (wds n).length-2+1=(wds n).length-1 by omega] at d
 have c:=BE (n:=n) oM;have e:nb (wv ((hi n).extract (8*((wds n).length-2)) (hi n).size))<=64:=kH (k:=64) (Ey _);rw[<-d] at c
 exact jX 13 22 ((8*(hi n).size:Nat)+(nb (wv ((hi n).extract (8*((wds n).length-2):Nat) (hi n).size):Nat):Nat)) (nb n) (bP a (fun p l a=>tV 14 2 (nV (nb n)) (tN (kX (a.ret [] (nV (nb n)) rfl)))))
theorem fZ (n:Nat)(a:(wds n).length<=1000000000)(w:World)(h:Hp)(g:G w h):CV 90 #[nv n] w h (nV (nb n)):=by
 rcases ea n 18446744073709551616 with hs|hs
 ·exact Hv n hs w h g
 ·exact FR n hs a w h g
theorem lr (a b:Nat)(M:(wds a).length<=1000000000)(J:(wds b).length<=1000000000)(w:World)(h:Hp)(g:G w h):CV 152 #[nv a,nv b] w h (iV (bX a b)):=by
 have c:=sS g;have W:=iZ a;have U:=iZ b;refine go Tryz.func152 [(0,nv a),(1,nv b)] rfl (ax (lA 2 40 (nc a) c (fun f w2 h3 c=>lA 3 40 (nc b) c (fun l w5 O c=>lL c ac (ah (aa c [.v (qP f 1),.o (.string (hi a)) 1 1 1,.v (nV ((hi a).size)),.v (qP l 1),.o (.string (hi b)) 0 1 1,.v (nV ((hi b).size))] ?_))))));cases d:((((hi a).size:Nat):Int) != (((hi b).size:Nat):Int))
 .
  have u:=aW d;refine lB 14 d (ag (cK (cQ (aa c [.v (qP f 1),.o (.string (hi a)) 1 1 1,.v (nV ((hi a).size))] (lV 25 (iV (8*(((wds a).length-1:Nat):Int)-8)) ?_ (hr:=rS ((((hi a).size:Nat)-8)) kR ((gL oM oM).trans oM)))))));refine lL c ac (aY ?_);refine bH _ (CG.loop (fun D Γ K=>∃ (m:Nat) (h_:Hp),D=m/\Γ=[(2,pB f),(3,pB l),(5,iV (8*(m:Int)-8))]/\SS w h K h_ [⟨l,40,nc b⟩,⟨f,40,nc a⟩] [] []/\m<=(wds a).length-1/\(wds a).length-1=(wds b).length-1/\(wds a).drop (m+1)=(wds b).drop (m+1)) _ ⟨(wds a).length-1,O,rfl,rfl,c.to _ _,nR _,oM,(by rw[z2 oM,z2 oM])⟩ ?_);rintro _ _ Y ⟨m,X,H,rfl,c,hm,p,e⟩;refine cQ (aa c ac ?_);cases za:(decide ((0:Int)<=(8*(m:Int)-8:Int)))
  .
   have L:=oF za;refine lB 27 za (ag (CG.exit ?_))
   show CG _ _ _ _ _ _ _ _
   exact aa c [.v (pB f),.o (mV (a%18446744073709551616)) 1 0 1,.v (pB l),.o (mV (b%18446744073709551616)) 0 0 1] (ar 50 c (E0 (a%18446744073709551616) (b%18446744073709551616) _ _ c.g) (fun _ _ c=>lL c ac (ae c [] (iV (bX (a%18446744073709551616) (b%18446744073709551616))) (by rw[p7 (a:=a) (b:=b) oM (by have C:m=0:=oM;rw[C] at e;exact e)]))))
  have L:=oT za;refine lB 27 za (ak (cK (cQ (kZ (cQ ?_)))));have B:=c;refine Fa 10 [] [] mixed c ao (eV 0 30 (qP f 1) (eO 1 31 [(1,1,1)] (.string (hi a)) c (eV 2 32 (iV (8*(m:Int)-8)) (eV 3 33 (.string ((hi a).extract (8*(m-1)) (hi a).size)) ?_ (hv:=fun _=>pL (tx:=9) (x:=.tmp 31) (i:=.tmp 32) (k:=.i64) (s:=hi a) (n:=8*(m-1)) (j:=(8*(m:Int)-8:Int)) kR kR kR kR oM oM _)))));refine eV 5 35 (qP l 1) (xn 6 36 [(0,1,1)] (.string (hi b)) B c (eV 7 37 (iV (8*(m:Int)-8)) (eV 8 38 (.string ((hi b).extract (8*(m-1)) (hi b).size)) ?_ (hv:=fun _=>pL (tx:=9) (x:=.tmp 36) (i:=.tmp 37) (k:=.i64) (s:=hi b) (n:=8*(m-1)) (j:=(8*(m:Int)-8:Int)) kR kR kR kR oM oM _))));refine au 4 34 c (fun _ _ c=>qQ ((hi a).extract (8*(m-1)) (hi a).size) (by rw[iF];omega) _ _ c.g) (fun _ _ c=>au 9 39 c (fun _ _ c=>qQ ((hi b).extract (8*(m-1)) (hi b).size) (by rw[iF];omega) _ _ c.g) (fun _ _ c=>bP c (fun _ Q c=>tV 10 6 (mV (wv ((hi a).extract (8*(m-1)) (hi a).size))) (tV 11 7 (mV (wv ((hi b).extract (8*(m-1)) (hi b).size))) (rD ?_)))));have F:=ju a (m-1) oM;have z:=ju b (m-1) oM;rw[show m-1+1=m by omega] at F z
  refine lL c aD ?_;cases zb:(((wv ((hi a).extract (8*(m-1)) (hi a).size):Nat):Int) != ((wv ((hi b).extract (8*(m-1)) (hi b).size):Nat):Int))
  .
   have I:=aW zb;refine lB 42 zb (ag (cK (kQ (lL c ac (lV 29 (iV (8*((m-1:Nat):Int)-8)) ?_ (hr:=rS (((8*(m:Int)-8)-8)) kR ((gL oM oM).trans oM)))))));refine lL c ac (lD ?_);intro Z S;refine ⟨_,_,?_,⟨m-1,Q,rfl,rfl,c.to _ _,oM,p,(by rw[show m-1+1=m by omega];exact fK oM oM e oM)⟩,S.to _ kR⟩
   omega
  have I:=aN zb;exact lB 42 zb (ak (aa c aD (ar 45 c (E0 (wv ((hi a).extract (8*(m-1)) (hi a).size):Nat) (wv ((hi b).extract (8*(m-1)) (hi b).size):Nat) _ _ c.g) (fun _ _ c=>lL c ac (ae c [] (iV (bX (wv ((hi a).extract (8*(m-1)) (hi a).size):Nat) (wv ((hi b).extract (8*(m-1)) (hi b).size):Nat))) (by rw[ju a (m-1) oM,ju b (m-1) oM,show m-1+1=m by omega];exact congrArg (Value.int .i64) (lf oM oM e oM)))))))
 have u:=aN d;refine lB 14 d (ak (cQ (aa c [.v (qP f 1),.o (.string (hi a)) 1 1 1,.v (nV ((hi a).size)),.v (qP l 1),.o (.string (hi b)) 0 1 1,.v (nV ((hi b).size))] ?_)));cases y:(decide ((((hi a).size:Nat):Int)<(((hi b).size:Nat):Int)))
 .
  have V:=oF y;exact lB 21 y (ag (cK (aa c ac (ae c [] (iV 1) (by rw[fM (gG oM)])))))
 have V:=oT y;exact lB 21 y (ak (aa c ac (ae c [] (iV (-1)) (by rw[dY (gG oM)]))))
theorem A3 (hi lo y:Nat)(Z:hi<y)(hy:y<18446744073709551616)(hlo:lo<18446744073709551616)(w:World)(h:Hp)(g:G w h):CR 204 #[mV hi,mV lo,mV y] w h (fun v _=>∃ q r:Nat,v=.tuple #[uV q,uV r]/\hi*18446744073709551616+lo=y*q+r/\r<y/\q<18446744073709551616):=by
 have c:=sS g;refine go Tryz.func204 [(0,mV hi),(1,mV lo),(2,mV y)] rfl (aa c aD (ah (aa c ac ?_)));have U:((y:Int) == (0:Int))=false:=eM oM;have bq:=aj U;refine lB 20 U (ag (cK (cQ (aa c aD ?_))));have ⟨hb2,bl⟩:=dF (p:=(y:Int)<=(hi:Int)) oM;refine lB 24 hb2 (ag (cK (cQ (aa c ac ?_))));cases D:((hi:Int) == (0:Int))
 .
  have V:=aj D;refine lB 27 D (ag (cK (aa c ac (ar 35 c (EW y wM _ _ c.g) (fun w4 h5 c=>?_)))));obtain ⟨s,hsd⟩:∃ e,e=64-nb y:=⟨_,rfl⟩;refine lV 36 (mV s) ?_ (hr:=aI (aI (n:=IntKind.wrap .u64 ((64-nb y:Nat):Int)) kR (a8 oM oM)) (by rw[hsd]));refine lL c ac (aG (lL c aD ?_));obtain ⟨Y,hY⟩:∃ e,e=y*2^s:=⟨_,rfl⟩;have hn:=uU (y:=y) oM oM;rw[<-hsd,<-hY] at hn
  refine lV 39 (mV Y) ?_ (hr:=aI (g9 (t:=38) (u:=144) (x:=.tmp 37) (y:=.tmp 38) (ky:=.u64) (a:=y) (n:=s) kR kR kR _) (by rw[<-hY,A0 hn.2]));refine lL c ac (aG (lL c ac ?_));obtain ⟨y1,hy1⟩:∃ e,e=Y/4294967296:=⟨_,rfl⟩;refine lV 41 (mV y1) ?_ (hr:=aI (aI (n:=Int.fdiv (Y:Int) 4294967296) kR (ef _ 4294967296)) (by rw[hy1]));refine lL c ac (aG (lL c ac ?_));obtain ⟨y0,hy0⟩:∃ e,e=Y%4294967296:=⟨_,rfl⟩;refine lV 43 (mV y0) ?_ (hr:=aI (sH (t:=38) (u:=38) (x:=.tmp 42) (y:=.const (uV 4294967295)) (a:=Y) (m:=4294967295) 32 kR kR kR oM kD _) (by rw[hy0]));refine lL c ac (aG (lL c aD ?_));have hhi:hi*2^s<Y:=by rw[hY];exact MN Z (Mc s)
  obtain ⟨K,hsl⟩:=Ep (hi:=hi) (lo:=lo) (s:=s) oM hlo;have hdl:=LN lo (2^(64-s));have d:Y=y1*4294967296+y0:=by omega
  refine lV 46 (mV (hi*2^s)) ?_ (hr:=aI (g9 (t:=38) (u:=144) (x:=.tmp 44) (y:=.tmp 45) (ky:=.u64) (a:=hi) (n:=s) kR kR kR _) (by rw[A0 oM]));refine lL c aD (lV 49 (mV (64-s)) ?_ (hr:=rU (((64:Int)-(s:Int))) kR (fE 64 s oM oM)));refine lV 50 (mV (lo/2^(64-s))) ?_ (hr:=gI (t:=38) (u:=144) (x:=.tmp 47) (y:=.tmp 49) (ky:=.u64) (a:=lo) (n:=(64-s)) kR kR kR oM _);obtain ⟨u32,hu32⟩:∃ e,e=hi*2^s+lo/2^(64-s):=⟨_,rfl⟩;rw[<-hu32] at K
  have B:u32<Y:=by
    have e2:(hi+1)*2^s<=y*2^s:=Af _ Z;rw[LI,Mw,<-hY] at e2
    omega
  refine lV 51 (mV u32) ?_ (hr:=aI (iw (t:=38) (u:=38) (x:=.tmp 46) (y:=.tmp 50) (a:=(hi*2^s)) (b:=(lo/2^(64-s))) kR kR kR oM oM _) (by rw[hu32,Nat.or_comm,gU s hsl,Nat.add_comm]));refine lL c ac (aG (lL c aD ?_));obtain ⟨u10,hu10⟩:∃ e,e=lo*2^s%18446744073709551616:=⟨_,rfl⟩;rw[<-hu10] at K
  have bd:u10<18446744073709551616:=by omega
  refine lV 54 (mV u10) ?_ (hr:=aI (g9 (t:=38) (u:=144) (x:=.tmp 52) (y:=.tmp 53) (ky:=.u64) (a:=lo) (n:=s) kR kR kR _) (by rw[hu10]));refine lL c ac (aG (lL c ac ?_));obtain ⟨u1,hu1⟩:∃ e,e=u10/4294967296:=⟨_,rfl⟩;refine lV 56 (mV u1) ?_ (hr:=aI (aI (n:=Int.fdiv (u10:Int) 4294967296) kR (ef _ 4294967296)) (by rw[hu1]));refine lL c ac (lN (bH [(2,mV Y),(6,uV 0),(7,uV 0),(8,mV s),(9,mV y1),(10,mV y0),(11,mV u32),(12,mV u10),(13,mV u1)] ?_));refine aa c ac ?_;obtain ⟨u0,hu0⟩:∃ e,e=u10%4294967296:=⟨_,rfl⟩;refine lV 58 (mV u0) ?_ (hr:=aI (sH (t:=38) (u:=38) (x:=.tmp 57) (y:=.const (uV 4294967295)) (a:=u10) (m:=4294967295) 32 kR kR kR oM kD _) (by rw[hu0]));refine lL c ac (aG (lL c aD ?_));have J:=mE (Y:=Y) (y1:=y1) (y0:=y0) (u:=u32) (u1:=u1) d oM oM oM B;have S:=n9 (u:=u32) (y1:=y1) oM;have hM0:=MK u32 y1;obtain ⟨qa,hqa⟩:∃ e,e=u32/y1:=⟨_,rfl⟩;rw[<-hqa] at J S hM0
  refine lV 61 (mV qa) ?_ (hr:=aI (aI (dH (t:=38) (u:=38) (x:=.tmp 59) (y:=.tmp 60) (k:=.u64) (a:=(u32:Int)) (b:=(y1:Int)) kR kR kR oM _) (kl u32 y1 oM)) (by rw[hqa]));refine lL c ac (aG (lL c di (lV 65 (mV (qa*y1)) ?_ (hr:=rU (((qa:Int)*(y1:Int))) kR (jm qa y1 oM)))));obtain ⟨ra,hra⟩:∃ e,e=u32-qa*y1:=⟨_,rfl⟩;rw[<-hra] at J S
  refine lV 66 (mV ra) ?_ (hr:=aI (aI (n:=IntKind.wrap .u64 ((u32:Int)-((qa*y1:Nat):Int))) kR (fE u32 (qa*y1) oM oM)) (by rw[hra]));refine lL c ac (lN (CG.join (fun Γ L=>∃ (l:Nat) (h_:Hp),Γ=[(2,mV Y),(6,uV 0),(7,uV 0),(8,mV s),(9,mV y1),(10,mV y0),(11,mV u32),(13,mV u1),(14,mV u0),(15,mV l)]/\SS w h L h_ [] [] []/\l=(u32*4294967296+u1)/Y/\(u32*4294967296+u1)-l*Y=(u32*4294967296+u1)%Y/\l*Y<=u32*4294967296+u1) ?_ ?_))
  .
   refine kZ ?_;refine bH _ (CG.loop (fun I Γ L=>∃ (q:Nat) (r:Nat) (h_:Hp),I=q/\Γ=[(2,mV Y),(6,uV 0),(7,uV 0),(8,mV s),(9,mV y1),(10,mV y0),(11,mV u32),(13,mV u1),(14,mV u0),(15,mV q),(16,mV r)]/\SS w h L h_ [] [] []/\HalfQ Y y1 y0 u32 u1 q r/\r<4294967296) _ ⟨qa,ra,h5,rfl,rfl,c.to _ _,J,oM⟩ ?_);rintro _ _ w6 ⟨q,r,h7,hm8,rfl,c,O,hr⟩;have bf:=O.qb;refine cQ (aa c ac ?_);cases F:(decide ((4294967296:Int)<=(q:Int)))
   .
    have bb:=oF F;refine lB 68 F (lL c di (lV 72 (mV (q*y0)) ?_ (hr:=rU (((q:Int)*(y0:Int))) kR (jm q y0 (Ff oM oM)))));refine lL c ac (lV 74 (mV (4294967296*r)) ?_ (hr:=rU (((4294967296:Int)*(r:Int))) kR (jm 4294967296 r oM)));refine lL c ac (lV 76 (mV ((4294967296*r)+u1)) ?_ (hr:=rU ((((4294967296*r:Nat):Int)+(u1:Int))) kR (eE (4294967296*r) u1 oM)));cases za:(decide ((((4294967296*r)+u1:Nat):Int)<((q*y0:Nat):Int)))
    .
     have zj:=oF za;refine lB 77 za (lL c [.v qF] (ag (CG.exit ?_)));intro C i;exact ⟨_,⟨q,h7,rfl,c.to _ _,(by first|exact O.fin d oM|exact f.brk d oM oM (by have:=f.qb;omega))⟩,i.to _ kR⟩
    have zj:=oT za;refine lB 77 za (lL c [.v qT] (ak (cK (kZ (aa c ac ?_)))));have hq1:0<q:=by first|omega|exact dU (show 4294967296*r+u1<q*y0 by omega)
    have f:=O.dec d oM B (by first|exact .inl oM|exact .inr oM);refine lV 80 (mV (q-1)) ?_ (hr:=rU (((q:Int)-(1:Int))) kR (fE q 1 oM oM));refine lL c ac (aG (lL c aD (lV 83 (mV (r+y1)) ?_ (hr:=rU (((r:Int)+(y1:Int))) kR (eE r y1 oM)))));refine lL c ac (aG (lL c ac ?_));cases zb:(decide ((4294967296:Int)<=((r+y1:Nat):Int)))
    .
     have zk:=oF zb;refine lB 85 zb (ag (CG.skip ?_));intro C i;refine ⟨_,_,?_,⟨q-1,r+y1,h7,rfl,rfl,c.to _ _,f,oM⟩,i.to _ kR⟩
     omega
    have zk:=oT zb;refine lB 85 zb (ak (CG.exit ?_));intro C i;exact ⟨_,⟨(q-1),h7,rfl,c.to _ _,(by first|exact O.fin d oM|exact f.brk d oM oM (by have:=f.qb;omega))⟩,i.to _ kR⟩
   have bb:=oT F;refine lB 68 F (lL c ac (lG 70 ?_));refine lG 71 (lG 72 (lG 73 (lG 74 (lG 75 (lG 76 (lG 77 (lL c [.v qT] (ak (cK (kZ (aa c ac ?_)))))))))));have hq1:0<q:=by first|omega|exact dU (show 4294967296*r+u1<q*y0 by omega)
   have f:=O.dec d oM B (by first|exact .inl oM|exact .inr oM);refine lV 80 (mV (q-1)) ?_ (hr:=rU (((q:Int)-(1:Int))) kR (fE q 1 oM oM));refine lL c ac (aG (lL c aD (lV 83 (mV (r+y1)) ?_ (hr:=rU (((r:Int)+(y1:Int))) kR (eE r y1 oM)))));refine lL c ac (aG (lL c ac ?_));cases zc:(decide ((4294967296:Int)<=((r+y1:Nat):Int)))
   .
    have zl:=oF zc;refine lB 85 zc (ag (CG.skip ?_));intro C i;refine ⟨_,_,?_,⟨q-1,r+y1,h7,rfl,rfl,c.to _ _,f,oM⟩,i.to _ kR⟩
    omega
   have zl:=oT zc;refine lB 85 zc (ak (CG.exit ?_));intro C i;exact ⟨_,⟨(q-1),h7,rfl,c.to _ _,(by first|exact O.fin d oM|exact f.brk d oM oM (by have:=f.qb;omega))⟩,i.to _ kR⟩
  rintro _ _ ⟨l,zq,rfl,c,hF⟩;refine ax ?_;obtain ⟨Q,hF2,hF3⟩:=hF;have hF4:=pN (u1:=u1) B oM;rw[<-Q] at hF4
  refine lL c ac (lV 87 (mV ((u32*4294967296)%18446744073709551616)) ?_ (hr:=rU (((u32:Int)*(4294967296:Int))) kR (j4 u32 4294967296)));refine lL c ac (lV 89 (mV ((((u32*4294967296)%18446744073709551616)+u1)%18446744073709551616)) ?_ (hr:=rU (((((u32*4294967296)%18446744073709551616:Nat):Int)+(u1:Int))) kR (AI ((u32*4294967296)%18446744073709551616) u1)));refine lL c aD (lV 92 (mV ((l*Y)%18446744073709551616)) ?_ (hr:=rU (((l:Int)*(Y:Int))) kR (j4 l Y)));obtain ⟨r1,hr1⟩:∃ e,e=(u32*4294967296+u1)%Y:=⟨_,rfl⟩;have z:r1<Y:=by rw[hr1];exact LX _ oM
  refine lV 93 (mV r1) ?_ (hr:=aI (aI (n:=IntKind.wrap .u64 ((((((u32*4294967296)%18446744073709551616)+u1)%18446744073709551616:Nat):Int)-(((l*Y)%18446744073709551616:Nat):Int))) kR (kI ((((u32*4294967296)%18446744073709551616)+u1)%18446744073709551616:Nat) ((l*Y)%18446744073709551616) oM)) (by rw[n5 hF3 (hF2.trans hr1.symm) oM]));refine lL c ac (aG (lL c aD ?_));have H:=mE (Y:=Y) (y1:=y1) (y0:=y0) (u:=r1) (u1:=u0) d oM oM oM z;have hS0:=n9 (u:=r1) (y1:=y1) oM;have hL0:=MK r1 y1;obtain ⟨qb,hqb⟩:∃ e,e=r1/y1:=⟨_,rfl⟩;rw[<-hqb] at H hS0 hL0
  refine lV 96 (mV qb) ?_ (hr:=aI (aI (dH (t:=38) (u:=38) (x:=.tmp 94) (y:=.tmp 95) (k:=.u64) (a:=(r1:Int)) (b:=(y1:Int)) kR kR kR oM _) (kl r1 y1 oM)) (by rw[hqb]));refine lL c ac (aG (lL c di (lV 100 (mV (qb*y1)) ?_ (hr:=rU (((qb:Int)*(y1:Int))) kR (jm qb y1 oM)))));obtain ⟨rb,hrb⟩:∃ e,e=r1-qb*y1:=⟨_,rfl⟩;rw[<-hrb] at H hS0
  refine lV 101 (mV rb) ?_ (hr:=aI (aI (n:=IntKind.wrap .u64 ((r1:Int)-((qb*y1:Nat):Int))) kR (fE r1 (qb*y1) oM oM)) (by rw[hrb]));refine lL c ac (lN (CG.join (fun Γ L=>∃ (o:Nat) (h_:Hp),Γ=[(2,mV Y),(6,uV 0),(7,uV 0),(8,mV s),(14,mV u0),(15,mV l),(17,mV r1),(18,mV o)]/\SS w h L h_ [] [] []/\o=(r1*4294967296+u0)/Y/\(r1*4294967296+u0)-o*Y=(r1*4294967296+u0)%Y/\o*Y<=r1*4294967296+u0) ?_ ?_))
  .
   refine kZ ?_;refine bH _ (CG.loop (fun I Γ L=>∃ (p:Nat) (t:Nat) (h_:Hp),I=p/\Γ=[(2,mV Y),(6,uV 0),(7,uV 0),(8,mV s),(9,mV y1),(10,mV y0),(14,mV u0),(15,mV l),(17,mV r1),(18,mV p),(16,mV t)]/\SS w h L h_ [] [] []/\HalfQ Y y1 y0 r1 u0 p t/\t<4294967296) _ ⟨qb,rb,zq,rfl,rfl,c.to _ _,H,oM⟩ ?_);rintro _ _ _ ⟨p,t,X,bm,rfl,c,M,ht⟩;have bn:=M.qb;refine cQ (aa c ac ?_);cases zd:(decide ((4294967296:Int)<=(p:Int)))
   .
    have zm:=oF zd;refine lB 103 zd (lL c di (lV 107 (mV (p*y0)) ?_ (hr:=rU (((p:Int)*(y0:Int))) kR (jm p y0 (Ff oM oM)))));refine lL c ac (lV 109 (mV (4294967296*t)) ?_ (hr:=rU (((4294967296:Int)*(t:Int))) kR (jm 4294967296 t oM)));refine lL c ac (lV 111 (mV ((4294967296*t)+u0)) ?_ (hr:=rU ((((4294967296*t:Nat):Int)+(u0:Int))) kR (eE (4294967296*t) u0 oM)));cases ze:(decide ((((4294967296*t)+u0:Nat):Int)<((p*y0:Nat):Int)))
    .
     have zn:=oF ze;refine lB 112 ze (lL c [.v qF] (ag (CG.exit ?_)));intro C i;exact ⟨_,⟨p,X,rfl,c.to _ _,(by first|exact M.fin d oM|exact j.brk d oM oM (by have:=j.qb;omega))⟩,i.to _ kR⟩
    have zn:=oT ze;refine lB 112 ze (lL c [.v qT] (ak (cK (kZ (aa c ac ?_)))));have hq2:0<p:=by first|omega|exact dU (show 4294967296*t+u0<p*y0 by omega)
    have j:=M.dec d oM z (by first|exact .inl oM|exact .inr oM);refine lV 115 (mV (p-1)) ?_ (hr:=rU (((p:Int)-(1:Int))) kR (fE p 1 oM oM));refine lL c ac (aG (lL c aD (lV 118 (mV (t+y1)) ?_ (hr:=rU (((t:Int)+(y1:Int))) kR (eE t y1 oM)))));refine lL c ac (aG (lL c ac ?_));cases zf:(decide ((4294967296:Int)<=((t+y1:Nat):Int)))
    .
     have zo:=oF zf;refine lB 120 zf (ag (CG.skip ?_));intro C i;refine ⟨_,_,?_,⟨p-1,t+y1,X,rfl,rfl,c.to _ _,j,oM⟩,i.to _ kR⟩
     omega
    have zo:=oT zf;refine lB 120 zf (ak (CG.exit ?_));intro C i;exact ⟨_,⟨(p-1),X,rfl,c.to _ _,(by first|exact M.fin d oM|exact j.brk d oM oM (by have:=j.qb;omega))⟩,i.to _ kR⟩
   have zm:=oT zd;refine lB 103 zd (lL c ac (lG 105 ?_));refine lG 106 (lG 107 (lG 108 (lG 109 (lG 110 (lG 111 (lG 112 (lL c [.v qT] (ak (cK (kZ (aa c ac ?_)))))))))));have hq2:0<p:=by first|omega|exact dU (show 4294967296*t+u0<p*y0 by omega)
   have j:=M.dec d oM z (by first|exact .inl oM|exact .inr oM);refine lV 115 (mV (p-1)) ?_ (hr:=rU (((p:Int)-(1:Int))) kR (fE p 1 oM oM));refine lL c ac (aG (lL c aD (lV 118 (mV (t+y1)) ?_ (hr:=rU (((t:Int)+(y1:Int))) kR (eE t y1 oM)))));refine lL c ac (aG (lL c ac ?_));cases zg:(decide ((4294967296:Int)<=((t+y1:Nat):Int)))
   .
    have zp:=oF zg;refine lB 120 zg (ag (CG.skip ?_));intro C i;refine ⟨_,_,?_,⟨p-1,t+y1,X,rfl,rfl,c.to _ _,j,oM⟩,i.to _ kR⟩
    omega
   have zp:=oT zg;refine lB 120 zg (ak (CG.exit ?_));intro C i;exact ⟨_,⟨(p-1),X,rfl,c.to _ _,(by first|exact M.fin d oM|exact j.brk d oM oM (by have:=j.qb;omega))⟩,i.to _ kR⟩
  rintro _ _ ⟨o,_,rfl,c,hE⟩;refine ax ?_;obtain ⟨W,hE2,hE3⟩:=hE;have hE4:=pN (u1:=u0) z oM;rw[<-W] at hE4
  refine lL c ac (lV 122 (mV (l*4294967296)) ?_ (hr:=rU (((l:Int)*(4294967296:Int))) kR (jm l 4294967296 oM)));refine lL c ac (lV 124 (mV ((l*4294967296)+o)) ?_ (hr:=rU ((((l*4294967296:Nat):Int)+(o:Int))) kR (eE (l*4294967296) o oM)));refine lL c ac (lV 126 (mV ((r1*4294967296)%18446744073709551616)) ?_ (hr:=rU (((r1:Int)*(4294967296:Int))) kR (j4 r1 4294967296)));refine lL c ac (lV 128 (mV ((((r1*4294967296)%18446744073709551616)+u0)%18446744073709551616)) ?_ (hr:=rU (((((r1*4294967296)%18446744073709551616:Nat):Int)+(u0:Int))) kR (AI ((r1*4294967296)%18446744073709551616) u0)));refine lL c aD (lV 131 (mV ((o*Y)%18446744073709551616)) ?_ (hr:=rU (((o:Int)*(Y:Int))) kR (j4 o Y)));obtain ⟨R,hR⟩:∃ e,e=(r1*4294967296+u0)%Y:=⟨_,rfl⟩;have hRY:R<Y:=by rw[hR];exact LX _ oM
  refine lV 132 (mV R) ?_ (hr:=aI (aI (n:=IntKind.wrap .u64 ((((((r1*4294967296)%18446744073709551616)+u0)%18446744073709551616:Nat):Int)-(((o*Y)%18446744073709551616:Nat):Int))) kR (kI ((((r1*4294967296)%18446744073709551616)+u0)%18446744073709551616:Nat) ((o*Y)%18446744073709551616) oM)) (by rw[n5 hE3 (hE2.trans hR.symm) oM]));refine lL c ac (lV 134 (mV (R/2^s)) ?_ (hr:=gI (t:=38) (u:=144) (x:=.tmp 132) (y:=.tmp 133) (ky:=.u64) (a:=R) (n:=s) kR kR kR oM _));refine lL c aD (lN (kX ?_));obtain ⟨hB1,hB2⟩:=vE (A:=hi*18446744073709551616+lo) (y:=y) hY K (show u10=u1*4294967296+u0 by omega) oM Q hr1 W hR;exact c.ret [] (.tuple #[mV ((l*4294967296)+o),mV (R/2^s)]) (⟨_,_,rfl,hB1,hB2,by omega⟩)
 have V:=eq_of_beq D;refine lB 27 D (ak (cQ (cR 6 [] mixed c ao ?_)));refine eV 0 28 (mV lo) (eV 1 29 (mV y) (eV 2 30 (mV (lo/y)) ?_ (hv:=fun _=>aI (dH (t:=38) (u:=38) (x:=.tmp 28) (y:=.tmp 29) (k:=.u64) (a:=(lo:Int)) (b:=(y:Int)) kR kR kR oM _) (kl lo y oM))));refine eV 3 31 (mV lo) (eV 4 32 (mV y) (eV 5 33 (mV (lo%y)) ?_ (hv:=fun _=>aI (ft (t:=38) (u:=38) (x:=.tmp 31) (y:=.tmp 32) (k:=.u64) (a:=(lo:Int)) (b:=(y:Int)) kR kR kR oM _) (dk lo y))));refine bP c (fun _ _ c=>tV 6 6 (mV (lo/y)) (tV 7 7 (mV (lo%y)) (tN (kX ?_))));have hdm:=Mx lo y;have hml:=LX lo (show 0<y by omega);have bk:=LN lo y;have hh0:hi=0:=by omega
 subst hh0;exact c.ret [] (.tuple #[mV (lo/y),mV (lo%y)]) (⟨lo/y,lo%y,rfl,by rw[zZ,Ab];exact hdm.symm,hml,by omega⟩)
def DA (h1:Hp)(v:Value)(m:Nat)(Q:List Nat->Prop):Prop:=∃ A c,∃ z:List Nat,v=.slice A z.length c/\z.length<=c/\z.length=m/\Wd z/\Q z/\SlO 1 aq 0 h1 A z
theorem Wd.set {l:List Nat}(h:Wd l)(k:Nat){x:Nat}(a:x<18446744073709551616):Wd (l.set k x):=Dg.set h k a
theorem Wd.rep (n:Nat):Wd (As n 0):=Dg.rep kD
theorem pQ {l:List Nat}{k j x:Nat}(hk:k<l.length)(h:∀ i,j<=i->l.getD i 0=0)(a:k<j):∀ i,j<=i->(l.set k x).getD i 0=0:=fun i hi=>by rw[bw hk,if_neg oM];exact h i hi
theorem Fk (A:Option Addr)(c:Nat)(x:List Nat)(D:Option Addr)(d:Nat)(y:List Nat)(hx:Wd x)(hy:Wd y)(hlx:x.length<=1000000000)(hly:y.length<=1000000000)(w:World)(h:Hp)(g:G w h)(hA:SlO 1 aq 0 h A x)(hD:SlO 1 aq 0 h D y):CR 203 #[.slice A x.length c,.slice D y.length d] w h (fun v h1=>DA h1 v (x.length+y.length) (fun z=>aA z=aA x*aA y)):=by
 have e:=(((sS g).aS hA).aS hD);refine go Tryz.func203 [(0,qS A x.length c),(1,qS D y.length d)] rfl (aa e ac (aG (lL e [.c,.v (nV x.length),.c,.v (nV y.length)] (bh 19 ((x.length:Nat)+(y.length:Nat)) (x.length+y.length) ?_))));refine lK 20 38 (x.length+y.length) 1 8 (uV 0) aq 0 e (fun u w2 h3 e=>?_);have hl4:(As (x.length+y.length) 0).length=(x.length+y.length):=by simp
 refine lL e ac (ah (aa e [.c,.v (nV x.length),.c] (aY ?_)));refine bH _ (CG.loop (fun L Γ w_=>∃ (i:Nat) (l:List Nat) (C:Hp),L=x.length-i/\Γ=[(1,qS D y.length d),(4,sZ),(5,qS (sB u) (x.length+y.length) (x.length+y.length)),(21,qS A x.length c),(22,nV x.length),(23,nV i)]/\SS w h w_ C [⟨u,38,(l).flatMap aq⟩] [] [fun C=>SlO 1 aq 0 C D y,fun C=>SlO 1 aq 0 C A x]/\i<=x.length/\l.length=x.length+y.length/\Wd l/\aA l=ai 18446744073709551616 (x.take i)*aA y/\(∀ k,i+y.length<=k->l.getD k 0=0)) _ ⟨0,As (x.length+y.length) 0,h3,rfl,rfl,e.to _ _,MG _,hl4,Wd.rep _,(by show ai _ _=_;rw[dM];simp[ai]),fun k _=>ee⟩ ?_);rintro _ _ w5 ⟨i,l,h6,hm7,rfl,e,hi,O,hW,hv,hz⟩;refine ax ?_;cases I:(decide ((i:Int)<(x.length:Int)))
 .
  have V:=oF I;refine lB 24 I (ah (dr (CG.exit ?_)))
  show CG _ _ _ _ _ _ _ _
  refine aa e aD (lN (kX ?_));have Z:i=x.length:=by omega
  rw[Z,y8] at hv
  obtain ⟨h9,e,Q,bq,bz⟩:=e.pub 0;replace e:=(e.to [] []).aS (SlO.of_flat (sz:=1) (f:=aq) (d:=0) (b:=u) (o:=0) (l:=l) (fun _=>rfl) Q);exact e.ret [] (qS (sB u) (x.length+y.length) (x.length+y.length)) (⟨sB u,_,l,by rw[O],by omega,O,hW,hv,e.f.1⟩)
 have V:=oT I;refine lB 24 I (ah (co (cK (cQ (kZ (aa e ac (lX 26 A x.length c 1 (i:Nat) i ((e.f.2.1).ok oM) ?_)))))));refine lH 27 (mV (x.getD i 0)) e ((e.f.2.1).el i oM) (lL e aD (aG (lL e ac (ah (aa e [.c,.v (nV y.length),.c] (aY ?_))))));refine bH _ (CG.loop (fun L Γ w_=>∃ (j:Nat) (l2:List Nat) (F:Nat) (C:Hp),L=y.length-j/\Γ=[(1,qS D y.length d),(4,sZ),(5,qS (sB u) (x.length+y.length) (x.length+y.length)),(21,qS A x.length c),(22,nV x.length),(23,nV i),(6,nV i),(7,mV (x.getD i 0)),(28,qS D y.length d),(29,nV y.length),(30,nV j),(8,mV F)]/\SS w h w_ C [⟨u,38,(l2).flatMap aq⟩] [] [fun C=>SlO 1 aq 0 C D y,fun C=>SlO 1 aq 0 C A x]/\j<=y.length/\l2.length=x.length+y.length/\Wd l2/\F<18446744073709551616/\ai 18446744073709551616 l2+18446744073709551616^(i+j)*F=aA l+18446744073709551616^i*(x.getD i 0*ai 18446744073709551616 (y.take j))/\(∀ k,i+y.length<=k->l2.getD k 0=0)) _ ⟨0,l,0,h6,rfl,rfl,e.to _ _,MG _,O,hW,by omega,(by show ai _ l+_=ai _ l+_;simp[ai]),hz⟩ ?_);rintro _ _ _ ⟨j,l2,F,zi,bm,rfl,e,hj,J,K,hc,inv,M⟩;have hlk:=K.get (i+j);refine ax ?_;cases X:(decide ((j:Int)<(y.length:Int)))
 .
  have zd:=oF X;refine lB 31 X (ah (dr (CG.exit ?_)))
  show CG _ _ _ _ _ _ _ _
  refine kQ (lL e [.c,.c,.c,.v (nV y.length)] (bh 75 ((i:Nat)+(y.length:Nat)) (i+y.length) ?_));refine lL e ac (lX 77 (sB u) (x.length+y.length) (x.length+y.length) 1 (i+y.length:Nat) (i+y.length) rfl ?_);refine lW 0 l2 aq 1 (i+y.length) F e oM (fun _ e=>?_);have zf:((l2).set (i+y.length) F).length=(x.length+y.length):=by rw[LB];exact J
  replace e:=e.to [⟨u,38,((l2).set (i+y.length) F).flatMap aq⟩] [];refine lN (kQ (bh 78 ((i:Nat)+1) (i+1) ?_));refine lL e ac (lD ?_);intro a_ Y;refine ⟨_,_,?_,⟨i+1,(l2).set (i+y.length) F,zi,rfl,rfl,e.to _ _,oM,zf,(K.set _ hc),(by have hjy:j=y.length:=oM;rw[hjy] at inv;exact (ut oM inv (M _ oM)).trans (ux hv)),(pQ oM (fun k hk=>M k oM) oM)⟩,Y.to _ kR⟩
  omega
 have zd:=oT X;refine lB 31 X (ah (co (cK (cQ (kZ (aa e ac (lX 33 D y.length d 1 (j:Nat) j ((e.f.1).ok oM) ?_)))))));refine lH 34 (mV (y.getD j 0)) e ((e.f.1).el j oM) (lL e aD (aG (lL e aD (lC 38 e (ol (x.getD i 0) (y.getD j 0) wM wM _ _ e.g) ?_))));rintro _ _ zj e ⟨p,ze,rfl,b0,bn,bb,bk⟩;have W:=jN (a:=(x.getD i 0)) (b:=(y.getD j 0)) wM wM;refine lL e [.c,.v (mV p),.v (mV ze),.c,.c] (aG (lL e pd (bh 46 ((i:Nat)+(j:Nat)) (i+j) ?_)));refine lX 47 (sB u) (x.length+y.length) (x.length+y.length) 1 (i+j:Nat) (i+j) rfl (lQ 48 0 l2 aq 1 0 (i+j) (mV ((l2).getD (i+j) 0)) e oM ?_);obtain ⟨H,za,br,bt,bf,U⟩:=eW ze ((l2).getD (i+j) 0) 0 wM wM oM;refine lV 49 (.tuple #[mV H,mV za]) ?_ (hr:=d8 kR (U _));refine lL e [.c,.v (mV H),.v (mV za),.c,.c] (aG (lL e aD (lV 54 (mV (p+za)) ?_ (hr:=rU (((p:Int)+(za:Int))) kR (eE p za oM)))));refine lL e ac (lN (bH [(1,qS D y.length d),(4,sZ),(5,qS (sB u) (x.length+y.length) (x.length+y.length)),(21,qS A x.length c),(22,nV x.length),(23,nV i),(6,nV i),(7,mV (x.getD i 0)),(28,qS D y.length d),(29,nV y.length),(30,nV j),(8,mV F),(9,nV j),(11,mV (p+za)),(13,mV H),(14,mV za)] ?_));refine aa e aD ?_;obtain ⟨B,zb,bx,bl,bd,S⟩:=eW H F 0 wM wM oM;refine lV 58 (.tuple #[mV B,mV zb]) ?_ (hr:=d8 kR (S _));refine lL e [.c,.v (mV B),.v (mV zb),.c,.c] (lN (kQ (lL e di (bh 64 ((i:Nat)+(j:Nat)) (i+j) ?_))));refine lL e di (lV 68 (mV ((p+za)+zb)) ?_ (hr:=rU ((((p+za:Nat):Int)+(zb:Int))) kR (eE (p+za) zb oM)));refine lX 69 (sB u) (x.length+y.length) (x.length+y.length) 1 (i+j:Nat) (i+j) rfl (lW 0 l2 aq 1 (i+j) B e oM (fun _ e=>?_));have zg:((l2).set (i+j) B).length=(x.length+y.length):=by rw[LB];exact J
 replace e:=e.to [⟨u,38,((l2).set (i+j) B).flatMap aq⟩] [];refine lL e ac (lN (kQ (bh 70 ((j:Nat)+1) (j+1) ?_)));refine lL e ac (lD ?_);intro a_ Y;refine ⟨_,_,?_,⟨j+1,(l2).set (i+j) B,((p+za)+zb),zj,rfl,rfl,e.to _ _,oM,zg,(K.set _ oM),oM,(mi oM inv oM),(pQ oM M oM)⟩,Y.to _ kR⟩
 omega
theorem DL {x:List Nat}(a:Wd x){n:Nat}(h:x.length<=n/64):aA x<2^n:=by
 have h1:=bL a;have b:(18446744073709551616:Nat)^x.length=2^(64*x.length):=by rw[Nat.pow_mul]
 have c:(2:Nat)^(64*x.length)<=2^n:=L3 oM oM
 show ai _ x<_
 omega
theorem od {l:List Nat}{k x:Nat}(hk:k<l.length)(h:∀ i,k<=i->l.getD i 0=0):∀ i,k+1<=i->(l.set k x).getD i 0=0:=fun i hi=>by rw[bw hk,if_neg oM];exact h i oM
theorem wG (A:Option Addr)(c:Nat)(x:List Nat)(hx:Wd x)(Y:x.length<=1000000000)(n:Nat)(hn:n<=1000000000)(w:World)(h:Hp)(g:G w h)(hA:SlO 1 aq 0 h A x):CR 206 #[.slice A x.length c,nV n] w h (fun v h1=>DA h1 v (x.length+n/64+1) (fun z=>aA z=aA x*2^n)):=by
 have e:=((sS g).aS hA);refine go Tryz.func206 [(0,qS A x.length c),(1,nV n)] rfl (aa e ac (aG (lL e ac (lV 11 (nV (n/64)) ?_ (hr:=aI (dH (t:=3) (u:=3) (x:=.tmp 10) (y:=.const (iV 64)) (k:=.i64) (a:=(n:Int)) (b:=(64:Int)) kR kR kR oM _) (dE n 64 oM))))));refine lL e ac (lV 13 (nV (n%64)) ?_ (hr:=aI (ft (t:=3) (u:=3) (x:=.tmp 12) (y:=.const (iV 64)) (k:=.i64) (a:=(n:Int)) (b:=(64:Int)) kR kR kR oM _) (dk n 64)));refine lV 14 (mV (n%64)) ?_ (hr:=rU (((n%64:Nat):Int)) kR (a8 oM oM));refine lL e aD (aG (lL e [.c,.v (nV x.length),.c] (bh 18 ((x.length:Nat)+(n/64:Nat)) (x.length+(n/64)) ?_)));refine bh 19 ((x.length+(n/64):Nat)+1) ((x.length+(n/64))+1) (lK 20 38 ((x.length+(n/64))+1:Nat) 1 8 (uV 0) aq 0 e (fun j w2 h3 e=>?_));have H:(As ((x.length+(n/64))+1:Nat) 0).length=((x.length+(n/64))+1:Nat):=by simp
 refine lL e ac (ah (aa e [.c,.v (nV x.length),.c] (aY ?_)));refine bH _ (CG.loop (fun S Γ X=>∃ (i:Nat) (l:List Nat) (J:Hp),S=x.length-i/\Γ=[(4,sZ),(5,nV (n/64)),(6,mV (n%64)),(7,qS (sB j) ((x.length+(n/64))+1:Nat) ((x.length+(n/64))+1:Nat)),(21,qS A x.length c),(22,nV x.length),(23,nV i)]/\SS w h X J [⟨j,38,(l).flatMap aq⟩] [] [fun J=>SlO 1 aq 0 J A x]/\i<=x.length/\l.length=x.length+n/64+1/\Wd l/\aA l=2^(n%64)*(18446744073709551616^(n/64)*ai 18446744073709551616 (x.take i))/\l.getD (i+n/64) 0<2^(n%64)/\(∀ k,i+n/64+1<=k->l.getD k 0=0)) _ ⟨0,As ((x.length+(n/64))+1:Nat) 0,h3,rfl,rfl,e.to _ _,MG _,H,Wd.rep _,(by show ai _ _=_;rw[dM];simp[ai]),(by rw[ee];exact Mc _),fun k _=>ee⟩ ?_);rintro _ _ w5 ⟨i,l,Z,hm7,rfl,e,hi,C,U,hv,ho,hz⟩;refine ax ?_;cases B:(decide ((i:Int)<(x.length:Int)))
 .
  have F:=oF B;refine lB 24 B (ah (dr (CG.exit ?_)))
  show CG _ _ _ _ _ _ _ _
  refine aa e aD (lN (kX ?_));have Q:i=x.length:=by omega
  rw[Q,y8] at hv
  obtain ⟨h9,e,D,V,W⟩:=e.pub 0;replace e:=(e.to [] []).aS (SlO.of_flat (sz:=1) (f:=aq) (d:=0) (b:=j) (o:=0) (l:=l) (fun _=>rfl) D);exact e.ret [] (qS (sB j) ((x.length+(n/64))+1:Nat) ((x.length+(n/64))+1:Nat)) (⟨sB j,_,l,by rw[C],by omega,C,U,(by show aA l=_;rw[hv,Bu n];show _*(_*aA x)=_;ac_rfl),e.f.1⟩)
 have F:=oT B;refine lB 24 B (ah (co (cK (cQ (kZ (aa e ac (lX 26 A x.length c 1 (i:Nat) i ((e.f.1).ok oM) ?_)))))));refine lH 27 (mV (x.getD i 0)) e ((e.f.1).el i oM) (lL e aD (aG (lL e di (bh 31 ((i:Nat)+(n/64:Nat)) (i+(n/64)) ?_))));refine lX 32 (sB j) ((x.length+(n/64))+1:Nat) ((x.length+(n/64))+1:Nat) 1 (i+(n/64):Nat) (i+(n/64)) rfl (lQ 33 0 l aq 1 0 (i+(n/64)) (mV ((l).getD (i+(n/64)) 0)) e oM (lL e aD (lV 36 (mV ((x.getD i 0)*2^(n%64)%18446744073709551616)) ?_ (hr:=g9 (t:=38) (u:=144) (x:=.tmp 34) (y:=.tmp 35) (ky:=.u64) (a:=(x.getD i 0)) (n:=(n%64)) kR kR kR _))));have L:=hx.get i;obtain ⟨M,I,O,K⟩:=AZ (x:=x.getD i 0) (p:=n%64) (o:=l.getD (i+n/64) 0) oM L ho;have hlg:=U.get (i+n/64);refine lV 37 (mV (l.getD (i+n/64) 0+x.getD i 0*2^(n%64)%18446744073709551616)) ?_ (hr:=aI (iw (t:=38) (u:=38) (x:=.tmp 33) (y:=.tmp 36) (a:=((l).getD (i+(n/64)) 0:Nat)) (b:=((x.getD i 0)*2^(n%64)%18446744073709551616)) kR kR kR oM oM _) (by rw[M]));refine lX 38 (sB j) ((x.length+(n/64))+1:Nat) ((x.length+(n/64))+1:Nat) 1 (i+(n/64):Nat) (i+(n/64)) rfl (lW 0 l aq 1 (i+(n/64)) (l.getD (i+n/64) 0+x.getD i 0*2^(n%64)%18446744073709551616) e oM (fun _ e=>?_));have za:((l).set (i+(n/64)) (l.getD (i+n/64) 0+x.getD i 0*2^(n%64)%18446744073709551616)).length=((x.length+(n/64))+1:Nat):=by rw[LB];exact C
 replace e:=e.to [⟨j,38,((l).set (i+(n/64)) (l.getD (i+n/64) 0+x.getD i 0*2^(n%64)%18446744073709551616)).flatMap aq⟩] [];refine lN (kQ (lL e di (bh 42 ((i:Nat)+(n/64:Nat)) (i+(n/64)) ?_)));refine bh 43 ((i+(n/64):Nat)+1) ((i+(n/64))+1) (lL e aD (lV 46 (mV (64-(n%64))) ?_ (hr:=rU (((64:Int)-((n%64:Nat):Int))) kR (fE 64 (n%64) oM oM))));refine lV 47 (mV ((x.getD i 0)/2^(64-(n%64)))) ?_ (hr:=gI (t:=38) (u:=144) (x:=.tmp 44) (y:=.tmp 46) (ky:=.u64) (a:=(x.getD i 0)) (n:=(64-(n%64))) kR kR kR oM _);refine lX 48 (sB j) ((x.length+(n/64))+1:Nat) ((x.length+(n/64))+1:Nat) 1 ((i+(n/64))+1:Nat) ((i+(n/64))+1:Nat) rfl (lW 0 ((l).set (i+(n/64)) (l.getD (i+n/64) 0+x.getD i 0*2^(n%64)%18446744073709551616)) aq 1 ((i+(n/64))+1:Nat) ((x.getD i 0)/2^(64-(n%64)):Nat) e oM (fun _ e=>?_));have zb:(((l).set (i+(n/64)) (l.getD (i+n/64) 0+x.getD i 0*2^(n%64)%18446744073709551616)).set ((i+(n/64))+1:Nat) ((x.getD i 0)/2^(64-(n%64)):Nat)).length=((x.length+(n/64))+1:Nat):=by rw[LB];exact za
 replace e:=e.to [⟨j,38,(((l).set (i+(n/64)) (l.getD (i+n/64) 0+x.getD i 0*2^(n%64)%18446744073709551616)).set ((i+(n/64))+1:Nat) ((x.getD i 0)/2^(64-(n%64)):Nat)).flatMap aq⟩] [];refine lN (kQ (bh 49 ((i:Nat)+1) (i+1) ?_));refine lL e ac (lD ?_);intro a_ ka;refine ⟨_,_,?_,⟨i+1,((l).set (i+(n/64)) (l.getD (i+n/64) 0+x.getD i 0*2^(n%64)%18446744073709551616)).set ((i+(n/64))+1:Nat) ((x.getD i 0)/2^(64-(n%64)):Nat),Z,rfl,rfl,e.to _ _,oM,zb,((U.set _ I).set _ (by have:=LN (x.getD i 0) (2^(64-n%64));omega)),(AB oM hv (hz _ oM) O rfl rfl),(by rw[show i+1+n/64=i+n/64+1 by omega,bw (by rw[LB];omega),if_pos rfl];exact K),(fun k hk=>by rw[bw (by rw[LB];omega),if_neg oM,bw oM,if_neg oM];exact hz k oM)⟩,ka.to _ kR⟩
 omega
theorem JF (A:Option Addr)(c:Nat)(x:List Nat)(V:Wd x)(hlx:x.length<=1000000000)(n:Nat)(hn:n<=1000000000)(w:World)(h:Hp)(g:G w h)(hA:SlO 1 aq 0 h A x):CR 210 #[.slice A x.length c,nV n] w h (fun v h1=>DA h1 v (x.length-n/64) (fun z=>aA z=aA x/2^n)):=by
 have e:=((sS g).aS hA);refine go Tryz.func210 [(0,qS A x.length c),(1,nV n)] rfl (aa e ac (aG (lL e ac (lV 10 (nV (n/64)) ?_ (hr:=aI (dH (t:=3) (u:=3) (x:=.tmp 9) (y:=.const (iV 64)) (k:=.i64) (a:=(n:Int)) (b:=(64:Int)) kR kR kR oM _) (dE n 64 oM))))));refine lL e ac (lV 12 (nV (n%64)) ?_ (hr:=aI (ft (t:=3) (u:=3) (x:=.tmp 11) (y:=.const (iV 64)) (k:=.i64) (a:=(n:Int)) (b:=(64:Int)) kR kR kR oM _) (dk n 64)));refine lV 13 (mV (n%64)) ?_ (hr:=rU (((n%64:Nat):Int)) kR (a8 oM oM));refine lL e aD (ah (aa e [.c,.c,.v (nV x.length)] ?_));cases C:(decide ((x.length:Int)<=((n/64:Nat):Int)))
 .
  have F:=oF C;refine lB 17 C (ag (cK (aa e [.c,.v (nV x.length),.c] (bh 21 ((x.length:Nat)-(n/64:Nat)) (x.length-(n/64)) ?_))));refine lK 22 38 (x.length-(n/64)) 1 8 (uV 0) aq 0 e (fun B w3 h4 e=>?_);have Z:(As (x.length-(n/64)) 0).length=(x.length-(n/64)):=by simp
  refine lL e ac (ah (aa e [.c,.v (nV (x.length-(n/64))),.c] (aY ?_)));refine bH _ (CG.loop (fun X Γ w_=>∃ (i:Nat) (l:List Nat) (M:Hp),X=x.length-n/64-i/\Γ=[(0,qS A x.length c),(4,sZ),(5,nV (n/64)),(6,mV (n%64)),(7,qS (sB B) (x.length-(n/64)) (x.length-(n/64))),(24,nV (x.length-(n/64))),(25,nV i)]/\SS w h w_ M [⟨B,38,(l).flatMap aq⟩] [] [fun M=>SlO 1 aq 0 M A x]/\i<=x.length-n/64/\l.length=x.length-n/64/\Wd l/\2^(n%64)*ai 18446744073709551616 l+(x.drop (n/64)).getD 0 0%2^(n%64)=ai 18446744073709551616 ((x.drop (n/64)).take i)+18446744073709551616^i*((x.drop (n/64)).getD i 0%2^(n%64))/\(∀ k,i<=k->l.getD k 0=0)) _ ⟨0,As (x.length-(n/64)) 0,h4,rfl,rfl,e.to _ _,MG _,Z,Wd.rep _,(by rw[dM];simp[ai]),fun k _=>ee⟩ ?_);rintro _ _ w6 ⟨i,l,h7,hm8,rfl,e,hi,I,Y,inv,hz⟩;refine ax ?_;cases D:(decide ((i:Int)<(((x.length-(n/64)):Nat):Int)))
  .
   have J:=oF D;refine lB 26 D (ah (dr (CG.exit ?_)))
   show CG _ _ _ _ _ _ _ _
   refine aa e aD (lN (kX ?_));have hix:i=x.length-n/64:=by omega
   have hE:=Dn (W:=x.drop (n/64)) (m:=i) (by rw[Mq];omega) inv;rw[nF V oM,Nat.div_div_eq_div_mul,<-Bu n] at hE
   obtain ⟨_,e,H,bd,bb⟩:=e.pub 0;replace e:=(e.to [] []).aS (SlO.of_flat (sz:=1) (f:=aq) (d:=0) (b:=B) (o:=0) (l:=l) (fun _=>rfl) H);exact e.ret [] (qS (sB B) (x.length-(n/64)) (x.length-(n/64))) (⟨sB B,_,l,by rw[I],by omega,by omega,Y,hE,e.f.1⟩)
  have J:=oT D;refine lB 26 D (ah (co (cK (cQ (kZ (aa e aD (aG (lL e Jp (bh 33 ((i:Nat)+(n/64:Nat)) (i+(n/64)) ?_)))))))));refine lX 34 A x.length c 1 (i+(n/64):Nat) (i+(n/64)) ((e.f.1).ok oM) (lH 35 (mV (x.getD (i+(n/64)) 0)) e ((e.f.1).el (i+(n/64)) oM) (lL e ac ?_));have O:=V.get (i+n/64);refine lV 37 (mV ((x.getD (i+(n/64)) 0:Nat)/2^(n%64))) ?_ (hr:=gI (t:=38) (u:=144) (x:=.tmp 35) (y:=.tmp 36) (ky:=.u64) (a:=(x.getD (i+(n/64)) 0:Nat)) (n:=(n%64)) kR kR kR oM _);refine lX 38 (sB B) (x.length-(n/64)) (x.length-(n/64)) 1 (i:Nat) i rfl (lW 0 l aq 1 i ((x.getD (i+(n/64)) 0:Nat)/2^(n%64):Nat) e oM (fun _ e=>?_));have zb:((l).set i ((x.getD (i+(n/64)) 0:Nat)/2^(n%64):Nat)).length=(x.length-(n/64)):=by rw[LB];exact I
  replace e:=e.to [⟨B,38,((l).set i ((x.getD (i+(n/64)) 0:Nat)/2^(n%64):Nat)).flatMap aq⟩] [];refine aG (lL e aD (bh 41 ((i:Nat)+(n/64:Nat)) (i+(n/64)) ?_));refine bh 42 ((i+(n/64):Nat)+1) ((i+(n/64))+1) (lL e [.c,.v (nV x.length)] ?_);cases za:(decide ((((i+(n/64))+1:Nat):Int)<(x.length:Int)))
  .
   have zc:=oF za;refine lB 45 za (ag (cK (kQ (bh 62 ((i:Nat)+1) (i+1) ?_))));refine lL e ac (lD ?_);intro a_ U;refine ⟨_,_,?_,⟨i+1,(l).set i ((x.getD (i+(n/64)) 0:Nat)/2^(n%64):Nat),h7,rfl,rfl,e.to _ _,oM,zb,(Y.set _ (by have:=LN (x.getD (i+n/64) 0) (2^(n%64));omega)),(p9 oM inv (hz _ (nR _)) (by rw[bC,bC,show n/64+i=i+n/64 by omega,cn (show x.length<=n/64+(i+1) by omega),Nat.zero_mod,Mj,y5];exact Mx _ _)),(od oM hz)⟩,U.to _ kR⟩
   omega
  have zc:=oT za;refine lB 45 za (ak (cR 15 [] mixed e ao ?_));refine eV 0 46 (qS (sB B) (x.length-(n/64)) (x.length-(n/64))) (eV 1 47 (nV i) (eX 2 48 (sB B) (x.length-(n/64)) (x.length-(n/64)) 1 (i:Nat) i rfl (eQ 3 49 0 ((l).set i ((x.getD (i+(n/64)) 0:Nat)/2^(n%64):Nat)) aq 1 0 i (mV (((l).set i ((x.getD (i+(n/64)) 0:Nat)/2^(n%64):Nat)).getD i 0)) e oM (eV 4 50 (qS A x.length c) (eV 5 51 (nV i) (eV 6 52 (nV (n/64)) (jX 7 53 ((i:Nat)+(n/64:Nat)) (i+(n/64)) (jX 8 54 ((i+(n/64):Nat)+1) ((i+(n/64))+1) (eX 9 55 A x.length c 1 ((i+(n/64))+1:Nat) ((i+(n/64))+1:Nat) ((e.f.1).ok oM) (eH 10 56 (mV (x.getD ((i+(n/64))+1:Nat) 0)) e ((e.f.1).el ((i+(n/64))+1:Nat) oM) (eV 11 57 (mV (n%64)) (eV 12 58 (mV (64-(n%64))) ?_ (hv:=fun _=>rU (((64:Int)-((n%64:Nat):Int))) kR (fE 64 (n%64) oM oM))))))))))))));refine eV 13 59 (mV ((x.getD ((i+(n/64))+1:Nat) 0:Nat)*2^(64-(n%64))%18446744073709551616)) ?_ (hv:=fun _=>g9 (t:=38) (u:=144) (x:=.tmp 56) (y:=.tmp 58) (ky:=.u64) (a:=(x.getD ((i+(n/64))+1:Nat) 0:Nat)) (n:=(64-(n%64))) kR kR kR _);obtain ⟨Q,L,S⟩:=pF (x:=x.getD (i+n/64) 0) (y:=x.getD (i+n/64+1) 0) (p:=n%64) oM O;have hdv:=LN (x.getD (i+n/64) 0) (2^(n%64));have K:=bw (l:=l) (k:=i) (j:=i) (x:=x.getD (i+n/64) 0/2^(n%64)) oM;rw[if_pos rfl] at K
  refine eV 14 60 (mV (x.getD (i+n/64) 0/2^(n%64)+x.getD (i+n/64+1) 0*2^(64-n%64)%18446744073709551616)) ?_ (hv:=fun _=>aI (iw (t:=38) (u:=38) (x:=.tmp 49) (y:=.tmp 59) (a:=(((l).set i ((x.getD (i+(n/64)) 0:Nat)/2^(n%64):Nat)).getD i 0:Nat)) (b:=((x.getD ((i+(n/64))+1:Nat) 0:Nat)*2^(64-(n%64))%18446744073709551616:Nat)) kR kR kR oM oM _) (by rw[K,Q]));refine bP e (fun _ ze e=>tX 15 61 (sB B) (x.length-(n/64)) (x.length-(n/64)) 1 (i:Nat) i rfl (tW 16 0 ((l).set i ((x.getD (i+(n/64)) 0:Nat)/2^(n%64):Nat)) aq 1 i (x.getD (i+n/64) 0/2^(n%64)+x.getD (i+n/64+1) 0*2^(64-n%64)%18446744073709551616) e oM (fun _ e=>?_)));have zd:(((l).set i ((x.getD (i+(n/64)) 0:Nat)/2^(n%64):Nat)).set i (x.getD (i+n/64) 0/2^(n%64)+x.getD (i+n/64+1) 0*2^(64-n%64)%18446744073709551616)).length=(x.length-(n/64)):=by rw[LB];exact zb
  replace e:=e.to [⟨B,38,(((l).set i ((x.getD (i+(n/64)) 0:Nat)/2^(n%64):Nat)).set i (x.getD (i+n/64) 0/2^(n%64)+x.getD (i+n/64+1) 0*2^(64-n%64)%18446744073709551616)).flatMap aq⟩] [];refine tN (bH [(0,qS A x.length c),(4,sZ),(5,nV (n/64)),(6,mV (n%64)),(7,qS (sB B) (x.length-(n/64)) (x.length-(n/64))),(24,nV (x.length-(n/64))),(25,nV i)] ?_);refine kQ (bh 62 ((i:Nat)+1) (i+1) ?_);refine lL e ac (lD ?_);intro a_ U;refine ⟨_,_,?_,⟨i+1,((l).set i ((x.getD (i+(n/64)) 0:Nat)/2^(n%64):Nat)).set i (x.getD (i+n/64) 0/2^(n%64)+x.getD (i+n/64+1) 0*2^(64-n%64)%18446744073709551616),ze,rfl,rfl,e.to _ _,oM,zd,((Y.set _ oM).set _ L),(by rw[MZ];exact p9 oM inv (hz _ (nR _)) (by rw[bC,bC,show n/64+i=i+n/64 by omega,show n/64+(i+1)=i+n/64+1 by omega];exact S)),(by rw[MZ];exact od oM hz)⟩,U.to _ kR⟩
  omega
 have F:=oT C;exact lB 17 C (ak (aa e ac (ae e [] (sZ) (⟨none,0,[],rfl,by simp,by simp;omega,Dg.nil,(by show 0=_;exact (LP (DL V oM)).symm),SlO.nil⟩))))
theorem Km {a b:Nat}(ha:a<18446744073709551616)(d:b<18446744073709551616):a*b<=340282366920938463426481119284349108225:=by
 have h1:a<=18446744073709551615:=by omega
 have c:b<=18446744073709551615:=by omega
 exact Nat.mul_le_mul h1 c
def w3 (u2 u1 u0:Nat):Nat:=18446744073709551616*(18446744073709551616*u2+u1)+u0
def w2 (v1 v0:Nat):Nat:=18446744073709551616*v1+v0
structure Gss (u2 u1 u0 v1 v0 g r o:Nat):Prop where
  e:g*v1+(r+18446744073709551616*o)=18446744073709551616*u2+u1
  lt:g+1=18446744073709551616\/w3 u2 u1 u0<(g+1)*w2 v1 v0
  gb:g<18446744073709551616
def Cz (u2 u1 u0 v1 v0 g:Nat):Prop:=g*w2 v1 v0<=w3 u2 u1 u0/\(g+1=18446744073709551616\/w3 u2 u1 u0<(g+1)*w2 v1 v0)/\g<18446744073709551616
theorem gv {g a b:Nat}:g*w2 a b=18446744073709551616*(g*a)+g*b:=by unfold w2;rw[Mg,Nat.mul_left_comm]
theorem Gss.fin {d u1 b c a g r o:Nat}(h:Gss d u1 b c a g r o)(ht:g*a<=18446744073709551616*(r+18446744073709551616*o)+b):Cz d u1 b c a g:=by
 refine ⟨?_,h.lt,h.gb⟩;rw[gv]
 unfold w3
 rw[<-h.e,Mg]
 omega
theorem Gss.over {c u1 d b a g r o:Nat}(h:Gss c u1 d b a g r o)(e:0<o)(h0:a<18446744073709551616):Cz c u1 d b a g:=by
 refine h.fin ?_;have h1:=Km h.gb h0
 omega
theorem Gss.dec {d u1 b a c g r f o':Nat}(h:Gss d u1 b a c g r 0)(ht:18446744073709551616*r+b<g*c)(e:f+18446744073709551616*o'=r+a):0<g/\Gss d u1 b a c (g-1) f o':=by
 have i:0<g:=dU ht;obtain ⟨p,rfl⟩:∃ p,g=p+1:=⟨g-1,by omega⟩;have e1:=h.e;rw[Mj,y5] at e1
 have h1:w3 d u1 b<(p+1)*w2 a c:=by
  rw[gv]
  unfold w3
  rw[<-e1,Mg]
  omega
 have e2:(p+1)*a=p*a+a:=by rw[LI,Mw]
 rw[My];exact ⟨i,⟨by omega,Or.inr h1,by have:=h.gb;omega⟩⟩
theorem Ec {b u1 d a c r o:Nat}(h:b=a)(e:r+18446744073709551616*o=u1+a):Gss b u1 d a c 18446744073709551615 r o:=by
 subst h;exact ⟨by omega,.inl rfl,by decide⟩
theorem Dq {b u1 d a c q r:Nat}(e:b*18446744073709551616+u1=a*q+r)(hr:r<a)(h0:d<18446744073709551616)(hq:q<18446744073709551616):Gss b u1 d a c q r 0:=by
 rw[LC b] at e
 refine ⟨by rw[LC q];omega,.inr ?_,hq⟩;rw[gv,LI q 1 a,Mw,LC q a]
 unfold w3
 rw[e]
 have h1:18446744073709551616*(a*q+r)+18446744073709551616<=18446744073709551616*(a*q+a):=by
  rw[<-Nat.mul_succ];exact LW _ oM
 have f:0<=(q+1)*c:=MG _
 omega
theorem Hu (u u1 j f i:Nat)(h0:u<18446744073709551616)(h1:u1<18446744073709551616)(h2:j<18446744073709551616)(h3:f<18446744073709551616)(h4:i<18446744073709551616)(hle:u<=f)(hv:0<f)(w:World)(h:Hp)(g:G w h):CR 207 #[mV u,mV u1,mV j,mV f,mV i] w h (fun v _=>∃ g:Nat,v=mV g/\Cz u u1 j f i g):=by
 have d:=sS g;refine go Tryz.func207 [(0,mV u),(1,mV u1),(2,mV j),(3,mV f),(4,mV i)] rfl ?_;refine aa d ac (aG (lL d di (lN (CG.join (fun Γ w_=>∃ (S:Nat) (J:Nat) (H:Nat) (h_:Hp),Γ=[(2,mV j),(3,mV f),(4,mV i),(10,uV 0),(11,mV S),(12,mV J),(13,mV H)]/\SS w h w_ h_ [] [] []/\Gss u u1 j f i S J H/\J<18446744073709551616/\H<=1) ?_ ?_))))
 .
  refine aa d aD ?_;cases p:((u:Int) == (f:Int))
  .
   have L:=aj p;refine lB 18 p (ag (kQ (lL d di (lC 29 d (A3 u u1 f oM wM wM _ _ d.g) ?_))));rintro _ w7 h8 d ⟨q2,r3,rfl,he4,hl5,hm6⟩;refine lL d [.c,.v (mV q2),.v (mV r3),.c,.c] (lD ?_);intro V x;exact ⟨_,⟨q2,r3,0,h8,rfl,d.to _ _,(Dq oM oM h2 oM),oM,oM⟩,x.to _ kR⟩
  have L:=eq_of_beq p;refine lB 18 p (ak (aa d ac (lN (kQ (lL d aD ?_)))));obtain ⟨y,W,bz,bk,bl,D⟩:=eW u1 f 0 wM wM oM;refine lV 22 (.tuple #[mV y,mV W]) ?_ (hr:=d8 kR (D _));refine lL d [.c,.v (mV y),.v (mV W),.c,.c] (lD ?_);intro V x;exact ⟨_,⟨18446744073709551615,y,W,h,rfl,d.to _ _,(Ec oM oM),oM,oM⟩,x.to _ kR⟩
 rintro _ _ ⟨S,J,H,zo,rfl,d,X,U,I⟩;refine cQ (kZ ?_);refine bH _ (CG.loop (fun Y Γ w_=>∃ (g:Nat) (r:Nat) (o:Nat) (h_:Hp),Y=g/\Γ=[(2,mV j),(3,mV f),(4,mV i),(10,uV 0),(11,mV g),(12,mV r),(13,mV o)]/\SS w h w_ h_ [] [] []/\Gss u u1 j f i g r o/\r<18446744073709551616/\o<=1) _ ⟨S,J,H,zo,rfl,rfl,d.to _ _,X,U,I⟩ ?_);rintro _ _ _ ⟨g,r,o,_,br,rfl,d,e,hr,hov⟩;have hgl:=e.gb;refine cQ (aa d ac ?_);cases za:((o:Int) == (0:Int))
 .
  have zi:=aj za;refine lB 33 za (ag (CG.exit ?_))
  show CG _ _ _ _ _ _ _ _
  exact aa d aD (ae d [] (mV g) (⟨g,rfl,(by first|exact e.over oM h4|(rw[show o=0 by omega] at e;exact e.fin oM))⟩))
 have zi:=eq_of_beq za;refine lB 33 za (ak (cK (kZ (aa d aD (lC 37 d (ol g i wM wM _ _ d.g) ?_)))));rintro _ _ zm d ⟨C,zn,rfl,bt,bm,b0,bb⟩;have O:=jN (a:=g) (b:=i) wM wM;refine lL d [.c,.v (mV C),.v (mV zn),.c,.c] (ah (aa d aD ?_));cases zb:(decide ((C:Int)<(r:Int)))
 .
  have zj:=oF zb;refine lB 42 zb (lL d di ?_);cases M:((C:Int) == (r:Int))
  .
   have zk:=aj M;refine lB 46 M (lL d ac (lG 48 ?_));refine lG 49 (lG 50 (lL d [.v qF,.v qF] (ag (cK (ax ?_)))));have l:18446744073709551616*r+j<g*i:=by omega
   rw[show o=0 by omega] at e
   have hg0:=dU l;have Z:=e.gb;refine lL d ac (lV 54 (mV (g-1)) ?_ (hr:=rU (((g:Int)-(1:Int))) kR (fE g 1 oM oM)));refine lL d ac (lN (kQ (lL d aD ?_)));obtain ⟨z,zf,bq,bf,bn,K⟩:=eW r f 0 wM wM oM;refine lV 58 (.tuple #[mV z,mV zf]) ?_ (hr:=d8 kR (K _));refine lL d [.c,.v (mV z),.v (mV zf),.c,.c] (lD ?_);intro V x;refine ⟨_,_,?_,⟨g-1,z,zf,zm,rfl,rfl,d.to _ _,((e.dec l oM).2),oM,oM⟩,x.to _ kR⟩
   omega
  have zk:=eq_of_beq M;refine lB 46 M (lL d di ?_);cases Q:(decide ((zn:Int)<=(j:Int)))
  .
   have zl:=oF Q;refine lB 50 Q (lL d [.v qF,.v qF] (ag (cK (ax ?_))));have l:18446744073709551616*r+j<g*i:=by omega
   rw[show o=0 by omega] at e
   have hg0:=dU l;have Z:=e.gb;refine lL d ac (lV 54 (mV (g-1)) ?_ (hr:=rU (((g:Int)-(1:Int))) kR (fE g 1 oM oM)));refine lL d ac (lN (kQ (lL d aD ?_)));obtain ⟨B,zg,bx,bd,b1,F⟩:=eW r f 0 wM wM oM;refine lV 58 (.tuple #[mV B,mV zg]) ?_ (hr:=d8 kR (F _));refine lL d [.c,.v (mV B),.v (mV zg),.c,.c] (lD ?_);intro V x;refine ⟨_,_,?_,⟨g-1,B,zg,zm,rfl,rfl,d.to _ _,((e.dec l oM).2),oM,oM⟩,x.to _ kR⟩
   omega
  have zl:=oT Q;refine lB 50 Q (lL d [.v qT,.v qT] (ak (CG.exit ?_)))
  show CG _ _ _ _ _ _ _ _
  exact aa d aD (ae d [] (mV g) (⟨g,rfl,(by first|exact e.over oM h4|(rw[show o=0 by omega] at e;exact e.fin oM))⟩))
 have zj:=oT zb;refine lB 42 zb (lL d ac (lG 44 ?_));refine lG 45 (lG 46 (lG 47 (lG 48 (lG 49 (lG 50 (lG 51 (lL d [.v qT] (ak (CG.exit ?_)))))))))
 show CG _ _ _ _ _ _ _ _
 exact aa d aD (ae d [] (mV g) (⟨g,rfl,(by first|exact e.over oM h4|(rw[show o=0 by omega] at e;exact e.fin oM))⟩))
theorem GS (A:Option Addr)(c:Nat)(l:List Nat)(n:Nat)(hn:l.length=n)(a:l.length<=1099511627776)(d:l.length<=c)(w:World)(h:Hp)(g:G w h)(b:SlO 1 aq 0 h A l):CV 157 #[.slice A n c] w h (.slice A (tl l n) c):=by
 subst hn;exact Fu A c l a d w h g b
theorem IM (rb:Nat)(l:List Nat)(c d:Nat)(Q:0<d)(V:d<18446744073709551616)(hW:Wd l)(hl:l.length<=1000000000)(hc:l.length<=c)(w:World)(h:Hp)(g:G w h)(Y:Own w rb 38 (l.flatMap aq))(U:h[rb]?=some bc):Calls Tryz.prog 181 #[.slice (sB rb) l.length c,mV d] w (eP rb w h fun v w' _=>∃ z:List Nat,∃ r:Nat,v=.tuple #[.slice (sB rb) (tl z z.length) c,uV r]/\z.length=l.length/\Wd z/\aA l=d*aA z+r/\r<d/\Own w' rb 38 (z.flatMap aq)):=by
 have e:UpM [rb] w h w h:=UpM.refl g;obtain ⟨wz,hz,a⟩:=SS.at_ g Y U;have hll:l.length=l.length:=rfl;refine go Tryz.func181 [(0,qS (sB rb) l.length c),(1,mV d)] rfl (aa a aD (aG (lL a ac (ah (aa a [.c,.v (nV l.length)] (lV 10 (iV ((l.length:Int)-1)) ?_ (hr:=rS (((l.length:Nat)-1)) kR ((gL oM oM).trans oM))))))));refine lL a ac (aY ?_);refine bH _ (CG.loop (fun F Γ I=>∃ (m:Nat) (z:List Nat) (r:Nat) (h_:Hp),F=m/\Γ=[(0,qS (sB rb) l.length c),(1,mV d),(4,sZ),(5,uV 0),(7,iV ((m:Int)-1)),(6,mV r)]/\SS wz hz I h_ [⟨rb,38,(z).flatMap aq⟩] [] []/\m<=l.length/\z.length=l.length/\Wd z/\aA l=d*(18446744073709551616^m*ai 18446744073709551616 (z.drop m))+(18446744073709551616^m*r+ai 18446744073709551616 (z.take m))/\r<d/\UpM [rb] w h I h_) _ ⟨l.length,l,0,h,rfl,rfl,a.to _ _,nR _,rfl,hW,(by show ai _ l=_;simp[ai,z2]),Q,e⟩ ?_);rintro _ _ w1 ⟨m,z,r,h2,S,rfl,a,hm,i,y,inv,B,e⟩;refine cQ (aa a ac ?_);cases j:(decide ((0:Int)<=((m:Int)-1:Int)))
 .
  have x:=oF j;refine lB 12 j (ag (CG.exit ?_))
  show CG _ _ _ _ _ _ _ _
  refine aa a ac (CJ 29 0 a (fun _ O f_ C=>GS (sB rb) c (z) (l.length) i oM oM _ _ O (SlO.of_flat (sz:=1) (f:=aq) (d:=0) (b:=rb) (o:=0) (l:=z) (fun _=>rfl) C)) ?_);rintro _ w5 h6 M a rfl;replace e:=e.trans (M.m _);refine lL a di (lN (kX ?_));have D:m=0:=by omega
  rw[D] at inv
  exact a.retM e [] (.tuple #[qS (sB rb) (tl (z) l.length) c,mV r]) ⟨z,r,by rw[i],i,y,(by simp only[L9,Mw,List.drop_zero,List.take_zero,ai] at inv;exact inv),B,a.own 0⟩
 have x:=oT j;refine lB 12 j (ak (cK (cQ (kZ (kQ (lL a Jp (lX 21 (sB rb) l.length c 1 ((m:Int)-1) (m-1) rfl ?_)))))));have Z:=y.get (m-1);refine lQ 22 0 z aq 1 0 (m-1) (mV ((z).getD (m-1) 0)) a oM (lL a ac (kd 24 (A3 r ((z).getD (m-1) 0) d oM wM wM _ _ a.g) ?_));rintro _ _ zb p ⟨u,L,rfl,H,J,K⟩;replace e:=e.trans (p.m _);replace a:=a.step p;refine lL a [.c,.v (mV u),.v (mV L)] (lX 27 (sB rb) l.length c 1 ((m:Int)-1) (m-1) rfl ?_);refine JV 0 z aq 1 (m-1) u a oM (fun _ W a=>?_);replace e:=e.put W (te.2 rfl) a.g;have za:((z).set (m-1) u).length=l.length:=by rw[LB];exact i
 replace a:=a.to [⟨rb,38,((z).set (m-1) u).flatMap aq⟩] [];refine lL a ac (lN (kQ (lL a ac (lV 14 (iV (((m-1:Nat):Int)-1)) ?_ (hr:=rS ((((m:Int)-1)-1)) kR ((gL oM oM).trans oM))))));refine lL a ac (lD ?_);intro a_ X;refine ⟨_,_,?_,⟨m-1,(z).set (m-1) u,L,zb,rfl,rfl,a.to _ _,oM,za,(y.set _ oM),(Cy oM (by rw[show m-1+1=m by omega];exact inv) oM),oM,e⟩,X.to _ kR⟩
 omega
theorem HC {u:List Nat}{k:Nat}(hk:2<=k):w3 (u.getD k 0) (u.getD (k-1) 0) (u.getD (k-2) 0)=u.getD k 0*18446744073709551616*18446744073709551616+u.getD (k-1) 0*18446744073709551616+u.getD (k-2) 0:=by
 unfold w3
 rw[LC (u.getD k 0) 18446744073709551616,LC (18446744073709551616*u.getD k 0) 18446744073709551616,LC (u.getD (k-1) 0),Mg]
theorem F7 {a b:Nat}:w2 a b=a*18446744073709551616+b:=by unfold w2;rw[LC]
section
variable {n j G:Nat} {u v:List Nat}
theorem HH (hn:2<=n)(f:v.length=n)(a:Wd v)(c:Wd u)(p:j+n<u.length)(hR:aA u<18446744073709551616^(j+1)*aA v):u.getD (j+n) 0<=v.getD (n-1) 0:=by
 rcases ea (v.getD (n-1) 0) (u.getD (j+n) 0) with h|h
 ·exfalso
  have e1:=aK 18446744073709551616 (l:=v) (k:=n-1) oM;rw[show n-1+1=v.length by omega,y8] at e1
  have h1:=bL (Dg.take a (n-1));rw[LF,LS oM] at h1
  have e2:=aK 18446744073709551616 (l:=u) (k:=j+n) oM;have b:=bM 18446744073709551616 (l:=u) (k:=j+n+1) oM;have i:18446744073709551616^(j+n)*(v.getD (n-1) 0+1)<=18446744073709551616^(j+n)*u.getD (j+n) 0:=LW _ h
  have d:18446744073709551616^(j+1)*aA v<18446744073709551616^(j+1)*(18446744073709551616^(n-1)*(v.getD (n-1) 0+1)):=by
   refine Mb ?_ (Nat.pow_pos kD)
   show ai _ v<_
   rw[e1,Mg,Mh];omega
  rw[<-L6,<-L4,show j+1+(n-1)=j+n by omega] at d
  have e:aA u=ai 18446744073709551616 (u.take (j+n))+18446744073709551616^(j+n)*u.getD (j+n) 0+18446744073709551616^(j+n+1)*ai 18446744073709551616 (u.drop (j+n+1)):=by
   show ai _ u=_
   rw[b,e2]
  have o:=MG (18446744073709551616^(j+n+1)*ai 18446744073709551616 (u.drop (j+n+1)))
  omega
 ·exact h
theorem AA (hn:2<=n)(f:v.length=n)(c:Wd v)(b:Wd u)(h:j+n<u.length)(a:v.getD (n-1) 0≠0)(hR:aA u<18446744073709551616^(j+1)*aA v)(e:Cz (u.getD (j+n) 0) (u.getD (j+n-1) 0) (u.getD (j+n-2) 0) (v.getD (n-1) 0) (v.getD (n-2) 0) G) :
  aA u/(18446744073709551616^j*aA v)<=G/\G<=aA u/(18446744073709551616^j*aA v)+1:=by
 obtain ⟨h1,d,i⟩:=e;rw[HC oM,F7] at h1 d
 exact nx kD hn f c b h a hR h1 d i
theorem xL (hn:2<=n)(d:v.length=n)(a:Wd v)(b:v.getD (n-1) 0≠0):18446744073709551616^(n-1)<=aA v/\aA v<18446744073709551616^n:=by
 have c:=bL a;rw[d] at c
 refine ⟨?_,c⟩;have e1:=aK 18446744073709551616 (l:=v) (k:=n-1) oM;rw[show n-1+1=v.length by omega,y8] at e1
 have e:18446744073709551616^(n-1)*1<=18446744073709551616^(n-1)*v.getD (n-1) 0:=LW _ oM
 show _<=ai _ v
 omega
theorem xd (hn:2<=n)(c:v.length=n)(a:Wd v)(hR:aA u<18446744073709551616^(j+1)*aA v):aA u<18446744073709551616^(j+n+1):=by
 have b:=bL a;rw[c] at b
 have h1:18446744073709551616^(j+1)*aA v<18446744073709551616^(j+1)*18446744073709551616^n:=Mb b (Nat.pow_pos kD);rw[<-L4,show j+1+n=j+n+1 by omega] at h1
 omega
theorem Cm {u1:List Nat}(hn:2<=n)(i:v.length=n)(c:Wd v)(h:Wd u)(f:Wd u1)(y:j+n<u.length)(d:v.getD (n-1) 0≠0)(hR:aA u<18446744073709551616^(j+1)*aA v)
  (o:aA u/(18446744073709551616^j*aA v)<=G/\G<=aA u/(18446744073709551616^j*aA v)+1)(a:Above u1 u (j+n+1))(e:aA u1+18446744073709551616^j*(G*aA v)=aA u+18446744073709551616^(j+n+1)*0) :
  aA u1<18446744073709551616^j*aA v/\aA u1+18446744073709551616^j*(G*aA v)=aA u:=by
 obtain ⟨p,x⟩:=xL hn i c d;have l:=fj (b:=18446744073709551616) kD a f h (by rw[a.1];omega) (xd hn i c hR);have:=(fS (b:=18446744073709551616) kD hn p x hR l e (MG 1) o).1 rfl;rw[Mj,y5] at e
 exact ⟨this.2.2.1,e⟩
theorem JH {b a W K T c:Nat}(e2:a+T*c=b+W)(f:b+W=K+T)(l:a<T)(i:K<W)(e:W<=T):a=K:=by
 have d:c=1:=by
  rcases Nat.lt_trichotomy c 1 with h|h|h
  ·have:c=0:=by omega
   subst this;omega
  ·exact h
  ·have j:T*2<=T*c:=LW _ h
   omega
 subst d
 omega
theorem HL {u1 d:List Nat}{c:Nat}(hn:2<=n)(D:v.length=n)(p:Wd v)(h:Wd u)(x:Wd u1)(y:Wd d)(O:j+n<u.length)(l:v.getD (n-1) 0≠0)(hR:aA u<18446744073709551616^(j+1)*aA v)
  (H:aA u/(18446744073709551616^j*aA v)<=G/\G<=aA u/(18446744073709551616^j*aA v)+1)(o:Above u1 u (j+n+1))(a:Above d u (j+n+1))(e:aA u1+18446744073709551616^j*(G*aA v)=aA u+18446744073709551616^(j+n+1)*1)
  (e2:aA d+18446744073709551616^(j+n+1)*c=aA u1+18446744073709551616^j*aA v) :
  aA d<18446744073709551616^j*aA v/\aA d+18446744073709551616^j*((G-1)*aA v)=aA u/\0<G:=by
 obtain ⟨L,C⟩:=xL hn D p l;have f:=xd hn D p hR;have I:=fj (b:=18446744073709551616) kD o x h (by rw[o.1];omega) f;have z:=fj (b:=18446744073709551616) kD a y h (by rw[a.1];omega) f;obtain ⟨K,M,B,J⟩:=(fS (b:=18446744073709551616) kD hn L C hR I e oM H).2 rfl
 have i:18446744073709551616^j*aA v<=18446744073709551616^(j+n+1):=by
  have h1:18446744073709551616^j*aA v<=18446744073709551616^j*18446744073709551616^n:=LW _ (Nat.le_of_lt C);rw[<-L4] at h1
  have F:(18446744073709551616:Nat)^(j+n)<=18446744073709551616^(j+n+1):=L3 kD oM;exact e4 h1 F
 have hk:aA d=aA u-18446744073709551616^j*((G-1)*aA v):=JH e2 M z B i;exact ⟨by rw[hk];exact B,by rw[hk];exact Nat.sub_add_cancel J,by rw[K];exact MW _⟩
theorem Ha {u1:List Nat}(hn:2<=n)(i:v.length=n)(d:Wd v)(h:Wd u)(f:Wd u1)(z:j+n<u.length)(a:v.getD (n-1) 0≠0)(hR:aA u<18446744073709551616^(j+1)*aA v)
  (o:aA u/(18446744073709551616^j*aA v)<=G/\G<=aA u/(18446744073709551616^j*aA v)+1)(c:Above u1 u (j+n+1))(e:aA u1+18446744073709551616^j*(G*aA v)=aA u+18446744073709551616^(j+n+1)*1):0<G:=by
 obtain ⟨p,x⟩:=xL hn i d a;have l:=fj (b:=18446744073709551616) kD c f h (by rw[c.1];omega) (xd hn i d hR);obtain ⟨y,_⟩:=(fS (b:=18446744073709551616) kD hn p x hR l e (Nat.le_refl 1) o).2 rfl;rw[y];exact MW _
theorem Eh (hn:n<=u.length)(f:v.length=n)(b:Wd v)(a:Wd u)(hR:aA u<aA v):aA (u.take n)=aA u:=by
 have c:=bL b;rw[f] at c
 have h:ai 18446744073709551616 u<18446744073709551616^(n+0):=Nat.lt_trans hR c;have hz:=(iT 18446744073709551616 (l:=u) (k:=n) (m:=0) oM kD a h).2;have e:=bM 18446744073709551616 (l:=u) (k:=n) hn;have d:ai 18446744073709551616 (u.drop n)=0:=hC _ (fun i=>by rw[bC];exact hz _ oM);rw[d,Mj,y5] at e
 exact e.symm
end
theorem wS {q:List Nat}{j Q X V R R':Nat}(c:j<q.length)(h0:q.getD j 0=0)(inv:X=aA q*V+R)(e:R'+18446744073709551616^j*(Q*V)=R):X=aA (q.set j Q)*V+R':=by
 have a:=cG 18446744073709551616 (l:=q) (k:=j) Q c;rw[h0,Mj,y5] at a
 have b:aA (q.set j Q)=aA q+18446744073709551616^j*Q:=a;rw[b,LI,inv,<-e,L6];omega
theorem Gp {X V R q a b s:Nat}(e:V=b*2^s)(j:X=a*2^s)(inv:X=q*V+R)(hR:R<V):q=a/b/\R/2^s=a%b:=by
 have l:=Mc s;have f:0<V:=by omega
 have i:0<b:=by
  rcases Ga b with h|h
  ·rw[h,zZ] at e;omega
  ·exact h
 have e1:a*2^s=V*q+R:=by rw[<-j,inv,LC]
 obtain ⟨h1,c⟩:=ko (A:=a) (y:=b) (Q:=q) e e1 hR;have d:a=R/2^s+b*q:=by omega
 constructor
 ·rw[d,Nat.add_mul_div_left _ _ i,LP c,Ab]
 ·rw[d,Nat.add_mul_mod_self_left,A0 c]
theorem wT {a s:Nat}(c:s<=64)(h:a*2^s<18446744073709551616):a*2^s+2^s<=18446744073709551616:=by
 have e:=Bq c;rw[e] at h ⊢
 have h1:a<2^(64-s):=Nat.lt_of_mul_lt_mul_right h;have b:(a+1)*2^s<=2^(64-s)*2^s:=Af _ h1;rw[LI,Mw] at b
 exact b
theorem xx {x y:List Nat}{s:Nat}(e:Wd x)(i:Wd y)(hn:1<=y.length)(b:y.getD (y.length-1) 0≠0)(f:y.length<=x.length):aA x*2^s<18446744073709551616^(x.length-y.length+1)*(aA y*2^s):=by
 have e1:=aK 18446744073709551616 (l:=y) (k:=y.length-1) oM;rw[show y.length-1+1=y.length by omega,y8] at e1
 have h:18446744073709551616^(y.length-1)*1<=18446744073709551616^(y.length-1)*y.getD (y.length-1) 0:=LW _ oM;have c:18446744073709551616^(y.length-1)<=aA y:=by show _<=ai _ y;omega
 have a:18446744073709551616^(x.length-y.length+1)*18446744073709551616^(y.length-1)<=18446744073709551616^(x.length-y.length+1)*aA y:=LW _ c;rw[<-L4,show x.length-y.length+1+(y.length-1)=x.length by omega] at a
 have d:aA x<18446744073709551616^x.length:=bL e;rw[<-L6];exact MN (e5 d a) (Mc s)
theorem Hl (A:Option Addr)(c:Nat)(x:List Nat)(m:Nat)(e:x.length=m)(d:Wd x)(a:x.length<=1000000000)(n:Nat)(hn:n<=1000000000)(w:World)(h:Hp)(g:G w h)(b:SlO 1 aq 0 h A x):CR 210 #[.slice A m c,nV n] w h (fun v h1=>DA h1 v (x.length-n/64) (fun z=>aA z=aA x/2^n)):=by
 subst e;exact JF A c x d a n hn w h g b
theorem GA {y z:List Nat}{s:Nat}(a:s<=64)(j:Wd y)(hz:Wd z)(h:aA z=aA y*2^s)(hn:1<=y.length)(x:y.getD (y.length-1) 0*2^s<18446744073709551616)(f:y.length<=z.length):aA (z.take y.length)=aA y*2^s:=by
 have c:aA z<18446744073709551616^(y.length+0):=by
  rw[h,y5];have e1:=aK 18446744073709551616 (l:=y) (k:=y.length-1) oM;rw[show y.length-1+1=y.length by omega,y8] at e1
  have h1:=bL (Dg.take j (y.length-1));rw[LF,LS oM] at h1
  have o:aA y<18446744073709551616^(y.length-1)*(y.getD (y.length-1) 0+1):=by
   show ai _ y<_
   rw[e1,Mg,Mh];omega
  have u:aA y*2^s<18446744073709551616^(y.length-1)*(y.getD (y.length-1) 0+1)*2^s:=MN o (Mc s)
  have b:18446744073709551616^(y.length-1)*(y.getD (y.length-1) 0+1)*2^s<=18446744073709551616^y.length:=by
   have p:(18446744073709551616:Nat)^y.length=18446744073709551616^(y.length-1)*18446744073709551616:=by rw[<-LR];congr 1;omega
   rw[p,L6];refine LW _ ?_;rw[LI,Mw];exact wT a x
  exact e5 u b
 have d:=(iT 18446744073709551616 (l:=z) (k:=y.length) (m:=0) oM kD hz c).2;have e:=bM 18446744073709551616 (l:=z) (k:=y.length) oM;have b:ai 18446744073709551616 (z.drop y.length)=0:=hC _ (fun i=>by rw[bC];exact d _ oM);rw[b,Mj,y5] at e
 rw[<-h];exact e.symm
theorem Et {y v:List Nat}{s:Nat}(f:Wd y)(hv:Wd v)(a:v.length=y.length)(i:aA v=aA y*2^s)(hn:1<=y.length)(e:9223372036854775808<=y.getD (y.length-1) 0*2^s):v.getD (v.length-1) 0≠0:=by
 intro h0;have e1:=aK 18446744073709551616 (l:=v) (k:=v.length-1) oM;rw[show v.length-1+1=v.length by omega,y8,h0,Mj,y5] at e1
 have h1:=bL (Dg.take hv (v.length-1));rw[LF,LS oM] at h1
 have e2:=aK 18446744073709551616 (l:=y) (k:=y.length-1) oM;rw[show y.length-1+1=y.length by omega,y8] at e2
 have b:18446744073709551616^(y.length-1)*y.getD (y.length-1) 0<=aA y:=by show _<=ai _ y;omega
 have c:18446744073709551616^(y.length-1)*y.getD (y.length-1) 0*2^s<=aA y*2^s:=Af _ b;rw[L6] at c
 have d:18446744073709551616^(y.length-1)*1<=18446744073709551616^(y.length-1)*(y.getD (y.length-1) 0*2^s):=LW _ oM
 have h:aA v<18446744073709551616^(y.length-1):=by
  show ai _ v<_
  rw[e1,<-a];exact h1
 omega
theorem F8 (A:Option Addr)(c:Nat)(x:List Nat)(D:Option Addr)(d:Nat)(y:List Nat)(hx:Wd x)(hy:Wd y)(hlx:x.length<=1000000000)(hny:2<=y.length)(hxy:y.length<=x.length)(b0:y.getD (y.length-1) 0≠0)(w:World)(h:Hp)(g:G w h)(hA:SlO 1 aq 0 h A x)(hD:SlO 1 aq 0 h D y):CR 182 #[.slice A x.length c,.slice D y.length d] w h (fun v h1=>∃ Aq cq,∃ q:List Nat,∃ Ar cr,∃ r:List Nat,v=.tuple #[.slice Aq q.length cq,.slice Ar r.length cr]/\q.length<=cq/\r.length<=cr/\Wd q/\Wd r/\aA q=aA x/aA y/\aA r=aA x%aA y/\q.length<=x.length/\r.length<=y.length/\SlO 1 aq 0 h1 Aq q/\SlO 1 aq 0 h1 Ar r):=by
 have e:=(((sS g).aS hA).aS hD);refine go Tryz.func182 [(0,qS A x.length c),(1,qS D y.length d)] rfl (aa e aD (aG (lL e [.c,.v (nV y.length),.c] (aG (lL e aD (bh 25 ((y.length:Nat)-1) (y.length-1) ?_))))));refine lX 26 D y.length d 1 (y.length-1:Nat) (y.length-1) ((e.f.1).ok oM) (lH 27 (mV (y.getD (y.length-1) 0)) e ((e.f.1).el (y.length-1) oM) ?_);have hyt:=hy.get (y.length-1);refine ar 28 e (EW (y.getD (y.length-1) 0) wM _ _ e.g) (fun w1 h2 e=>lL e ac (aG (lL e aD (lC 31 e (wG D d y hy oM (64-nb (y.getD (y.length-1) 0)) oM _ _ e.g e.f.1) ?_))));rintro _ w3 h4 e ⟨V,vc,zv,rfl,hvc,dd,hWv,hVv,hFv⟩;replace e:=e.aS hFv;refine lL e ac (lT 33 V zv.length vc 1 (y.length:Nat) y.length ?_);obtain ⟨p,hvl_⟩:∃ p,p=zv.take y.length:=⟨_,rfl⟩;have bn:p.length=y.length:=by rw[hvl_,LF];omega
 have C:Wd p:=by rw[hvl_];exact Dg.take hWv _
 have cw:=(cB (n:=y.getD (y.length-1) 0) oM).2.2;have bd:=uU (y:=y.getD (y.length-1) 0) oM (hy.get _);have Z:aA p=aA y*2^(64-nb (y.getD (y.length-1) 0)):=by rw[hvl_];exact GA oM hy hWv hVv oM bd.2 oM
 have M:p.getD (p.length-1) 0≠0:=Et hy C bn Z oM bd.1;replace e:=e.aS ((e.f.1).take y.length);rw[<-hvl_] at e
 refine lL e ac (aG (lL e [.c,.v (nV x.length)] (bh 36 ((x.length:Nat)+1) (x.length+1) ?_)));refine lK 37 38 (x.length+1) 1 8 (uV 0) aq 0 e (fun u w6 h7 e=>?_);have hl8:(As (x.length+1) 0).length=(x.length+1):=by simp
 refine lL e ac (aG (lL e di (lC 41 e (wG A c x hx hlx (64-nb (y.getD (y.length-1) 0)) oM _ _ e.g e.f.r.2.1) ?_)));rintro _ w9 _ e ⟨Uo,uc,zu,rfl,huc,c7,bz,hVu,hFu⟩;replace e:=e.aS hFu;have b1:zu.length=x.length+1:=by omega
 refine K6 42 0 (.tmp 38) (.tmp 41) 198 38 aq 0 Uo zu (x.length+1) zu.length uc (x.length+1) e e.f.1 rfl oM oM (by show ((As (x.length+1) 0).flatMap aq).length=_;rw[bV (sz:=1) (fun _=>rfl)];simp) (fun _ e=>?_);replace e:=e.to [⟨u,38,(zu).flatMap aq⟩] [];refine aG (lL e [.c,.v (nV x.length),.c] (bh 46 ((x.length:Nat)-(y.length:Nat)) (x.length-y.length) ?_));refine bh 47 ((x.length-y.length:Nat)+1) ((x.length-y.length)+1) (lK 48 38 ((x.length-y.length)+1) 1 8 (uV 0) aq 0 e (fun za _ zD e=>?_));have zt:(As ((x.length-y.length)+1) 0).length=((x.length-y.length)+1):=by simp
 refine lL e ac (ah (aa e [.c,.v (nV x.length),.c] (lV 52 (iV (((x.length-y.length+1:Nat):Int)-1)) ?_ (hr:=rS (((x.length:Nat)-(y.length:Nat))) kR ((gL oM oM).trans oM)))));refine lL e ac (lN (bH [(4,qS (sB za) ((x.length-y.length)+1) ((x.length-y.length)+1)),(5,sZ),(6,nV y.length),(7,nV (64-nb (y.getD (y.length-1) 0))),(8,qS V y.length vc),(9,qS (sB u) (x.length+1) (x.length+1)),(10,iV (((x.length-y.length+1:Nat):Int)-1))] ?_));refine kZ ?_;refine bH _ (CG.loop (fun μ_ Γ w_=>∃ (m:Nat) (H:List Nat) (K:List Nat) (B:Hp),μ_=m/\Γ=[(4,qS (sB za) ((x.length-y.length)+1) ((x.length-y.length)+1)),(5,sZ),(6,nV y.length),(7,nV (64-nb (y.getD (y.length-1) 0))),(8,qS V y.length vc),(9,qS (sB u) (x.length+1) (x.length+1)),(10,iV ((m:Int)-1))]/\SS w h w_ B [⟨za,38,(K).flatMap aq⟩,⟨u,38,(H).flatMap aq⟩] [] [fun B=>SlO 1 aq 0 B Uo zu,fun B=>SlO 1 aq 0 B V p,fun B=>SlO 1 aq 0 B V zv,fun B=>SlO 1 aq 0 B D y,fun B=>SlO 1 aq 0 B A x]/\m<=x.length-y.length+1/\H.length=x.length+1/\Wd H/\K.length=x.length-y.length+1/\Wd K/\aA H<18446744073709551616^m*aA p/\aA zu=aA K*aA p+aA H/\(∀ k,k<m->K.getD k 0=0)) _ ⟨x.length-y.length+1,zu,As ((x.length-y.length)+1) 0,zD,rfl,rfl,e.to _ _,nR _,b1,bz,zt,Wd.rep _,(by rw[hVu,Z];exact xx hx hy oM b0 oM),(by show _=ai _ _*_+_;rw[dM,zZ,Ab]),fun k _=>ee⟩ ?_);rintro _ _ _ ⟨m,H,K,_,dv,rfl,e,hm,hul,J,hql,hWq,hR,inv,hq0⟩;refine cQ (aa e ac ?_);cases zd:(decide ((0:Int)<=((m:Int)-1:Int)))
 .
  have zl:=oF zd;refine lB 54 zd (ag (CG.exit ?_))
  show CG _ _ _ _ _ _ _ _
  refine ax ?_;have hm0:m=0:=by omega
  obtain ⟨_,e,b3,dn,dc⟩:=e.pub 0;replace e:=(e.to [⟨u,38,(H).flatMap aq⟩] []).aS (SlO.of_flat (sz:=1) (f:=aq) (d:=0) (b:=za) (o:=0) (l:=K) (fun _=>rfl) b3);obtain ⟨_,e,bx,cx,c6⟩:=e.pub 0;replace e:=(e.to [] []).aS (SlO.of_flat (sz:=1) (f:=aq) (d:=0) (b:=u) (o:=0) (l:=H) (fun _=>rfl) bx);refine lL e di (lT 190 (sB u) (x.length+1) (x.length+1) 1 (y.length:Nat) y.length ?_);refine lL e ac (lC 192 e (Hl (sB u) (x.length+1) (H.take y.length) y.length (by rw[LF];omega) (Dg.take J _) (by rw[LF];omega) (64-nb (y.getD (y.length-1) 0)) oM _ _ e.g ((e.f.1).take y.length)) ?_);rintro _ _ _ e ⟨Ar,cr,zr,rfl,hcr,hlr,hWr,hVr,hFr⟩;replace e:=e.aS hFr;refine lL e aD (lN (kX ?_));rw[hm0,L9,Mw] at hR
  obtain ⟨hQ,hRm⟩:=Gp Z hVu inv hR;rw[Eh (v:=p) oM oM C J hR] at hVr
  exact e.ret [] (.tuple #[qS (sB za) ((x.length-y.length)+1) ((x.length-y.length)+1),qS Ar zr.length cr]) (⟨_,_,K,Ar,cr,zr,by rw[hql],by omega,hcr,hWq,hWr,hQ,hVr.trans hRm,by omega,(by have:=List.length_take_le y.length H;omega),e.f.r.1,e.f.1⟩)
 have zl:=oT zd;refine lB 54 zd (ak (cK (cQ (kZ (cQ (cR 31 [] mixed e ao ?_))))));have hm1:0<m:=by omega
 have hn2:2<=p.length:=by omega
 have U:m-1+p.length<H.length:=by omega
 have Y:aA H<18446744073709551616^(m-1+1)*aA p:=by rw[show m-1+1=m by omega];exact hR
 have hle:=HH (n:=p.length) (j:=m-1) hn2 rfl C J U Y;refine eV 0 57 (qS (sB u) (x.length+1) (x.length+1)) (eV 1 58 (iV ((m:Int)-1)) (eV 2 59 (nV y.length) (jX 3 60 (((m:Int)-1)+(y.length:Nat)) (m-1+p.length) (eX 4 61 (sB u) (x.length+1) (x.length+1) 1 (m-1+p.length:Nat) (m-1+p.length) rfl (eQ 5 62 1 H aq 1 0 (m-1+p.length) (mV ((H).getD (m-1+p.length) 0)) e oM (eV 6 63 (qS (sB u) (x.length+1) (x.length+1)) (eV 7 64 (iV ((m:Int)-1)) (eV 8 65 (nV y.length) (jX 9 66 (((m:Int)-1)+(y.length:Nat)) (m-1+p.length) (jX 10 67 ((m-1+p.length:Nat)-1) (m-1+p.length-1) (eX 11 68 (sB u) (x.length+1) (x.length+1) 1 (m-1+p.length-1:Nat) (m-1+p.length-1) rfl (eQ 12 69 1 H aq 1 0 (m-1+p.length-1) (mV ((H).getD (m-1+p.length-1) 0)) e oM (eV 13 70 (qS (sB u) (x.length+1) (x.length+1)) (eV 14 71 (iV ((m:Int)-1)) (eV 15 72 (nV y.length) (jX 16 73 (((m:Int)-1)+(y.length:Nat)) (m-1+p.length) (jX 17 74 ((m-1+p.length:Nat)-2) (m-1+p.length-2) (eX 18 75 (sB u) (x.length+1) (x.length+1) 1 (m-1+p.length-2:Nat) (m-1+p.length-2) rfl (eQ 19 76 1 H aq 1 0 (m-1+p.length-2) (mV ((H).getD (m-1+p.length-2) 0)) e oM (eV 20 77 (qS V y.length vc) (eV 21 78 (nV y.length) (jX 22 79 ((y.length:Nat)-1) (p.length-1) (eX 23 80 V y.length vc 1 (p.length-1:Nat) (p.length-1) ((e.f.2.1).ok oM) (eH 24 81 (mV (p.getD (p.length-1) 0)) e ((e.f.2.1).el (p.length-1) oM) (eV 25 82 (qS V y.length vc) (eV 26 83 (nV y.length) (jX 27 84 ((y.length:Nat)-2) (p.length-2) (eX 28 85 V y.length vc 1 (p.length-2:Nat) (p.length-2) ((e.f.2.1).ok oM) (eH 29 86 (mV (p.getD (p.length-2) 0)) e ((e.f.2.1).el (p.length-2) oM) (eC 30 87 e (fun _ _ e=>Hu (((H).getD (m-1+p.length) 0)) (((H).getD (m-1+p.length-1) 0)) (((H).getD (m-1+p.length-2) 0)) ((p.getD (p.length-1) 0)) ((p.getD (p.length-2) 0)) (J.get _) (J.get _) (J.get _) (C.get _) (C.get _) hle oM _ _ e.g) ?_))))))))))))))))))))))))))))));rintro _ _ _ _ _ e ⟨g,rfl,hG0⟩;have hG:=AA (n:=p.length) (j:=m-1) hn2 rfl C J U M Y hG0;have hgb:=hG0.2.2;refine bP e (fun _ zE e=>tV 31 11 (mV g) (tN (bH [(4,qS (sB za) ((x.length-y.length)+1) ((x.length-y.length)+1)),(5,sZ),(6,nV y.length),(7,nV (64-nb (y.getD (y.length-1) 0))),(8,qS V y.length vc),(9,qS (sB u) (x.length+1) (x.length+1)),(10,iV ((m:Int)-1)),(11,mV g)] ?_)));refine aa e aD (ah (aa e aD (aY ?_)));refine bH _ (CG.loop (fun μ_ Γ w_=>∃ (i:Nat) (u1:List Nat) (cy:Nat) (bo:Nat) (B:Hp),μ_=y.length-i/\Γ=[(4,qS (sB za) ((x.length-y.length)+1) ((x.length-y.length)+1)),(5,sZ),(6,nV y.length),(7,nV (64-nb (y.getD (y.length-1) 0))),(8,qS V y.length vc),(9,qS (sB u) (x.length+1) (x.length+1)),(10,iV ((m:Int)-1)),(11,mV g),(88,nV y.length),(89,nV i),(12,mV cy),(13,mV bo)]/\SS w h w_ B [⟨za,38,(K).flatMap aq⟩,⟨u,38,(u1).flatMap aq⟩] [] [fun B=>SlO 1 aq 0 B Uo zu,fun B=>SlO 1 aq 0 B V p,fun B=>SlO 1 aq 0 B V zv,fun B=>SlO 1 aq 0 B D y,fun B=>SlO 1 aq 0 B A x]/\i<=y.length/\u1.length=x.length+1/\Wd u1/\cy<18446744073709551616/\bo<=1/\ai 18446744073709551616 u1+18446744073709551616^(m-1)*(g*ai 18446744073709551616 (p.take i))=aA H+18446744073709551616^(m-1+i)*(cy+bo)/\Above u1 H (m-1+p.length+1)) _ ⟨0,H,0,0,zE,rfl,rfl,e.to _ _,MG _,hul,J,oM,oM,(by show ai _ H+_=ai _ H+_;simp[ai]),Above.refl _ _⟩ ?_);rintro _ _ _ ⟨i,u1,cy,bo,zq,cm,rfl,e,hi,hu1,hW1,hcy,hbo,bb,bf⟩;have c9:=hW1.get (m-1+i);have hvk:=C.get i;refine ax ?_;cases ze:(decide ((i:Int)<(y.length:Int)))
 .
  have zm:=oF ze;refine lB 90 ze (ah (dr (CG.exit ?_)))
  show CG _ _ _ _ _ _ _ _
  refine ax ?_;rw[show i=p.length by omega] at bb
  have cj:=hW1.get (m-1+p.length);refine lL e di (bh 132 (((m:Int)-1)+(y.length:Nat)) (m-1+p.length) ?_);refine lL e di (bh 136 (((m:Int)-1)+(y.length:Nat)) (m-1+p.length) ?_);refine lX 137 (sB u) (x.length+1) (x.length+1) 1 (m-1+p.length:Nat) (m-1+p.length) rfl (lQ 138 1 u1 aq 1 0 (m-1+p.length) (mV ((u1).getD (m-1+p.length) 0)) e oM (lL e aD ?_));obtain ⟨I,zc,c8,dm,ch,bt⟩:=jx ((u1).getD (m-1+p.length) 0) cy bo wM wM oM;refine lV 141 (.tuple #[mV I,mV zc]) ?_ (hr:=d8 kR (bt _));refine lL e [.c,.v (mV I),.v (mV zc)] (lX 144 (sB u) (x.length+1) (x.length+1) 1 (m-1+p.length:Nat) (m-1+p.length) rfl ?_);refine lW 1 u1 aq 1 (m-1+p.length) I e oM (fun _ e=>?_);have zk:((u1).set (m-1+p.length) I).length=(x.length+1):=by rw[LB];exact hu1
  replace e:=e.to [⟨za,38,(K).flatMap aq⟩,⟨u,38,((u1).set (m-1+p.length) I).flatMap aq⟩] [];refine lL e ac (ah (ax ?_));have hE:=wQ oM bb (s:=I) (bo':=zc) oM;have W:Wd ((u1).set (m-1+p.length) I):=hW1.set _ oM;have Q:=bf.set (x:=I) (show m-1+p.length<m-1+p.length+1 by omega) oM;refine lL e ac ?_;cases zf:((zc:Int) != (0:Int))
  .
   have zn:=aW zf;refine lB 146 zf (ag (cK (kQ ?_)));have hD_:=Cm hn2 rfl C J W U M Y hG Q (by rw[show zc=0 by omega] at hE;exact hE);have hDw:=W;have hDg:=hgb;have hDu:=hD_.1;have hDe:=hD_.2;refine lL e di (lX 186 (sB za) ((x.length-y.length)+1) ((x.length-y.length)+1) 1 ((m:Int)-1) (m-1) rfl ?_);refine lW 0 K aq 1 (m-1) g e oM (fun _ e=>?_);have zw:((K).set (m-1) g).length=((x.length-y.length)+1):=by rw[LB];exact hql
   replace e:=e.to [⟨za,38,((K).set (m-1) g).flatMap aq⟩,⟨u,38,((u1).set (m-1+p.length) I).flatMap aq⟩] [];refine lN (kQ (lL e ac (lV 56 (iV (((m-1:Nat):Int)-1)) ?_ (hr:=rS ((((m:Int)-1)-1)) kR ((gL oM oM).trans oM)))));refine lL e ac (lD ?_);intro a_ ka;refine ⟨_,_,?_,⟨m-1,(u1).set (m-1+p.length) I,(K).set (m-1) g,zq,rfl,rfl,e.to _ _,oM,zk,hDw,zw,(hWq.set _ hDg),hDu,(wS oM (hq0 _ oM) inv hDe),(fun k hk=>by rw[bw oM,if_neg oM];exact hq0 k oM)⟩,ka.to _ kR⟩
   omega
  have zn:=aN zf;refine lB 146 zf (ak (aa e ac ?_));have hE1:=hE;rw[show zc=1 by omega] at hE1
  have hgp:=Ha hn2 rfl C J W U M Y hG Q hE1;refine lV 148 (mV (g-1)) ?_ (hr:=rU (((g:Int)-(1:Int))) kR (fE g 1 oM oM));refine lL e ac (aG (lL e ac (ah (aa e aD (aY ?_)))));refine bH _ (CG.loop (fun μ_ Γ w_=>∃ (z:Nat) (F:List Nat) (c2:Nat) (B:Hp),μ_=y.length-z/\Γ=[(4,qS (sB za) ((x.length-y.length)+1) ((x.length-y.length)+1)),(5,sZ),(6,nV y.length),(7,nV (64-nb (y.getD (y.length-1) 0))),(8,qS V y.length vc),(9,qS (sB u) (x.length+1) (x.length+1)),(10,iV ((m:Int)-1)),(11,mV (g-1)),(149,nV y.length),(150,nV z),(19,mV c2)]/\SS w h w_ B [⟨za,38,(K).flatMap aq⟩,⟨u,38,(F).flatMap aq⟩] [] [fun B=>SlO 1 aq 0 B Uo zu,fun B=>SlO 1 aq 0 B V p,fun B=>SlO 1 aq 0 B V zv,fun B=>SlO 1 aq 0 B D y,fun B=>SlO 1 aq 0 B A x]/\z<=y.length/\F.length=x.length+1/\Wd F/\c2<=1/\ai 18446744073709551616 F+18446744073709551616^(m-1+z)*c2=ai 18446744073709551616 ((u1).set (m-1+p.length) I)+18446744073709551616^(m-1)*ai 18446744073709551616 (p.take z)/\Above F H (m-1+p.length+1)) _ ⟨0,(u1).set (m-1+p.length) I,0,zq,rfl,rfl,e.to _ _,MG _,zk,W,oM,(by simp[ai]),Q⟩ ?_);rintro _ _ _ ⟨z,F,c2,zG,cz,rfl,e,hi2,hu2,hW2,hc2,X,bk⟩;have bq:=hW2.get (m-1+z);have c4:=C.get z;refine ax ?_;cases zg:(decide ((z:Int)<(y.length:Int)))
  .
   have zo:=oF zg;refine lB 151 zg (ah (dr (CG.exit ?_)))
   show CG _ _ _ _ _ _ _ _
   refine kQ (lL e di (bh 177 (((m:Int)-1)+(y.length:Nat)) (m-1+p.length) ?_));refine lX 178 (sB u) (x.length+1) (x.length+1) 1 (m-1+p.length:Nat) (m-1+p.length) rfl (lQ 179 1 F aq 1 0 (m-1+p.length) (mV ((F).getD (m-1+p.length) 0)) e oM (lL e ac (lV 181 (mV ((((F).getD (m-1+p.length) 0)+c2)%18446744073709551616)) ?_ (hr:=rU (((((F).getD (m-1+p.length) 0:Nat):Int)+(c2:Int))) kR (AI ((F).getD (m-1+p.length) 0) c2)))));refine lX 182 (sB u) (x.length+1) (x.length+1) 1 (m-1+p.length:Nat) (m-1+p.length) rfl (lW 1 F aq 1 (m-1+p.length) ((((F).getD (m-1+p.length) 0)+c2)%18446744073709551616:Nat) e oM (fun _ e=>?_));have zx:((F).set (m-1+p.length) ((((F).getD (m-1+p.length) 0)+c2)%18446744073709551616:Nat)).length=(x.length+1):=by rw[LB];exact hu2
   replace e:=e.to [⟨za,38,(K).flatMap aq⟩,⟨u,38,((F).set (m-1+p.length) ((((F).getD (m-1+p.length) 0)+c2)%18446744073709551616:Nat)).flatMap aq⟩] [];refine lN (kQ ?_);have br:z=p.length:=by omega
   rw[br] at X
   have bq:=hW2.get (m-1+p.length);have hE3:=AM (s:=(F.getD (m-1+p.length) 0+c2)%18446744073709551616) (c':=(F.getD (m-1+p.length) 0+c2)/18446744073709551616) oM X (Nat.mod_add_div _ _);have hDw:Wd ((F).set (m-1+p.length) ((((F).getD (m-1+p.length) 0)+c2)%18446744073709551616:Nat)):=hW2.set _ (LX _ kD);obtain ⟨hDu,hDe,hDp⟩:=HL hn2 rfl C J W hDw U M Y hG Q (bk.set oM oM) hE1 hE3;have hDg:g-1<18446744073709551616:=by omega
   refine lL e di (lX 186 (sB za) ((x.length-y.length)+1) ((x.length-y.length)+1) 1 ((m:Int)-1) (m-1) rfl ?_);refine lW 0 K aq 1 (m-1) (g-1) e oM (fun _ e=>?_);have zA:((K).set (m-1) (g-1)).length=((x.length-y.length)+1):=by rw[LB];exact hql
   replace e:=e.to [⟨za,38,((K).set (m-1) (g-1)).flatMap aq⟩,⟨u,38,((F).set (m-1+p.length) ((((F).getD (m-1+p.length) 0)+c2)%18446744073709551616:Nat)).flatMap aq⟩] [];refine lN (kQ (lL e ac (lV 56 (iV (((m-1:Nat):Int)-1)) ?_ (hr:=rS ((((m:Int)-1)-1)) kR ((gL oM oM).trans oM)))));refine lL e ac (lD ?_);intro a_ ka;refine ⟨_,_,?_,⟨m-1,(F).set (m-1+p.length) ((((F).getD (m-1+p.length) 0)+c2)%18446744073709551616:Nat),(K).set (m-1) (g-1),zG,rfl,rfl,e.to _ _,oM,zx,hDw,zA,(hWq.set _ hDg),hDu,(wS oM (hq0 _ oM) inv hDe),(fun k hk=>by rw[bw oM,if_neg oM];exact hq0 k oM)⟩,ka.to _ kR⟩
   omega
  have zo:=oT zg;refine lB 151 zg (ah (co (cK (cQ (kZ (aa e aD (lN (cR 19 [] mixed e ao ?_))))))));refine eV 0 154 (qS (sB u) (x.length+1) (x.length+1)) (eV 1 155 (iV ((m:Int)-1)) (eV 2 156 (nV z) (jX 3 157 (((m:Int)-1)+(z:Nat)) (m-1+z) (eV 4 158 (qS (sB u) (x.length+1) (x.length+1)) (eV 5 159 (iV ((m:Int)-1)) (eV 6 160 (nV z) (jX 7 161 (((m:Int)-1)+(z:Nat)) (m-1+z) (eX 8 162 (sB u) (x.length+1) (x.length+1) 1 (m-1+z:Nat) (m-1+z) rfl (eQ 9 163 1 F aq 1 0 (m-1+z) (mV ((F).getD (m-1+z) 0)) e oM (eV 10 164 (qS V y.length vc) (eV 11 165 (nV z) (eX 12 166 V y.length vc 1 (z:Nat) z ((e.f.2.1).ok oM) (eH 13 167 (mV (p.getD z 0)) e ((e.f.2.1).el z oM) (eV 14 168 (mV c2) ?_))))))))))))));obtain ⟨O,zj,cv,df,c5,b2⟩:=eW ((F).getD (m-1+z) 0) (p.getD z 0) c2 wM wM oM;refine eV 15 169 (.tuple #[mV O,mV zj]) ?_ (hv:=fun _=>d8 kR (b2 _));refine eV 16 153 (.tuple #[mV O,mV zj]) (eV 17 170 (mV O) (eV 18 171 (mV zj) (bP e (fun _ zH e=>tX 19 172 (sB u) (x.length+1) (x.length+1) 1 (m-1+z:Nat) (m-1+z) rfl (tW 20 1 F aq 1 (m-1+z) O e oM (fun _ e=>?_))))));have zB:((F).set (m-1+z) O).length=(x.length+1):=by rw[LB];exact hu2
  replace e:=e.to [⟨za,38,(K).flatMap aq⟩,⟨u,38,((F).set (m-1+z) O).flatMap aq⟩] [];refine tV 21 19 (mV zj) (tN (kQ (bh 173 ((z:Nat)+1) (z+1) ?_)));refine lL e ac (lD ?_);intro a_ ka;refine ⟨_,_,?_,⟨z+1,(F).set (m-1+z) O,zj,zH,rfl,rfl,e.to _ _,oM,zB,(hW2.set _ oM),oM,(t6 oM X oM),(bk.set oM oM)⟩,ka.to _ kR⟩
  omega
 have zm:=oT ze;refine lB 90 ze (ah (co (cK (cQ (kZ (aa e aD (aG (lL e di (lX 96 V y.length vc 1 (i:Nat) i ((e.f.2.1).ok oM) ?_)))))))));refine lH 97 (mV (p.getD i 0)) e ((e.f.2.1).el i oM) (lC 98 e (ol g (p.getD i 0) wM wM _ _ e.g) ?_);rintro _ _ zI e ⟨S,zs,rfl,c3,ds,dw,cp⟩;have b4:=jN (a:=g) (b:=(p.getD i 0)) wM wM;refine lL e [.c,.v (mV S),.v (mV zs),.c,.c] (aG (lL e aD ?_));obtain ⟨s99,zb,b9,cb,cd,bm⟩:=eW zs cy 0 wM wM oM;refine lV 104 (.tuple #[mV s99,mV zb]) ?_ (hr:=d8 kR (bm _));refine lL e [.c,.v (mV s99),.v (mV zb),.c,.c] (aG (lL e aD (lV 109 (mV (S+zb)) ?_ (hr:=rU (((S:Int)+(zb:Int))) kR (eE S zb oM)))));refine lL e ac (lN (kQ (lL e di (bh 114 (((m:Int)-1)+(i:Nat)) (m-1+i) ?_))));refine lL e di (bh 118 (((m:Int)-1)+(i:Nat)) (m-1+i) ?_);refine lX 119 (sB u) (x.length+1) (x.length+1) 1 (m-1+i:Nat) (m-1+i) rfl (lQ 120 1 u1 aq 1 0 (m-1+i) (mV ((u1).getD (m-1+i) 0)) e oM (lL e aD ?_));obtain ⟨L,zi,b7,b6,cf,bl⟩:=jx ((u1).getD (m-1+i) 0) s99 bo wM wM oM;refine lV 123 (.tuple #[mV L,mV zi]) ?_ (hr:=d8 kR (bl _));refine lL e [.c,.v (mV L),.v (mV zi)] (lX 126 (sB u) (x.length+1) (x.length+1) 1 (m-1+i:Nat) (m-1+i) rfl ?_);refine lW 1 u1 aq 1 (m-1+i) L e oM (fun _ e=>?_);have zp:((u1).set (m-1+i) L).length=(x.length+1):=by rw[LB];exact hu1
 replace e:=e.to [⟨za,38,(K).flatMap aq⟩,⟨u,38,((u1).set (m-1+i) L).flatMap aq⟩] [];refine lL e ac (lN (bH [(4,qS (sB za) ((x.length-y.length)+1) ((x.length-y.length)+1)),(5,sZ),(6,nV y.length),(7,nV (64-nb (y.getD (y.length-1) 0))),(8,qS V y.length vc),(9,qS (sB u) (x.length+1) (x.length+1)),(10,iV ((m:Int)-1)),(11,mV g),(88,nV y.length),(89,nV i),(12,mV (S+zb)),(13,mV zi)] ?_));refine kQ (bh 127 ((i:Nat)+1) (i+1) ?_);refine lL e ac (lD ?_);intro a_ ka;refine ⟨_,_,?_,⟨i+1,(u1).set (m-1+i) L,(S+zb),zi,zI,rfl,rfl,e.to _ _,oM,zp,(hW1.set _ oM),oM,oM,(ue (t:=s99) oM bb oM oM),(bf.set oM oM)⟩,ka.to _ kR⟩
 omega
theorem dt (A:Option Addr)(c:Nat)(l:List Nat)(m x:Nat)(e:l.length=m)(d:Wd l)(hv:aA l=x)(a:l.length<=1099511627776)(f:l.length<=c)(w:World)(h:Hp)(g:G w h)(b:SlO 1 aq 0 h A l):CV 132 #[.slice A m c] w h (nv x):=by
 subst e hv;exact Fm A c l d a f w h g b
theorem H0 (a b:Nat)(H:(wds a).length<=1000000000)(C:(wds b).length<=1000000000)(has:a<18446744073709551616)(p:b<18446744073709551616)(w:World)(h:Hp)(g:G w h):CV 232 #[nv a,nv b] w h (nv (a+b)):=by
 have e:=sS g;have I:=A0 has;have J:=A0 p;refine go Tryz.func232 [(0,nv a),(1,nv b)] rfl (ax (lA 2 40 (nc a) e (fun B w2 Q e=>lA 3 40 (nc b) e (fun y S O e=>lA 4 40 ([uV 0,eS]) e (fun M L K e=>ah (aa e [.v (qP B 1),.o (.string (hi a)) 2 1 1] (lV 14 qT ?_ (hr:=rb kR (jz (ff has))))))))));refine lL e [.c,.v (qP y 1),.o (.string (hi b)) 1 1 1] (lV 18 qT ?_ (hr:=rb kR (jz (ff p))));refine lL e [.v qT] (ak (aa e [.v (pB B),.o (mV (a%18446744073709551616)) 2 0 1,.v (pB y),.o (mV (b%18446744073709551616)) 1 0 1] ?_));obtain ⟨i,za,x,z,u,j⟩:=eW (a%18446744073709551616) (b%18446744073709551616) 0 wM wM oM;refine lV 25 (.tuple #[mV i,mV za]) ?_ (hr:=d8 kR (j _));refine lL e [.c,.v (mV i),.v (mV za),.c,.c] (ah (aa e ac ?_));cases zb:((za:Int) == (0:Int))
 .
  have D:=aj zb;refine lB 29 zb (ag (cK (aa e aD (lR 34 38 2 ([mV i,mV za]) e (fun F _ _ e=>?_)))));replace e:=e.aS (SlO.of_flat (sz:=1) (f:=aq) (d:=0) (l:=[i,za]) (fun _=>rfl) e.f.1);exact ar 35 e (dt (sB F) 2 ([i,za]) 2 ((a+b)) (by first|rfl|assumption|(simp;done)|(simp;omega)|omega) (Dg.cons oM (Dg.one oM)) (by show i+18446744073709551616*(za+18446744073709551616*0)=a+b;omega) sM sM _ _ e.g e.f.1) (fun _ _ e=>lP 0 0 (nc (a+b)) e (fun _ e=>ae e [(0,0,2)] (nv (a+b)) rfl))
 have D:=eq_of_beq zb;exact lB 29 zb (ak (aa e [.c,.v (.agg #[mV i,eS])] (lP 0 0 ([mV i,eS]) e (fun _ e=>ae e [(0,0,2)] (.agg #[mV i,eS]) (by rw[show i=a+b by omega];exact jw oM)))))
theorem JN (a b:Nat)(hla:(wds a).length<=1000000000)(hlb:(wds b).length<=1000000000)(has:18446744073709551616<=a)(hb0:0<b)(hle:(wds b).length<=(wds a).length)(w:World)(h:Hp)(g:G w h):CV 232 #[nv a,nv b] w h (nv (a+b)):=by
 have e:=sS g;refine go Tryz.func232 [(0,nv a),(1,nv b)] rfl (ax (lA 2 40 (nc a) e (fun C w2 h3 e=>lA 3 40 (nc b) e (fun F w5 h6 e=>lA 4 40 ([uV 0,eS]) e (fun D w8 h9 e=>ah (aa e [.v (qP C 1),.o (.string (hi a)) 2 1 1] (lV 14 qF ?_ (hr:=rb kR (je (fF has))))))))));refine lL e ac (lG 16 ?_);refine lG 17 (lG 18 (lL e [.v qF] (ag (cK (cQ ?_)))));obtain ⟨K,hK_⟩:∃ K,K=w8.heap.size:=⟨_,rfl⟩;have Z:D<K:=by rw[hK_];exact fe e 0
 have J:F<K:=by rw[hK_];exact fe e 1
 have I:C<K:=by rw[hK_];exact fe e 2
 refine wg ⟨[],some (K,[])⟩ 0 mixed ?_;have bx:=e.g.size;replace e:=e.drew;have B:=M0 hK_;refine zO 0 36 [(2,0,2)] (nv a) rfl B e (fun p hp=>by obtain rfl:=te.1 hp;exact I) (zO 2 38 [(1,0,2)] (nv b) rfl B e (fun p hp=>by obtain rfl:=te.1 hp;exact J) (se 1 37 (f4 a oM oM _ _ e.g) rfl B ?_));rintro _ _ _ u12 B ⟨j,rfl,L,U,br⟩;obtain ⟨_,e,-,-⟩:=e.take u12 L U;replace e:=e.to [⟨j,38,(wds a).flatMap aq⟩,⟨D,40,[uV 0,eS]⟩,⟨F,40,nc b⟩,⟨C,40,nc a⟩] [];refine se 3 39 (f4 b oM oM _ _ e.g) rfl B ?_;rintro _ _ _ u16 B ⟨u,rfl,O,M,bf⟩;obtain ⟨zn,e,-,-⟩:=e.take u16 O M;replace e:=e.to [⟨u,38,(wds b).flatMap aq⟩,⟨j,38,(wds a).flatMap aq⟩,⟨D,40,[uV 0,eS]⟩,⟨F,40,nc b⟩,⟨C,40,nc a⟩] [];refine zV 4 7 (qS (sB j) ((wds a).length) ((wds a).length)) (zV 5 8 (qS (sB u) ((wds b).length) ((wds b).length)) (tN (cQ (aa e [.c,.v (nV ((wds a).length)),.c,.v (nV ((wds b).length))] ?_))));have ⟨zk,bb⟩:=dF (p:=(((wds a).length:Nat):Int)<(((wds b).length:Nat):Int)) oM;refine lB 44 zk (ag (cK (aa e ac (ah (aa e [.c,.v (nV ((wds a).length)),.c] (aY ?_))))));refine bH _ (CG.loop (fun μ_ Γ w_=>∃ (i:Nat) (l:List Nat) (x:Nat) (h_:Hp),μ_=(wds a).length-i/\Γ=[(4,pB D),(7,qS (sB j) ((wds a).length) ((wds a).length)),(8,qS (sB u) ((wds b).length) ((wds b).length)),(48,nV ((wds a).length)),(49,nV i),(9,mV x)]/\SS w h w_ h_ [⟨u,38,(wds b).flatMap aq⟩,⟨j,38,(l).flatMap aq⟩,⟨D,40,[uV 0,eS]⟩,⟨F,40,nc b⟩,⟨C,40,nc a⟩] [] []/\i<=(wds a).length/\l.length=(wds a).length/\Wd l/\x<=1/\ai 18446744073709551616 l+18446744073709551616^i*x=a+ai 18446744073709551616 ((wds b:List Nat).take i)) _ ⟨0,wds a,0,zn,rfl,rfl,e.to _ _,MG _,rfl,Wd.wds _,oM,(by have hx_:ai 18446744073709551616 (wds a)=a:=ay _;rw[hx_];simp[ai])⟩ ?_);rintro _ _ _ ⟨i,l,x,zj,bz,rfl,e,hi,W,V,hcy,inv⟩;have hlk:=V.get i;have hyk:=(Wd.wds b).get i;refine ax ?_;cases za:(decide ((i:Int)<(((wds a).length:Nat):Int)))
 .
  have zf:=oF za;refine lB 50 za (ah (dr (CG.exit ?_)))
  show CG _ _ _ _ _ _ _ _
  refine cQ (ax ?_);have H:=inv;rw[Mu (show (wds b).length<=i by first|omega|(simp;done)|(simp;omega))] at H
  rw[show i=l.length by omega] at H
  have hE_:ai 18446744073709551616 (wds b)=b:=ay _;replace H:ai 18446744073709551616 l+18446744073709551616^l.length*x=(a+b):=by rw[H,hE_];first|done|omega
  refine lL e ac ?_;cases zb:((x:Int) != (0:Int))
  .
   have zg:=aW zb;refine lB 75 zb (ag (cK (ax ?_)));obtain ⟨_,e,Q,b0,bm⟩:=e.pub 1;replace e:=(e.to [⟨u,38,(wds b).flatMap aq⟩,⟨D,40,[uV 0,eS]⟩,⟨F,40,nc b⟩,⟨C,40,nc a⟩] []).aS (SlO.of_flat (sz:=1) (f:=aq) (d:=0) (b:=j) (o:=0) (l:=l) (fun _=>rfl) Q);exact lL e ac (ar 81 e (dt (sB j) ((wds a).length) (l) ((wds a).length) ((a+b)) (by first|rfl|assumption|(simp;done)|(simp;omega)|omega) (V) (by rw[show x=0 by omega,Mj,y5] at H;exact H) sM sM _ _ e.g e.f.1) (fun _ _ e=>lP 1 0 (nc (a+b)) e (fun _ e=>ae e [(1,0,2)] (nv (a+b)) rfl)))
  have zg:=aN zb;refine lB 75 zb (ak (kQ (lL e aD (lR 78 38 1 ([mV x]) e (fun zo _ _ e=>J0 79 1 ((wds a).length) zo l aq 0 x 8 (uV 0) e e.f.1 oM oM (fun zp zq _ _ e bd=>?_))))));replace e:=e.to [⟨u,38,(wds b).flatMap aq⟩,⟨D,40,[uV 0,eS]⟩,⟨F,40,nc b⟩,⟨C,40,nc a⟩] [];exact lL e ac (aG (lL e ac (ar 81 e (dt zp zq (l++[x]) ((wds a).length+1) ((a+b)) (by first|rfl|assumption|(simp;done)|(simp;omega)|omega) (Dg.append V (Dg.one oM)) (by show ai _ (l++[x])=_;rw[cP];show _+_*(x+_*0)=_;rw[Mj,y5];exact H) sM sM _ _ e.g e.f.1) (fun _ _ e=>lP 1 0 (nc (a+b)) e (fun _ e=>ae e [(1,0,2)] (nv (a+b)) rfl)))))
 have zf:=oT za;refine lB 50 za (ah (co (cK (cQ (kZ (aa e aD (aG (lL e ac (ah (aa e [.c,.c,.v (nV ((wds b).length))] ?_))))))))));cases Y:(decide ((i:Int)<(((wds b).length:Nat):Int)))
 .
  have zi:=oF Y;refine lB 55 Y (ag (cK (kQ (lL e pd (lX 65 (sB j) ((wds a).length) ((wds a).length) 1 (i:Nat) i rfl ?_)))));refine lQ 66 1 l aq 1 0 i (mV ((l).getD i 0)) e oM (lL e aD ?_);obtain ⟨z,zd,bq,bt,b2,X⟩:=eW ((l).getD i 0) 0 x wM wM oM;refine lV 69 (.tuple #[mV z,mV zd]) ?_ (hr:=d8 kR (X _));refine lL e [.c,.v (mV z),.v (mV zd)] (lX 72 (sB j) ((wds a).length) ((wds a).length) 1 (i:Nat) i rfl ?_);refine lW 1 l aq 1 i z e oM (fun _ e=>?_);have zl:((l).set i z).length=(wds a).length:=by rw[LB];exact W
  replace e:=e.to [⟨u,38,(wds b).flatMap aq⟩,⟨j,38,((l).set i z).flatMap aq⟩,⟨D,40,[uV 0,eS]⟩,⟨F,40,nc b⟩,⟨C,40,nc a⟩] [];refine lL e ac (lN (kQ (bh 73 ((i:Nat)+1) (i+1) ?_)));refine lL e ac (lD ?_);intro a_ ka;refine ⟨_,_,?_,⟨i+1,(l).set i z,zd,zj,rfl,rfl,e.to _ _,oM,zl,(V.set _ oM),oM,(gy oM inv (by first|omega|(have hy0:=cn (l:=(wds b:List Nat)) (k:=i) (by first|omega|(simp;done));omega)))⟩,ka.to _ kR⟩
  omega
 have zi:=oT Y;refine lB 55 Y (ak (kQ (lL e aD (lX 58 (sB u) ((wds b).length) ((wds b).length) 1 (i:Nat) i rfl ?_))));refine lQ 59 0 (wds b) aq 1 0 i (mV ((wds b).getD i 0)) e oM (lL e ac (lN (kQ (lL e pd (lX 65 (sB j) ((wds a).length) ((wds a).length) 1 (i:Nat) i rfl ?_)))));refine lQ 66 1 l aq 1 0 i (mV ((l).getD i 0)) e oM (lL e aD ?_);obtain ⟨y,ze,bn,bk,bl,S⟩:=eW ((l).getD i 0) ((wds b).getD i 0) x wM wM oM;refine lV 69 (.tuple #[mV y,mV ze]) ?_ (hr:=d8 kR (S _));refine lL e [.c,.v (mV y),.v (mV ze)] (lX 72 (sB j) ((wds a).length) ((wds a).length) 1 (i:Nat) i rfl ?_);refine lW 1 l aq 1 i y e oM (fun _ e=>?_);have zm:((l).set i y).length=(wds a).length:=by rw[LB];exact W
 replace e:=e.to [⟨u,38,(wds b).flatMap aq⟩,⟨j,38,((l).set i y).flatMap aq⟩,⟨D,40,[uV 0,eS]⟩,⟨F,40,nc b⟩,⟨C,40,nc a⟩] [];refine lL e ac (lN (kQ (bh 73 ((i:Nat)+1) (i+1) ?_)));refine lL e ac (lD ?_);intro a_ ka;refine ⟨_,_,?_,⟨i+1,(l).set i y,ze,zj,rfl,rfl,e.to _ _,oM,zm,(V.set _ oM),oM,(gy oM inv (by first|omega|(have hy0:=cn (l:=(wds b:List Nat)) (k:=i) (by first|omega|(simp;done));omega)))⟩,ka.to _ kR⟩
 omega
theorem Fr (a b:Nat)(hla:(wds a).length<=1000000000)(hlb:(wds b).length<=1000000000)(ha0:0<a)(hbs:18446744073709551616<=b)(hlt:(wds a).length<(wds b).length)(w:World)(h:Hp)(g:G w h):CV 232 #[nv a,nv b] w h (nv (a+b)):=by
 have e:=sS g;refine go Tryz.func232 [(0,nv a),(1,nv b)] rfl (ax (lA 2 40 (nc a) e (fun D w2 h3 e=>lA 3 40 (nc b) e (fun C w5 h6 e=>lA 4 40 ([uV 0,eS]) e (fun F w8 h9 e=>?_)))));refine lN (CG.join (fun Γ w_=>∃  (h_:Hp),Γ=[(2,pB D),(3,pB C),(4,pB F)]/\SS w h w_ h_ [⟨F,40,[uV 0,eS]⟩,⟨C,40,nc b⟩,⟨D,40,nc a⟩] [] []) ?_ ?_)
 .
  refine aa e [.v (qP D 1),.o (.string (hi a)) 2 1 1] ?_;cases za:(kj (hi a) (⟨#[]⟩))
  .
   have zg:=g6 za;refine lB 14 za (lL e ac (lG 16 ?_));refine lG 17 (lG 18 (lL e [.v qF] (ag (CG.skip ?_))));intro a_ I;exact ⟨_,⟨h9,rfl,e.to _ _⟩,I.to _ kR⟩
  have zg:=g5 za;refine lB 14 za (lL e [.c,.v (qP C 1),.o (.string (hi b)) 1 1 1] (lV 18 qF ?_ (hr:=rb kR (je (fF hbs)))));refine lL e [.v qF] (ag (CG.skip ?_));intro a_ I;exact ⟨_,⟨h9,rfl,e.to _ _⟩,I.to _ kR⟩
 rintro _ zp ⟨_,rfl,e⟩;refine cQ ?_;obtain ⟨L,hK_⟩:∃ L,L=zp.heap.size:=⟨_,rfl⟩;have bb:F<L:=by rw[hK_];exact fe e 0
 have K:C<L:=by rw[hK_];exact fe e 1
 have J:D<L:=by rw[hK_];exact fe e 2
 refine wg ⟨[],some (L,[])⟩ 0 mixed ?_;have b0:=e.g.size;replace e:=e.drew;have B:=M0 hK_;refine zO 0 36 [(2,0,2)] (nv a) rfl B e (fun p hp=>by obtain rfl:=te.1 hp;exact J) (zO 2 38 [(1,0,2)] (nv b) rfl B e (fun p hp=>by obtain rfl:=te.1 hp;exact K) (se 1 37 (f4 a oM oM _ _ e.g) rfl B ?_));rintro _ _ _ u15 B ⟨u,rfl,M,V,bq⟩;obtain ⟨_,e,-,-⟩:=e.take u15 M V;replace e:=e.to [⟨u,38,(wds a).flatMap aq⟩,⟨F,40,[uV 0,eS]⟩,⟨C,40,nc b⟩,⟨D,40,nc a⟩] [];refine se 3 39 (f4 b oM oM _ _ e.g) rfl B ?_;rintro _ _ _ u19 B ⟨j,rfl,U,Q,bk⟩;obtain ⟨zq,e,-,-⟩:=e.take u19 U Q;replace e:=e.to [⟨j,38,(wds b).flatMap aq⟩,⟨u,38,(wds a).flatMap aq⟩,⟨F,40,[uV 0,eS]⟩,⟨C,40,nc b⟩,⟨D,40,nc a⟩] [];refine zV 4 7 (qS (sB u) ((wds a).length) ((wds a).length)) (zV 5 8 (qS (sB j) ((wds b).length) ((wds b).length)) (tN (cQ (aa e [.c,.v (nV ((wds a).length)),.c,.v (nV ((wds b).length))] ?_))));have ⟨zm,bf⟩:=dT (p:=(((wds a).length:Nat):Int)<(((wds b).length:Nat):Int)) oM;refine lB 44 zm (ak (kQ (lL e pd (aG (lL e ac (ah (aa e [.c,.v (nV ((wds b).length)),.c] (aY ?_))))))));refine bH _ (CG.loop (fun μ_ Γ w_=>∃ (i:Nat) (l:List Nat) (x:Nat) (h_:Hp),μ_=(wds b).length-i/\Γ=[(4,pB F),(7,qS (sB j) ((wds b).length) ((wds b).length)),(8,qS (sB u) ((wds a).length) ((wds a).length)),(48,nV ((wds b).length)),(49,nV i),(9,mV x)]/\SS w h w_ h_ [⟨j,38,(l).flatMap aq⟩,⟨u,38,(wds a).flatMap aq⟩,⟨F,40,[uV 0,eS]⟩,⟨C,40,nc b⟩,⟨D,40,nc a⟩] [] []/\i<=(wds b).length/\l.length=(wds b).length/\Wd l/\x<=1/\ai 18446744073709551616 l+18446744073709551616^i*x=b+ai 18446744073709551616 ((wds a:List Nat).take i)) _ ⟨0,wds b,0,zq,rfl,rfl,e.to _ _,MG _,rfl,Wd.wds _,oM,(by have hx_:ai 18446744073709551616 (wds b)=b:=ay _;rw[hx_];simp[ai])⟩ ?_);rintro _ _ _ ⟨i,l,x,zl,bt,rfl,e,hi,Y,X,hcy,inv⟩;have hlk:=X.get i;have hyk:=(Wd.wds a).get i;refine ax ?_;cases zb:(decide ((i:Int)<(((wds b).length:Nat):Int)))
 .
  have zi:=oF zb;refine lB 50 zb (ah (dr (CG.exit ?_)))
  show CG _ _ _ _ _ _ _ _
  refine cQ (ax ?_);have H:=inv;rw[Mu (show (wds a).length<=i by first|omega|(simp;done)|(simp;omega))] at H
  rw[show i=l.length by omega] at H
  have hE_:ai 18446744073709551616 (wds a)=a:=ay _;replace H:ai 18446744073709551616 l+18446744073709551616^l.length*x=(a+b):=by rw[H,hE_];first|done|omega
  refine lL e ac ?_;cases Z:((x:Int) != (0:Int))
  .
   have zj:=aW Z;refine lB 75 Z (ag (cK (ax ?_)));obtain ⟨_,e,W,b3,bm⟩:=e.pub 0;replace e:=(e.to [⟨u,38,(wds a).flatMap aq⟩,⟨F,40,[uV 0,eS]⟩,⟨C,40,nc b⟩,⟨D,40,nc a⟩] []).aS (SlO.of_flat (sz:=1) (f:=aq) (d:=0) (b:=j) (o:=0) (l:=l) (fun _=>rfl) W);exact lL e ac (ar 81 e (dt (sB j) ((wds b).length) (l) ((wds b).length) ((a+b)) (by first|rfl|assumption|(simp;done)|(simp;omega)|omega) (X) (by rw[show x=0 by omega,Mj,y5] at H;exact H) sM sM _ _ e.g e.f.1) (fun _ _ e=>lP 1 0 (nc (a+b)) e (fun _ e=>ae e [(1,0,2)] (nv (a+b)) rfl)))
  have zj:=aN Z;refine lB 75 Z (ak (kQ (lL e aD (lR 78 38 1 ([mV x]) e (fun zr _ _ e=>J0 79 0 ((wds b).length) zr l aq 0 x 8 (uV 0) e e.f.1 oM oM (fun zs zt _ _ e bd=>?_))))));replace e:=e.to [⟨u,38,(wds a).flatMap aq⟩,⟨F,40,[uV 0,eS]⟩,⟨C,40,nc b⟩,⟨D,40,nc a⟩] [];exact lL e ac (aG (lL e ac (ar 81 e (dt zs zt (l++[x]) ((wds b).length+1) ((a+b)) (by first|rfl|assumption|(simp;done)|(simp;omega)|omega) (Dg.append X (Dg.one oM)) (by show ai _ (l++[x])=_;rw[cP];show _+_*(x+_*0)=_;rw[Mj,y5];exact H) sM sM _ _ e.g e.f.1) (fun _ _ e=>lP 1 0 (nc (a+b)) e (fun _ e=>ae e [(1,0,2)] (nv (a+b)) rfl)))))
 have zi:=oT zb;refine lB 50 zb (ah (co (cK (cQ (kZ (aa e aD (aG (lL e ac (ah (aa e [.c,.c,.v (nV ((wds a).length))] ?_))))))))));cases zd:(decide ((i:Int)<(((wds a).length:Nat):Int)))
 .
  have zk:=oF zd;refine lB 55 zd (ag (cK (kQ (lL e pd (lX 65 (sB j) ((wds b).length) ((wds b).length) 1 (i:Nat) i rfl ?_)))));refine lQ 66 0 l aq 1 0 i (mV ((l).getD i 0)) e oM (lL e aD ?_);obtain ⟨y,ze,br,bl,b2,O⟩:=eW ((l).getD i 0) 0 x wM wM oM;refine lV 69 (.tuple #[mV y,mV ze]) ?_ (hr:=d8 kR (O _));refine lL e [.c,.v (mV y),.v (mV ze)] (lX 72 (sB j) ((wds b).length) ((wds b).length) 1 (i:Nat) i rfl ?_);refine lW 0 l aq 1 i y e oM (fun _ e=>?_);have zn:((l).set i y).length=(wds b).length:=by rw[LB];exact Y
  replace e:=e.to [⟨j,38,((l).set i y).flatMap aq⟩,⟨u,38,(wds a).flatMap aq⟩,⟨F,40,[uV 0,eS]⟩,⟨C,40,nc b⟩,⟨D,40,nc a⟩] [];refine lL e ac (lN (kQ (bh 73 ((i:Nat)+1) (i+1) ?_)));refine lL e ac (lD ?_);intro a_ I;refine ⟨_,_,?_,⟨i+1,(l).set i y,ze,zl,rfl,rfl,e.to _ _,oM,zn,(X.set _ oM),oM,(gy oM inv (by first|omega|(have hy0:=cn (l:=(wds a:List Nat)) (k:=i) (by first|omega|(simp;done));omega)))⟩,I.to _ kR⟩
  omega
 have zk:=oT zd;refine lB 55 zd (ak (kQ (lL e aD (lX 58 (sB u) ((wds a).length) ((wds a).length) 1 (i:Nat) i rfl ?_))));refine lQ 59 1 (wds a) aq 1 0 i (mV ((wds a).getD i 0)) e oM (lL e ac (lN (kQ (lL e pd (lX 65 (sB j) ((wds b).length) ((wds b).length) 1 (i:Nat) i rfl ?_)))));refine lQ 66 0 l aq 1 0 i (mV ((l).getD i 0)) e oM (lL e aD ?_);obtain ⟨z,zf,bz,bx,bn,S⟩:=eW ((l).getD i 0) ((wds a).getD i 0) x wM wM oM;refine lV 69 (.tuple #[mV z,mV zf]) ?_ (hr:=d8 kR (S _));refine lL e [.c,.v (mV z),.v (mV zf)] (lX 72 (sB j) ((wds b).length) ((wds b).length) 1 (i:Nat) i rfl ?_);refine lW 0 l aq 1 i z e oM (fun _ e=>?_);have zo:((l).set i z).length=(wds b).length:=by rw[LB];exact Y
 replace e:=e.to [⟨j,38,((l).set i z).flatMap aq⟩,⟨u,38,(wds a).flatMap aq⟩,⟨F,40,[uV 0,eS]⟩,⟨C,40,nc b⟩,⟨D,40,nc a⟩] [];refine lL e ac (lN (kQ (bh 73 ((i:Nat)+1) (i+1) ?_)));refine lL e ac (lD ?_);intro a_ I;refine ⟨_,_,?_,⟨i+1,(l).set i z,zf,zl,rfl,rfl,e.to _ _,oM,zo,(X.set _ oM),oM,(gy oM inv (by first|omega|(have hy0:=cn (l:=(wds a:List Nat)) (k:=i) (by first|omega|(simp;done));omega)))⟩,I.to _ kR⟩
 omega
theorem Hh (b:Nat)(hl:(wds b).length<=1000000000)(K:18446744073709551616<=b)(w:World)(h:Hp)(g:G w h):CV 232 #[nv 0,nv b] w h (nv (0+b)):=by
 have a:=sS g;have h2l:=de K;refine go Tryz.func232 [(0,nv 0),(1,nv b)] rfl (ax (lA 2 40 (nc 0) a (fun F w2 h3 a=>lA 3 40 (nc b) a (fun D w5 h6 a=>lA 4 40 ([uV 0,eS]) a (fun C w8 h9 a=>ah (aa a [.v (qP F 1),.o (.string (hi 0)) 2 1 1] (lV 14 qT ?_ (hr:=rb kR (jz rfl)))))))));refine lL a [.c,.v (qP D 1),.o (.string (hi b)) 1 1 1] (lV 18 qF ?_ (hr:=rb kR (je (fF K))));refine lL a [.v qF] (ag (cK (cQ ?_)));obtain ⟨H,hK_⟩:∃ H,H=w8.heap.size:=⟨_,rfl⟩;have W:C<H:=by rw[hK_];exact fe a 0
 have z:D<H:=by rw[hK_];exact fe a 1
 have y:F<H:=by rw[hK_];exact fe a 2
 refine wg ⟨[],some (H,[])⟩ 0 mixed ?_;have bm:=a.g.size;replace a:=a.drew;have j:=M0 hK_;refine zO 0 36 [(2,0,2)] (nv 0) rfl j a (fun p Q=>by obtain rfl:=te.1 Q;exact y) (zO 2 38 [(1,0,2)] (nv b) rfl j a (fun p Q=>by obtain rfl:=te.1 Q;exact z) (se 1 37 (ll _ _ a.g) rfl j ?_));rintro _ _ _ Z j rfl;replace a:=a.step Z;refine se 3 39 (f4 b oM oM _ _ a.g) rfl j ?_;rintro _ _ _ S j ⟨e,rfl,I,J,bn⟩;obtain ⟨zj,a,-,-⟩:=a.take S I J;replace a:=a.to [⟨e,38,(wds b).flatMap aq⟩,⟨C,40,[uV 0,eS]⟩,⟨D,40,nc b⟩,⟨F,40,nc 0⟩] [];refine zV 4 7 (sZ) (zV 5 8 (qS (sB e) ((wds b).length) ((wds b).length)) (tN (cQ (aa a [.c,.v (iV 0),.c,.v (nV ((wds b).length))] ?_))));have ⟨zf,X⟩:=dT (p:=(0:Int)<(((wds b).length:Nat):Int)) oM;refine lB 44 zf (ak (kQ (lL a pd (aG (lL a ac (ah (aa a [.c,.v (nV ((wds b).length)),.c] (aY ?_))))))));refine bH _ (CG.loop (fun μ_ Γ w_=>∃ (i:Nat) (l:List Nat) (u:Nat) (h_:Hp),μ_=(wds b).length-i/\Γ=[(4,pB C),(7,qS (sB e) ((wds b).length) ((wds b).length)),(8,sZ),(48,nV ((wds b).length)),(49,nV i),(9,mV u)]/\SS w h w_ h_ [⟨e,38,(l).flatMap aq⟩,⟨C,40,[uV 0,eS]⟩,⟨D,40,nc b⟩,⟨F,40,nc 0⟩] [] []/\i<=(wds b).length/\l.length=(wds b).length/\Wd l/\u<=1/\ai 18446744073709551616 l+18446744073709551616^i*u=b+ai 18446744073709551616 (([]:List Nat).take i)) _ ⟨0,wds b,0,zj,rfl,rfl,a.to _ _,MG _,rfl,Wd.wds _,oM,(by have Y:ai 18446744073709551616 (wds b)=b:=ay _;rw[Y];simp[ai])⟩ ?_);rintro _ _ _ ⟨i,l,u,zk,bk,rfl,a,hi,hll,O,hcy,inv⟩;have hlk:=O.get i;have hyk:=Wd.get (l:=[]) Dg.nil i;refine ax ?_;cases za:(decide ((i:Int)<(((wds b).length:Nat):Int)))
 .
  have zd:=oF za;refine lB 50 za (ah (dr (CG.exit ?_)))
  show CG _ _ _ _ _ _ _ _
  refine cQ (ax ?_);have B:=inv;rw[Mu (show ([]).length<=i by first|omega|(simp;done)|(simp;omega))] at B
  rw[show i=l.length by omega] at B
  have hE_:([]:List Nat)=[]:=rfl;replace B:ai 18446744073709551616 l+18446744073709551616^l.length*u=(0+b):=by rw[B];simp[ai]
  refine lL a ac ?_;cases zb:((u:Int) != (0:Int))
  .
   have ze:=aW zb;refine lB 75 zb (ag (cK (ax ?_)));obtain ⟨_,a,L,bl,bd⟩:=a.pub 0;replace a:=(a.to [⟨C,40,[uV 0,eS]⟩,⟨D,40,nc b⟩,⟨F,40,nc 0⟩] []).aS (SlO.of_flat (sz:=1) (f:=aq) (d:=0) (b:=e) (o:=0) (l:=l) (fun _=>rfl) L);exact lL a ac (ar 81 a (dt (sB e) ((wds b).length) (l) ((wds b).length) ((0+b)) (by first|rfl|assumption|(simp;done)|(simp;omega)|omega) (O) (by rw[show u=0 by omega,Mj,y5] at B;exact B) sM sM _ _ a.g a.f.1) (fun _ _ a=>lP 0 0 (nc (0+b)) a (fun _ a=>ae a [(0,0,2)] (nv (0+b)) rfl)))
  have ze:=aN zb;refine lB 75 zb (ak (kQ (lL a aD (lR 78 38 1 ([mV u]) a (fun zl _ _ a=>J0 79 0 ((wds b).length) zl l aq 0 u 8 (uV 0) a a.f.1 oM oM (fun zm zn _ _ a V=>?_))))));replace a:=a.to [⟨C,40,[uV 0,eS]⟩,⟨D,40,nc b⟩,⟨F,40,nc 0⟩] [];exact lL a ac (aG (lL a ac (ar 81 a (dt zm zn (l++[u]) ((wds b).length+1) ((0+b)) (by first|rfl|assumption|(simp;done)|(simp;omega)|omega) (Dg.append O (Dg.one oM)) (by show ai _ (l++[u])=_;rw[cP];show _+_*(u+_*0)=_;rw[Mj,y5];exact B) sM sM _ _ a.g a.f.1) (fun _ _ a=>lP 0 0 (nc (0+b)) a (fun _ a=>ae a [(0,0,2)] (nv (0+b)) rfl)))))
 have zd:=oT za;refine lB 50 za (ah (co (cK (cQ (kZ (aa a aD (aG (lL a ac (ah (aa a [.c,.c,.v (iV 0)] ?_))))))))));have ⟨zg,bb⟩:=dF (p:=(i:Int)<(0:Int)) oM;refine lB 55 zg (ag (cK (kQ (lL a pd (lX 65 (sB e) ((wds b).length) ((wds b).length) 1 (i:Nat) i rfl ?_)))));refine lQ 66 0 l aq 1 0 i (mV ((l).getD i 0)) a oM (lL a aD ?_);obtain ⟨x,U,br,bq,bf,M⟩:=eW ((l).getD i 0) 0 u wM wM oM;refine lV 69 (.tuple #[mV x,mV U]) ?_ (hr:=d8 kR (M _));refine lL a [.c,.v (mV x),.v (mV U)] (lX 72 (sB e) ((wds b).length) ((wds b).length) 1 (i:Nat) i rfl ?_);refine lW 0 l aq 1 i x a oM (fun _ a=>?_);have zi:((l).set i x).length=(wds b).length:=by rw[LB];exact hll
 replace a:=a.to [⟨e,38,((l).set i x).flatMap aq⟩,⟨C,40,[uV 0,eS]⟩,⟨D,40,nc b⟩,⟨F,40,nc 0⟩] [];refine lL a ac (lN (kQ (bh 73 ((i:Nat)+1) (i+1) ?_)));refine lL a ac (lD ?_);intro a_ ka;refine ⟨_,_,?_,⟨i+1,(l).set i x,U,zk,rfl,rfl,a.to _ _,oM,zi,(O.set _ oM),oM,(gy oM inv (by first|omega|(have hy0:=cn (l:=([]:List Nat)) (k:=i) (by first|omega|(simp;done));omega)))⟩,ka.to _ kR⟩
 omega
theorem FG (a:Nat)(hl:(wds a).length<=1000000000)(has:18446744073709551616<=a)(w:World)(h:Hp)(g:G w h):CV 232 #[nv a,nv 0] w h (nv (a+0)):=by
 have e:=sS g;have h2l:=de has;refine go Tryz.func232 [(0,nv a),(1,nv 0)] rfl (ax (lA 2 40 (nc a) e (fun F w2 h3 e=>lA 3 40 (nc 0) e (fun I w5 h6 e=>lA 4 40 ([uV 0,eS]) e (fun D w8 h9 e=>ah (aa e [.v (qP F 1),.o (.string (hi a)) 2 1 1] (lV 14 qF ?_ (hr:=rb kR (je (fF has))))))))));refine lL e ac (lG 16 ?_);refine lG 17 (lG 18 (lL e [.v qF] (ag (cK (cQ ?_)))));obtain ⟨H,hK_⟩:∃ H,H=w8.heap.size:=⟨_,rfl⟩;have V:D<H:=by rw[hK_];exact fe e 0
 have B:I<H:=by rw[hK_];exact fe e 1
 have z:F<H:=by rw[hK_];exact fe e 2
 refine wg ⟨[],some (H,[])⟩ 0 mixed ?_;have bm:=e.g.size;replace e:=e.drew;have u:=M0 hK_;refine zO 0 36 [(2,0,2)] (nv a) rfl u e (fun p Q=>by obtain rfl:=te.1 Q;exact z) (zO 2 38 [(1,0,2)] (nv 0) rfl u e (fun p Q=>by obtain rfl:=te.1 Q;exact B) (se 1 37 (f4 a oM oM _ _ e.g) rfl u ?_));rintro _ _ _ Z u ⟨j,rfl,J,K,bn⟩;obtain ⟨_,e,-,-⟩:=e.take Z J K;replace e:=e.to [⟨j,38,(wds a).flatMap aq⟩,⟨D,40,[uV 0,eS]⟩,⟨I,40,nc 0⟩,⟨F,40,nc a⟩] [];refine se 3 39 (ll _ _ e.g) rfl u ?_;rintro _ _ zj W u rfl;replace e:=e.step W;refine zV 4 7 (qS (sB j) ((wds a).length) ((wds a).length)) (zV 5 8 (sZ) (tN (cQ (aa e [.c,.v (nV ((wds a).length)),.c,.v (iV 0)] ?_))));have ⟨zf,X⟩:=dF (p:=(((wds a).length:Nat):Int)<(0:Int)) oM;refine lB 44 zf (ag (cK (aa e ac (ah (aa e [.c,.v (nV ((wds a).length)),.c] (aY ?_))))));refine bH _ (CG.loop (fun μ_ Γ w_=>∃ (i:Nat) (l:List Nat) (x:Nat) (h_:Hp),μ_=(wds a).length-i/\Γ=[(4,pB D),(7,qS (sB j) ((wds a).length) ((wds a).length)),(8,sZ),(48,nV ((wds a).length)),(49,nV i),(9,mV x)]/\SS w h w_ h_ [⟨j,38,(l).flatMap aq⟩,⟨D,40,[uV 0,eS]⟩,⟨I,40,nc 0⟩,⟨F,40,nc a⟩] [] []/\i<=(wds a).length/\l.length=(wds a).length/\Wd l/\x<=1/\ai 18446744073709551616 l+18446744073709551616^i*x=a+ai 18446744073709551616 (([]:List Nat).take i)) _ ⟨0,wds a,0,zj,rfl,rfl,e.to _ _,MG _,rfl,Wd.wds _,oM,(by have Y:ai 18446744073709551616 (wds a)=a:=ay _;rw[Y];simp[ai])⟩ ?_);rintro _ _ _ ⟨i,l,x,zk,bk,rfl,e,hi,hll,O,hcy,inv⟩;have hlk:=O.get i;have hyk:=Wd.get (l:=[]) Dg.nil i;refine ax ?_;cases za:(decide ((i:Int)<(((wds a).length:Nat):Int)))
 .
  have zd:=oF za;refine lB 50 za (ah (dr (CG.exit ?_)))
  show CG _ _ _ _ _ _ _ _
  refine cQ (ax ?_);have C:=inv;rw[Mu (show ([]).length<=i by first|omega|(simp;done)|(simp;omega))] at C
  rw[show i=l.length by omega] at C
  have hE_:([]:List Nat)=[]:=rfl;replace C:ai 18446744073709551616 l+18446744073709551616^l.length*x=(a+0):=by rw[C];simp[ai]
  refine lL e ac ?_;cases zb:((x:Int) != (0:Int))
  .
   have ze:=aW zb;refine lB 75 zb (ag (cK (ax ?_)));obtain ⟨_,e,L,bl,bd⟩:=e.pub 0;replace e:=(e.to [⟨D,40,[uV 0,eS]⟩,⟨I,40,nc 0⟩,⟨F,40,nc a⟩] []).aS (SlO.of_flat (sz:=1) (f:=aq) (d:=0) (b:=j) (o:=0) (l:=l) (fun _=>rfl) L);exact lL e ac (ar 81 e (dt (sB j) ((wds a).length) (l) ((wds a).length) ((a+0)) (by first|rfl|assumption|(simp;done)|(simp;omega)|omega) (O) (by rw[show x=0 by omega,Mj,y5] at C;exact C) sM sM _ _ e.g e.f.1) (fun _ _ e=>lP 0 0 (nc (a+0)) e (fun _ e=>ae e [(0,0,2)] (nv (a+0)) rfl)))
  have ze:=aN zb;refine lB 75 zb (ak (kQ (lL e aD (lR 78 38 1 ([mV x]) e (fun zl _ _ e=>J0 79 0 ((wds a).length) zl l aq 0 x 8 (uV 0) e e.f.1 oM oM (fun zm zn _ _ e U=>?_))))));replace e:=e.to [⟨D,40,[uV 0,eS]⟩,⟨I,40,nc 0⟩,⟨F,40,nc a⟩] [];exact lL e ac (aG (lL e ac (ar 81 e (dt zm zn (l++[x]) ((wds a).length+1) ((a+0)) (by first|rfl|assumption|(simp;done)|(simp;omega)|omega) (Dg.append O (Dg.one oM)) (by show ai _ (l++[x])=_;rw[cP];show _+_*(x+_*0)=_;rw[Mj,y5];exact C) sM sM _ _ e.g e.f.1) (fun _ _ e=>lP 0 0 (nc (a+0)) e (fun _ e=>ae e [(0,0,2)] (nv (a+0)) rfl)))))
 have zd:=oT za;refine lB 50 za (ah (co (cK (cQ (kZ (aa e aD (aG (lL e ac (ah (aa e [.c,.c,.v (iV 0)] ?_))))))))));have ⟨zg,bb⟩:=dF (p:=(i:Int)<(0:Int)) oM;refine lB 55 zg (ag (cK (kQ (lL e pd (lX 65 (sB j) ((wds a).length) ((wds a).length) 1 (i:Nat) i rfl ?_)))));refine lQ 66 0 l aq 1 0 i (mV ((l).getD i 0)) e oM (lL e aD ?_);obtain ⟨y,S,br,bq,bf,M⟩:=eW ((l).getD i 0) 0 x wM wM oM;refine lV 69 (.tuple #[mV y,mV S]) ?_ (hr:=d8 kR (M _));refine lL e [.c,.v (mV y),.v (mV S)] (lX 72 (sB j) ((wds a).length) ((wds a).length) 1 (i:Nat) i rfl ?_);refine lW 0 l aq 1 i y e oM (fun _ e=>?_);have zi:((l).set i y).length=(wds a).length:=by rw[LB];exact hll
 replace e:=e.to [⟨j,38,((l).set i y).flatMap aq⟩,⟨D,40,[uV 0,eS]⟩,⟨I,40,nc 0⟩,⟨F,40,nc a⟩] [];refine lL e ac (lN (kQ (bh 73 ((i:Nat)+1) (i+1) ?_)));refine lL e ac (lD ?_);intro a_ ka;refine ⟨_,_,?_,⟨i+1,(l).set i y,S,zk,rfl,rfl,e.to _ _,oM,zi,(O.set _ oM),oM,(gy oM inv (by first|omega|(have hy0:=cn (l:=([]:List Nat)) (k:=i) (by first|omega|(simp;done));omega)))⟩,ka.to _ kR⟩
 omega
theorem If (a b:Nat)(c:(wds a).length<=1000000000)(d:(wds b).length<=1000000000)(w:World)(h:Hp)(g:G w h):CV 232 #[nv a,nv b] w h (nv (a+b)):=by
 rcases ea a 18446744073709551616 with h1|h1
 ·rcases ea b 18446744073709551616 with h2|h2
  ·exact H0 a b c d h1 h2 w h g
  ·rcases Ga a with h3|h3
   ·subst h3;exact Hh b d h2 w h g
   ·exact Fr a b c d h3 h2 (by have:=de h2;have:=(eD (n:=a)).2 h1;omega) w h g
 ·rcases Ga b with h3|h3
  ·subst h3;exact FG a c h1 w h g
  ·rcases ea (wds a).length (wds b).length with h4|h4
   ·exact Fr a b c d oM (by have:=de h1;rcases ea b 18446744073709551616 with h5|h5;(have:=(eD (n:=b)).2 h5;omega);exact h5) h4 w h g
   ·exact JN a b c d h1 h3 h4 w h g
theorem oP {l:List Nat}{a b c:Nat}(d:Wd l)(inv:ai 18446744073709551616 l+b=a+18446744073709551616^l.length*c)(e:b<=a)(f:c<=1):aA l=a-b:=by
 have h1:=bL d
 have:c=0:=by
  rcases Ga c with h|h
  ·exact h
  ·have:c=1:=by omega
   subst this;rw[Mh] at inv
   omega
 subst this;rw[Mj,y5] at inv
 show ai _ l=_
 omega
theorem Dj {a b q r:Nat}(h:a=b*q+r)(hr:r<b):q=a/b/\r=a%b:=by
 subst h;rw[Nat.mul_add_div oM,LP hr,Nat.mul_add_mod,A0 hr];simp
theorem gn (n:Nat)(d:(wds n).length<=1000000000)(w:World)(h:Hp)(g:G w h):CR 148 #[nv n] w h (fun v h1=>∃ A c,v=.slice A (wds n).length c/\(wds n).length<=c/\SlO 1 aq 0 h1 A (wds n)):=by
 rcases Ga n with h0|h0
 ·subst h0
  refine (ll w h g).mono ?_;rintro _ w' ⟨_,h',rfl,u,rfl⟩;exact ⟨_,h',rfl,u,none,0,rfl,nR _,SlO.nil⟩
 ·refine (f4 n h0 d w h g).mono ?_
  rintro _ w' ⟨_,h',rfl,u,b,rfl,_,_,a⟩;exact ⟨_,h',rfl,u,_,_,rfl,nR _,a⟩
theorem EV (a b:Nat)(i:a<b)(f:(wds a).length<=1000000000)(d:(wds b).length<=1000000000)(w:World)(h:Hp)(g:G w h):CV 299 #[nv a,nv b] w h (.tuple #[nv 0,.bool false]):=by
 have c:=sS g;have j:=dY i;refine go Tryz.func299 [(0,nv a),(1,nv b)] rfl (ax (lA 2 40 (nc a) c (fun D w2 z c=>lA 3 40 (nc b) c (fun C B y c=>lA 4 40 ([uV 0,eS]) c (fun x u l c=>lL c ac (ah (aa c [.o (nv a) 2 0 2,.o (nv b) 1 0 2] (ar 13 c (lr a b f d _ _ c.g) (fun _ _ c=>?_)))))))));have ⟨za,e⟩:=dT (p:=(bX a b:Int)<(0:Int)) oM;exact lB 14 za (ak (aa c [.v (.agg #[uV 0,eS])] (lP 0 0 ([uV 0,eS]) c (fun _ c=>lL c ac (ae c [(0,0,2)] (.tuple #[.agg #[uV 0,eS],qF]) rfl)))))
theorem IJ (a b:Nat)(f:(wds a).length<=1000000000)(d:(wds b).length<=1000000000)(i:b<=a)(has:a<18446744073709551616)(w:World)(h:Hp)(g:G w h):CV 299 #[nv a,nv b] w h (.tuple #[nv (a-b),.bool true]):=by
 have c:=sS g;have u:=fH i;refine go Tryz.func299 [(0,nv a),(1,nv b)] rfl (ax (lA 2 40 (nc a) c (fun j w2 C c=>lA 3 40 (nc b) c (fun l D B c=>lA 4 40 ([uV 0,eS]) c (fun z y x c=>lL c ac (ah (aa c [.o (nv a) 2 0 2,.o (nv b) 1 0 2] (ar 13 c (lr a b f d _ _ c.g) (fun _ _ c=>?_)))))))));have ⟨za,e⟩:=dF (p:=(bX a b:Int)<(0:Int)) oM;refine lB 14 za (ag (cK (cQ (aa c [.v (qP j 1),.o (.string (hi a)) 2 1 1] (lV 18 qT ?_ (hr:=rb kR (jz (ff has))))))));refine ak (aa c [.v (pB j),.o (mV (a%18446744073709551616)) 2 0 1,.v (pB l),.o (mV (b%18446744073709551616)) 1 0 1] (lV 23 (mV ((a%18446744073709551616)-(b%18446744073709551616))) ?_ (hr:=rU ((((a%18446744073709551616:Nat):Int)-((b%18446744073709551616:Nat):Int))) kR (fE (a%18446744073709551616) (b%18446744073709551616) oM oM))));exact lL c [.v (.agg #[mV ((a%18446744073709551616)-(b%18446744073709551616)),eS])] (lP 0 0 ([mV ((a%18446744073709551616)-(b%18446744073709551616)),eS]) c (fun _ c=>lL c ac (ae c [(0,0,2)] (.tuple #[.agg #[mV ((a%18446744073709551616)-(b%18446744073709551616)),eS],qT]) (by rw[A0 has,A0 (show b<18446744073709551616 by omega),jw oM]))))
theorem ID (a b:Nat)(hla:(wds a).length<=1000000000)(hlb:(wds b).length<=1000000000)(Q:b<=a)(has:18446744073709551616<=a)(hb0:0<b)(w:World)(h:Hp)(g:G w h):CV 299 #[nv a,nv b] w h (.tuple #[nv (a-b),.bool true]):=by
 have e:=sS g;have hcl:=fH Q;have hlm:=db Q;refine go Tryz.func299 [(0,nv a),(1,nv b)] rfl (ax (lA 2 40 (nc a) e (fun B w2 h3 e=>lA 3 40 (nc b) e (fun D w5 h6 e=>lA 4 40 ([uV 0,eS]) e (fun C w8 h9 e=>lL e ac (ah (aa e [.o (nv a) 2 0 2,.o (nv b) 1 0 2] (ar 13 e (lr a b hla hlb _ _ e.g) (fun zl _ e=>?_)))))))));have ⟨zi,Z⟩:=dF (p:=(bX a b:Int)<(0:Int)) oM;refine lB 14 zi (ag (cK (cQ (aa e [.v (qP B 1),.o (.string (hi a)) 2 1 1] (lV 18 qF ?_ (hr:=rb kR (je (fF has))))))));refine ag (cK (cQ ?_));obtain ⟨J,hK_⟩:∃ J,J=zl.heap.size:=⟨_,rfl⟩;have bb:C<J:=by rw[hK_];exact fe e 0
 have H:D<J:=by rw[hK_];exact fe e 1
 have F:B<J:=by rw[hK_];exact fe e 2
 refine wg ⟨[],some (J,[])⟩ 0 mixed ?_;have bt:=e.g.size;replace e:=e.drew;have y:=M0 hK_;refine zO 0 25 [(2,0,2)] (nv a) rfl y e (fun p hp=>by obtain rfl:=te.1 hp;exact F) (zO 2 27 [(1,0,2)] (nv b) rfl y e (fun p hp=>by obtain rfl:=te.1 hp;exact H) (se 1 26 (f4 a oM oM _ _ e.g) rfl y ?_));rintro _ _ _ Y y ⟨j,rfl,K,V,bn⟩;obtain ⟨_,e,-,-⟩:=e.take Y K V;replace e:=e.to [⟨j,38,(wds a).flatMap aq⟩,⟨C,40,[uV 0,eS]⟩,⟨D,40,nc b⟩,⟨B,40,nc a⟩] [];refine se 3 28 (f4 b oM oM _ _ e.g) rfl y ?_;rintro _ _ _ u19 y ⟨u,rfl,U,S,bd⟩;obtain ⟨zm,e,-,-⟩:=e.take u19 U S;replace e:=e.to [⟨u,38,(wds b).flatMap aq⟩,⟨j,38,(wds a).flatMap aq⟩,⟨C,40,[uV 0,eS]⟩,⟨D,40,nc b⟩,⟨B,40,nc a⟩] [];refine zV 4 6 (qS (sB j) ((wds a).length) ((wds a).length)) (zV 5 7 (qS (sB u) ((wds b).length) ((wds b).length)) (rD (lL e ac (ah (aa e [.c,.v (nV ((wds a).length)),.c] (aY ?_))))));refine bH _ (CG.loop (fun μ_ Γ w_=>∃ (i:Nat) (l:List Nat) (I:Nat) (h_:Hp),μ_=(wds a).length-i/\Γ=[(4,pB C),(5,qF),(6,qS (sB j) ((wds a).length) ((wds a).length)),(7,qS (sB u) ((wds b).length) ((wds b).length)),(30,nV ((wds a).length)),(31,nV i),(8,mV I)]/\SS w h w_ h_ [⟨u,38,(wds b).flatMap aq⟩,⟨j,38,(l).flatMap aq⟩,⟨C,40,[uV 0,eS]⟩,⟨D,40,nc b⟩,⟨B,40,nc a⟩] [] []/\i<=(wds a).length/\l.length=(wds a).length/\Wd l/\I<=1/\ai 18446744073709551616 l+ai 18446744073709551616 ((wds b:List Nat).take i)=a+18446744073709551616^i*I) _ ⟨0,wds a,0,zm,rfl,rfl,e.to _ _,MG _,rfl,Wd.wds _,oM,(by have hx_:ai 18446744073709551616 (wds a)=a:=ay _;rw[hx_];simp[ai])⟩ ?_);rintro _ _ _ ⟨i,l,I,zg,br,rfl,e,hi,X,W,hbo,inv⟩;have hlk:=W.get i;have hyk:=(Wd.wds b).get i;refine ax ?_;cases za:(decide ((i:Int)<(((wds a).length:Nat):Int)))
 .
  have ze:=oF za;refine lB 32 za (ah (dr (CG.exit ?_)))
  show CG _ _ _ _ _ _ _ _
  refine ax ?_;rw[Mu (show (wds b).length<=i by first|omega|(simp;done)|(simp;omega)),show i=l.length by omega] at inv
  have hE:aA l=a-b:=oP W (by have hb_:ai 18446744073709551616 (wds b)=b:=ay b;rw[<-hb_];exact inv) oM hbo;obtain ⟨_,e,O,bm,bq⟩:=e.pub 1;replace e:=(e.to [⟨u,38,(wds b).flatMap aq⟩,⟨C,40,[uV 0,eS]⟩,⟨D,40,nc b⟩,⟨B,40,nc a⟩] []).aS (SlO.of_flat (sz:=1) (f:=aq) (d:=0) (b:=j) (o:=0) (l:=l) (fun _=>rfl) O);exact lL e ac (ar 57 e (dt (sB j) ((wds a).length) (l) ((wds a).length) ((a-b)) (by first|rfl|assumption|(simp;done)|(simp;omega)|omega) (W) (hE) sM sM _ _ e.g e.f.1) (fun _ _ e=>lP 1 0 (nc (a-b)) e (fun _ e=>lL e ac (ae e [(1,0,2)] (.tuple #[nv (a-b),qT]) rfl))))
 have ze:=oT za;refine lB 32 za (ah (co (cK (cQ (kZ (aa e aD (aG (lL e ac (ah (aa e [.c,.c,.v (nV ((wds b).length))] ?_))))))))));cases zb:(decide ((i:Int)<(((wds b).length:Nat):Int)))
 .
  have zf:=oF zb;refine lB 37 zb (ag (cK (kQ (lL e pd (lX 47 (sB j) ((wds a).length) ((wds a).length) 1 (i:Nat) i rfl ?_)))));refine lQ 48 1 l aq 1 0 i (mV ((l).getD i 0)) e oM (lL e aD ?_);obtain ⟨z,zc,b0,bk,bl,M⟩:=jx ((l).getD i 0) 0 I wM wM oM;refine lV 51 (.tuple #[mV z,mV zc]) ?_ (hr:=d8 kR (M _));refine lL e [.c,.v (mV z),.v (mV zc)] (lX 54 (sB j) ((wds a).length) ((wds a).length) 1 (i:Nat) i rfl ?_);refine lW 1 l aq 1 i z e oM (fun _ e=>?_);have zj:((l).set i z).length=(wds a).length:=by rw[LB];exact X
  replace e:=e.to [⟨u,38,(wds b).flatMap aq⟩,⟨j,38,((l).set i z).flatMap aq⟩,⟨C,40,[uV 0,eS]⟩,⟨D,40,nc b⟩,⟨B,40,nc a⟩] [];refine lL e ac (lN (kQ (bh 55 ((i:Nat)+1) (i+1) ?_)));refine lL e ac (lD ?_);intro a_ ka;refine ⟨_,_,?_,⟨i+1,(l).set i z,zc,zg,rfl,rfl,e.to _ _,oM,zj,(W.set _ oM),oM,(iM oM inv (by first|omega|(have hy0:=cn (l:=(wds b:List Nat)) (k:=i) (by first|omega|(simp;done));omega)))⟩,ka.to _ kR⟩
  omega
 have zf:=oT zb;refine lB 37 zb (ak (kQ (lL e aD (lX 40 (sB u) ((wds b).length) ((wds b).length) 1 (i:Nat) i rfl ?_))));refine lQ 41 0 (wds b) aq 1 0 i (mV ((wds b).getD i 0)) e oM (lL e ac (lN (kQ (lL e pd (lX 47 (sB j) ((wds a).length) ((wds a).length) 1 (i:Nat) i rfl ?_)))));refine lQ 48 1 l aq 1 0 i (mV ((l).getD i 0)) e oM (lL e aD ?_);obtain ⟨x,zd,bx,bf,bz,L⟩:=jx ((l).getD i 0) ((wds b).getD i 0) I wM wM oM;refine lV 51 (.tuple #[mV x,mV zd]) ?_ (hr:=d8 kR (L _));refine lL e [.c,.v (mV x),.v (mV zd)] (lX 54 (sB j) ((wds a).length) ((wds a).length) 1 (i:Nat) i rfl ?_);refine lW 1 l aq 1 i x e oM (fun _ e=>?_);have zk:((l).set i x).length=(wds a).length:=by rw[LB];exact X
 replace e:=e.to [⟨u,38,(wds b).flatMap aq⟩,⟨j,38,((l).set i x).flatMap aq⟩,⟨C,40,[uV 0,eS]⟩,⟨D,40,nc b⟩,⟨B,40,nc a⟩] [];refine lL e ac (lN (kQ (bh 55 ((i:Nat)+1) (i+1) ?_)));refine lL e ac (lD ?_);intro a_ ka;refine ⟨_,_,?_,⟨i+1,(l).set i x,zd,zg,rfl,rfl,e.to _ _,oM,zk,(W.set _ oM),oM,(iM oM inv (by first|omega|(have hy0:=cn (l:=(wds b:List Nat)) (k:=i) (by first|omega|(simp;done));omega)))⟩,ka.to _ kR⟩
 omega
theorem Ja (a:Nat)(S:(wds a).length<=1000000000)(has:18446744073709551616<=a)(w:World)(h:Hp)(g:G w h):CV 299 #[nv a,nv 0] w h (.tuple #[nv a,.bool true]):=by
 have e:=sS g;have hcl:=fH (show 0<=a by omega);refine go Tryz.func299 [(0,nv a),(1,nv 0)] rfl (ax (lA 2 40 (nc a) e (fun D w2 h3 e=>lA 3 40 (nc 0) e (fun L w5 h6 e=>lA 4 40 ([uV 0,eS]) e (fun C w8 h9 e=>lL e ac (ah (aa e [.o (nv a) 2 0 2,.o (nv 0) 1 0 2] (ar 13 e (lr a 0 S (by simp[ni]) _ _ e.g) (fun zg _ e=>?_)))))))));have ⟨zd,V⟩:=dF (p:=(bX a 0:Int)<(0:Int)) oM;refine lB 14 zd (ag (cK (cQ (aa e [.v (qP D 1),.o (.string (hi a)) 2 1 1] (lV 18 qF ?_ (hr:=rb kR (je (fF has))))))));refine ag (cK (cQ ?_));obtain ⟨B,hK_⟩:∃ B,B=zg.heap.size:=⟨_,rfl⟩;have U:C<B:=by rw[hK_];exact fe e 0
 have z:L<B:=by rw[hK_];exact fe e 1
 have y:D<B:=by rw[hK_];exact fe e 2
 refine wg ⟨[],some (B,[])⟩ 0 mixed ?_;have bm:=e.g.size;replace e:=e.drew;have u:=M0 hK_;refine zO 0 25 [(2,0,2)] (nv a) rfl u e (fun p O=>by obtain rfl:=te.1 O;exact y) (zO 2 27 [(1,0,2)] (nv 0) rfl u e (fun p O=>by obtain rfl:=te.1 O;exact z) (se 1 26 (f4 a oM oM _ _ e.g) rfl u ?_));rintro _ _ _ Q u ⟨j,rfl,F,K,bn⟩;obtain ⟨_,e,-,-⟩:=e.take Q F K;replace e:=e.to [⟨j,38,(wds a).flatMap aq⟩,⟨C,40,[uV 0,eS]⟩,⟨L,40,nc 0⟩,⟨D,40,nc a⟩] [];refine se 3 28 (ll _ _ e.g) rfl u ?_;rintro _ _ zi Z u rfl;replace e:=e.step Z;refine zV 4 6 (qS (sB j) ((wds a).length) ((wds a).length)) (zV 5 7 (sZ) (rD (lL e ac (ah (aa e [.c,.v (nV ((wds a).length)),.c] (aY ?_))))));refine bH _ (CG.loop (fun μ_ Γ w_=>∃ (i:Nat) (l:List Nat) (I:Nat) (h_:Hp),μ_=(wds a).length-i/\Γ=[(4,pB C),(5,qF),(6,qS (sB j) ((wds a).length) ((wds a).length)),(7,sZ),(30,nV ((wds a).length)),(31,nV i),(8,mV I)]/\SS w h w_ h_ [⟨j,38,(l).flatMap aq⟩,⟨C,40,[uV 0,eS]⟩,⟨L,40,nc 0⟩,⟨D,40,nc a⟩] [] []/\i<=(wds a).length/\l.length=(wds a).length/\Wd l/\I<=1/\ai 18446744073709551616 l+ai 18446744073709551616 (([]:List Nat).take i)=a+18446744073709551616^i*I) _ ⟨0,wds a,0,zi,rfl,rfl,e.to _ _,MG _,rfl,Wd.wds _,oM,(by have W:ai 18446744073709551616 (wds a)=a:=ay _;rw[W];simp[ai])⟩ ?_);rintro _ _ _ ⟨i,l,I,zj,bd,rfl,e,hi,hll,M,Y,inv⟩;have hlk:=M.get i;have hyk:=Wd.get (l:=[]) Dg.nil i;refine ax ?_;cases za:(decide ((i:Int)<(((wds a).length:Nat):Int)))
 .
  have zc:=oF za;refine lB 32 za (ah (dr (CG.exit ?_)))
  show CG _ _ _ _ _ _ _ _
  refine ax ?_;rw[List.take_nil,show i=l.length by omega] at inv
  have hE:aA l=a:=oP (b:=0) M inv oM Y;obtain ⟨_,e,H,bq,bf⟩:=e.pub 0;replace e:=(e.to [⟨C,40,[uV 0,eS]⟩,⟨L,40,nc 0⟩,⟨D,40,nc a⟩] []).aS (SlO.of_flat (sz:=1) (f:=aq) (d:=0) (b:=j) (o:=0) (l:=l) (fun _=>rfl) H);exact lL e ac (ar 57 e (dt (sB j) ((wds a).length) (l) ((wds a).length) (a) (by first|rfl|assumption|(simp;done)|(simp;omega)|omega) (M) (hE) sM sM _ _ e.g e.f.1) (fun _ _ e=>lP 0 0 (nc a) e (fun _ e=>lL e ac (ae e [(0,0,2)] (.tuple #[nv a,qT]) rfl))))
 have zc:=oT za;refine lB 32 za (ah (co (cK (cQ (kZ (aa e aD (aG (lL e ac (ah (aa e [.c,.c,.v (iV 0)] ?_))))))))));have ⟨ze,X⟩:=dF (p:=(i:Int)<(0:Int)) oM;refine lB 37 ze (ag (cK (kQ (lL e pd (lX 47 (sB j) ((wds a).length) ((wds a).length) 1 (i:Nat) i rfl ?_)))));refine lQ 48 0 l aq 1 0 i (mV ((l).getD i 0)) e oM (lL e aD ?_);obtain ⟨x,zb,bb,bl,bk,J⟩:=jx ((l).getD i 0) 0 I wM wM oM;refine lV 51 (.tuple #[mV x,mV zb]) ?_ (hr:=d8 kR (J _));refine lL e [.c,.v (mV x),.v (mV zb)] (lX 54 (sB j) ((wds a).length) ((wds a).length) 1 (i:Nat) i rfl ?_);refine lW 0 l aq 1 i x e oM (fun _ e=>?_);have zf:((l).set i x).length=(wds a).length:=by rw[LB];exact hll
 replace e:=e.to [⟨j,38,((l).set i x).flatMap aq⟩,⟨C,40,[uV 0,eS]⟩,⟨L,40,nc 0⟩,⟨D,40,nc a⟩] [];refine lL e ac (lN (kQ (bh 55 ((i:Nat)+1) (i+1) ?_)));refine lL e ac (lD ?_);intro a_ ka;refine ⟨_,_,?_,⟨i+1,(l).set i x,zb,zj,rfl,rfl,e.to _ _,oM,zf,(M.set _ oM),oM,(iM oM inv (by first|omega|(have hy0:=cn (l:=([]:List Nat)) (k:=i) (by first|omega|(simp;done));omega)))⟩,ka.to _ kR⟩
 omega
theorem Er (a b:Nat)(d:b<=a)(c:(wds a).length<=1000000000)(e:(wds b).length<=1000000000)(w:World)(h:Hp)(g:G w h):CV 299 #[nv a,nv b] w h (.tuple #[nv (a-b),.bool true]):=by
 rcases ea a 18446744073709551616 with h1|h1
 ·exact IJ a b c e d h1 w h g
 ·rcases Ga b with h3|h3
  ·subst h3;exact Ja a c h1 w h g
  ·exact ID a b c e d h1 h3 w h g
theorem I0 (a b:Nat)(K:(wds a).length<=1000000000)(H:(wds b).length<=1000000000)(has:a<18446744073709551616)(p:b<18446744073709551616)(w:World)(h:Hp)(g:G w h):CV 180 #[nv a,nv b] w h (nv (a*b)):=by
 have e:=sS g;have x:=A0 has;have y:=A0 p;refine go Tryz.func180 [(0,nv a),(1,nv b)] rfl (ax (lA 2 40 (nc a) e (fun F w2 S e=>lA 3 40 (nc b) e (fun C U Q e=>lA 4 40 ([uV 0,eS]) e (fun O M L e=>ah (aa e [.v (qP F 1),.o (.string (hi a)) 2 1 1] (lV 9 qT ?_ (hr:=rb kR (jz (ff has))))))))));refine lL e [.c,.v (qP C 1),.o (.string (hi b)) 1 1 1] (lV 13 qT ?_ (hr:=rb kR (jz (ff p))));refine lL e [.v qT] (ak (aa e [.v (pB F),.o (mV (a%18446744073709551616)) 2 0 1,.v (pB C),.o (mV (b%18446744073709551616)) 1 0 1] (lC 20 e (ol (a%18446744073709551616) (b%18446744073709551616) wM wM _ _ e.g) ?_)));rintro _ _ _ e ⟨i,za,rfl,j,D,z,B⟩;have u:=jN (a:=(a%18446744073709551616)) (b:=(b%18446744073709551616)) wM wM;refine lL e [.c,.v (mV i),.v (mV za),.c,.c] (ah (ax ?_));rw[x,y] at j
 refine lL e ac ?_;cases zb:((i:Int) == (0:Int))
 .
  have I:=aj zb;refine lB 24 zb (ag (cK (aa e aD (lR 29 38 2 ([mV za,mV i]) e (fun J _ _ e=>?_)))));replace e:=e.aS (SlO.of_flat (sz:=1) (f:=aq) (d:=0) (l:=[za,i]) (fun _=>rfl) e.f.1);exact ar 30 e (dt (sB J) 2 ([za,i]) 2 ((a*b)) (by first|rfl|assumption|(simp;done)|(simp;omega)|omega) (Dg.cons oM (Dg.one oM)) (by show za+18446744073709551616*(i+18446744073709551616*0)=a*b;omega) sM sM _ _ e.g e.f.1) (fun _ _ e=>lP 0 0 (nc (a*b)) e (fun _ e=>ae e [(0,0,2)] (nv (a*b)) rfl))
 have I:=eq_of_beq zb;exact lB 24 zb (ak (aa e [.c,.v (.agg #[mV za,eS])] (lP 0 0 ([mV za,eS]) e (fun _ e=>ae e [(0,0,2)] (.agg #[mV za,eS]) (by rw[show za=a*b by omega];exact jw oM)))))
theorem IB (a b:Nat)(I:(wds a).length<=1000000000)(C:(wds b).length<=1000000000)(has:18446744073709551616<=a)(w:World)(h:Hp)(g:G w h):CV 180 #[nv a,nv b] w h (nv (a*b)):=by
 have c:=sS g;refine go Tryz.func180 [(0,nv a),(1,nv b)] rfl (ax (lA 2 40 (nc a) c (fun K w2 U c=>lA 3 40 (nc b) c (fun W V S c=>lA 4 40 ([uV 0,eS]) c (fun Q O M c=>ah (aa c [.v (qP K 1),.o (.string (hi a)) 2 1 1] (lV 9 qF ?_ (hr:=rb kR (je (fF has))))))))));refine lL c ac (lG 11 ?_);refine lG 12 (lG 13 (lL c [.v qF] (ag (cK (cQ (cR 6 [] mixed c ao ?_))))));refine eO 0 31 [(2,0,2)] (nv a) c (eO 2 33 [(1,0,2)] (nv b) c (eC 1 32 c (fun _ _ c=>gn a oM _ _ c.g) ?_));rintro _ _ _ _ _ c ⟨u,e,rfl,z,p⟩;replace c:=c.aS p;refine eC 3 34 c (fun _ _ c=>gn b oM _ _ c.g) ?_;rintro _ _ _ _ _ c ⟨j,l,rfl,y,d⟩;replace c:=c.aS d;refine eC 4 35 c (fun _ _ c=>Fk u e (wds a) j l (wds b) (Wd.wds a) (Wd.wds b) oM oM _ _ c.g c.f.2.1 c.f.1) ?_;rintro _ _ _ _ _ c ⟨D,H,B,rfl,F,J,i,x,L⟩;replace c:=c.aS L;exact au 5 36 c (fun _ _ c=>dt D H (B) B.length ((a*b)) (by first|rfl|assumption|(simp;done)|(simp;omega)|omega) (i) (x.trans (by rw[ay,ay])) sM sM _ _ c.g c.f.1) (fun _ _ c=>bP c (fun _ _ c=>tP 6 0 0 (nc (a*b)) c (fun _ c=>tN (kX (c.ret [(0,0,2)] (nv (a*b)) rfl)))))
theorem Iy (a b:Nat)(K:(wds a).length<=1000000000)(F:(wds b).length<=1000000000)(has:a<18446744073709551616)(j:18446744073709551616<=b)(w:World)(h:Hp)(g:G w h):CV 180 #[nv a,nv b] w h (nv (a*b)):=by
 have d:=sS g;refine go Tryz.func180 [(0,nv a),(1,nv b)] rfl (ax (lA 2 40 (nc a) d (fun O w2 X d=>lA 3 40 (nc b) d (fun M Y W d=>lA 4 40 ([uV 0,eS]) d (fun V U S d=>ah (aa d [.v (qP O 1),.o (.string (hi a)) 2 1 1] (lV 9 qT ?_ (hr:=rb kR (jz (ff has))))))))));refine lL d [.c,.v (qP M 1),.o (.string (hi b)) 1 1 1] (lV 13 qF ?_ (hr:=rb kR (je (fF j))));refine lL d [.v qF] (ag (cK (cQ (cR 6 [] mixed d ao ?_))));refine eO 0 31 [(2,0,2)] (nv a) d (eO 2 33 [(1,0,2)] (nv b) d (eC 1 32 d (fun _ _ d=>gn a oM _ _ d.g) ?_));rintro _ _ _ _ _ d ⟨y,i,rfl,C,x⟩;replace d:=d.aS x;refine eC 3 34 d (fun _ _ d=>gn b oM _ _ d.g) ?_;rintro _ _ _ _ _ d ⟨p,u,rfl,B,e⟩;replace d:=d.aS e;refine eC 4 35 d (fun _ _ d=>Fk y i (wds a) p u (wds b) (Wd.wds a) (Wd.wds b) oM oM _ _ d.g d.f.2.1 d.f.1) ?_;rintro _ _ _ _ _ d ⟨H,J,D,rfl,I,L,l,z,Q⟩;replace d:=d.aS Q;exact au 5 36 d (fun _ _ d=>dt H J (D) D.length ((a*b)) (by first|rfl|assumption|(simp;done)|(simp;omega)|omega) (l) (z.trans (by rw[ay,ay])) sM sM _ _ d.g d.f.1) (fun _ _ d=>bP d (fun _ _ d=>tP 6 0 0 (nc (a*b)) d (fun _ d=>tN (kX (d.ret [(0,0,2)] (nv (a*b)) rfl)))))
theorem qJ (a b:Nat)(c:(wds a).length<=1000000000)(d:(wds b).length<=1000000000)(w:World)(h:Hp)(g:G w h):CV 180 #[nv a,nv b] w h (nv (a*b)):=by
 rcases ea a 18446744073709551616 with h1|h1
 ·rcases ea b 18446744073709551616 with h2|h2
  ·exact I0 a b c d h1 h2 w h g
  ·exact Iy a b c d h1 h2 w h g
 ·exact IB a b c d h1 w h g
theorem Fc (a b:Nat)(I:0<b)(M:(wds a).length<=1000000000)(C:(wds b).length<=1000000000)(has:a<18446744073709551616)(l:b<18446744073709551616)(w:World)(h:Hp)(g:G w h):CV 154 #[nv a,nv b] w h (.tuple #[nv (a/b),nv (a%b),.bool true]):=by
 have d:=sS g;have J:=(cB I).2.2;have K:=A0 l;refine go Tryz.func154 [(0,nv a),(1,nv b)] rfl (ax (lA 2 40 (nc a) d (fun F w2 U d=>lA 3 40 (nc b) d (fun D V S d=>lA 4 40 ([uV 0,eS]) d (fun L Q O d=>lA 5 40 ([uV 0,eS]) d (fun zb _ _ d=>lL d ac (ah (aa d [.o (nv b) 2 0 2] (ar 12 d (fZ b C _ _ d.g) (fun _ _ d=>?_))))))))));have za:(((nb b:Nat):Int) == (0:Int))=false:=eM oM;have H:=aj za;refine lB 13 za (ag (cK (cQ (aa d [.v (qP F 1),.o (.string (hi a)) 3 1 1] (lV 18 qT ?_ (hr:=rb kR (jz (ff has))))))));refine lL d [.c,.v (qP D 1),.o (.string (hi b)) 2 1 1] (lV 22 qT ?_ (hr:=rb kR (jz (ff l))));refine lL d [.v qT] (ak (cQ ?_));have z:=d;refine Fa 12 [] [L,zb] mixed d ao (eV 0 24 (pB F) (eO 1 25 [(3,0,1)] (mV (a%18446744073709551616)) d (eV 2 26 (pB D) (eO 3 27 [(2,0,1)] (mV (b%18446744073709551616)) d (eV 4 28 (mV ((a%18446744073709551616)/(b%18446744073709551616))) ?_ (hv:=fun _=>aI (dH (t:=38) (u:=38) (x:=.tmp 25) (y:=.tmp 27) (k:=.u64) (a:=((a%18446744073709551616:Nat):Int)) (b:=((b%18446744073709551616:Nat):Int)) kR kR kR oM _) (kl (a%18446744073709551616) (b%18446744073709551616) oM)))))));refine eV 5 29 (.agg #[mV ((a%18446744073709551616)/(b%18446744073709551616)),eS]) (eV 6 30 (pB F) (xn 7 31 [(3,0,1)] (mV (a%18446744073709551616)) z d ?_ (hM:=fun p B=>by obtain rfl:=te.1 B;exact fun f=>by rcases g4.1 f with e|f;exact gt d.st (i:=3) (j:=1) kR kR kR e;rcases g4.1 f with e|f;exact gt d.st (i:=3) (j:=0) kR kR kR e;cases f)));refine eV 8 32 (pB D) (xn 9 33 [(2,0,1)] (mV (b%18446744073709551616)) z d ?_ (hM:=fun p B=>by obtain rfl:=te.1 B;exact fun f=>by rcases g4.1 f with e|f;exact gt d.st (i:=2) (j:=1) kR kR kR e;rcases g4.1 f with e|f;exact gt d.st (i:=2) (j:=0) kR kR kR e;cases f));refine eV 10 34 (mV ((a%18446744073709551616)%(b%18446744073709551616))) ?_ (hv:=fun _=>aI (ft (t:=38) (u:=38) (x:=.tmp 31) (y:=.tmp 33) (k:=.u64) (a:=((a%18446744073709551616:Nat):Int)) (b:=((b%18446744073709551616:Nat):Int)) kR kR kR oM _) (dk (a%18446744073709551616) (b%18446744073709551616)));refine eV 11 35 (.agg #[mV ((a%18446744073709551616)%(b%18446744073709551616)),eS]) (bP d (fun _ _ d=>tP 12 1 0 ([mV ((a%18446744073709551616)/(b%18446744073709551616)),eS]) d (fun _ d=>?_) (hz:=gF (MI))));refine tP 13 0 0 ([mV ((a%18446744073709551616)%(b%18446744073709551616)),eS]) d (fun _ d=>?_) (hz:=gF (MJ _<|MI));exact tV 14 6 qT (tN (kX (d.ret [(1,0,2),(0,0,2)] (.tuple #[.agg #[mV ((a%18446744073709551616)/(b%18446744073709551616)),eS],.agg #[mV ((a%18446744073709551616)%(b%18446744073709551616)),eS],qT]) (by rw[A0 has,A0 l,jw (show a/b<18446744073709551616 by have:=LN a b;omega),jw (show a%b<18446744073709551616 by have:=LX a I;omega)]))))
theorem Ij (a b:Nat)(hb:0<b)(J:(wds a).length<=1000000000)(F:(wds b).length<=1000000000)(has:18446744073709551616<=a)(C:b<18446744073709551616)(w:World)(h:Hp)(g:G w h):CV 154 #[nv a,nv b] w h (.tuple #[nv (a/b),nv (a%b),.bool true]):=by
 have i:=sS g;have bf:=(cB hb).2.2;have bn:=A0 C;have hcl:=fH (show b<=a by omega);refine go Tryz.func154 [(0,nv a),(1,nv b)] rfl (ax (lA 2 40 (nc a) i (fun M w2 h3 i=>lA 3 40 (nc b) i (fun D w5 h6 i=>lA 4 40 ([uV 0,eS]) i (fun S w8 h9 i=>lA 5 40 ([uV 0,eS]) i (fun za _ _ i=>lL i ac (ah (aa i [.o (nv b) 2 0 2] (ar 12 i (fZ b F _ _ i.g) (fun _ _ i=>?_))))))))));have zb:(((nb b:Nat):Int) == (0:Int))=false:=eM oM;have bd:=aj zb;refine lB 13 zb (ag (cK (cQ (aa i [.v (qP M 1),.o (.string (hi a)) 3 1 1] (lV 18 qF ?_ (hr:=rb kR (je (fF has))))))));refine lL i ac (lG 20 ?_);refine lG 21 (lG 22 (lL i [.v qF] (ag (cK (cQ (aa i [.o (nv a) 3 0 2,.o (nv b) 2 0 2] (ar 38 i (lr a b J F _ _ i.g) (fun zd _ i=>?_))))))));have ⟨zc,bb⟩:=dF (p:=(bX a b:Int)<(0:Int)) oM;refine lB 39 zc (ag (cK (cQ (aa i [.v (qP D 1),.o (.string (hi b)) 2 1 1] (lV 44 qT ?_ (hr:=rb kR (jz (ff C))))))));refine ak (cQ ?_);obtain ⟨x,hK_⟩:∃ x,x=zd.heap.size:=⟨_,rfl⟩;have U:za<x:=by rw[hK_];exact fe i 0
 have Y:S<x:=by rw[hK_];exact fe i 1
 have B:D<x:=by rw[hK_];exact fe i 2
 have y:M<x:=by rw[hK_];exact fe i 3
 refine wg ⟨[],some (x,[])⟩ 0 mixed ?_;have bk:=i.g.size;replace i:=i.drew;have u:=M0 hK_;refine zO 0 46 [(3,0,2)] (nv a) rfl u i (fun p V=>by obtain rfl:=te.1 V;exact y) (zV 2 48 (pB D) (zO 3 49 [(2,0,1)] (mV (b%18446744073709551616)) rfl u i (fun p V=>by obtain rfl:=te.1 V;exact B) (se 1 47 (f4 a oM oM _ _ i.g) rfl u ?_)));rintro _ _ _ X u ⟨j,rfl,H,K,bl⟩;obtain ⟨_,i,-,-⟩:=i.take X H K;replace i:=i.to [⟨j,38,(wds a).flatMap aq⟩,⟨za,40,[uV 0,eS]⟩,⟨S,40,[uV 0,eS]⟩,⟨D,40,nc b⟩,⟨M,40,nc a⟩] [];refine Lj 4 50 (IM j (wds a) (wds a).length (b%18446744073709551616) oM oM (Wd.wds a) J (nR _) _ _ i.g (i.own 0) (i.jk 0)) rfl u oM ?_;rintro _ _ _ W u ⟨z,r,rfl,hzl,hWz,Q,I,Z⟩;replace i:=(i.stepM 0 W Z).to [⟨j,38,(z).flatMap aq⟩,⟨za,40,[uV 0,eS]⟩,⟨S,40,[uV 0,eS]⟩,⟨D,40,nc b⟩,⟨M,40,nc a⟩] [];refine zV 5 45 (.tuple #[qS (sB j) (tl z z.length) ((wds a).length),mV r]) (zV 6 51 (qS (sB j) (tl z z.length) ((wds a).length)) (zV 7 52 (mV r) (zV 8 7 (qS (sB j) (tl z z.length) ((wds a).length)) (zV 9 8 (mV r) (rD ?_)))));have O:=A0 C;rw[ay,O] at Q
 rw[O] at I
 obtain ⟨hq1,hq2⟩:=Dj Q I;have htz:=it z z.length;have hQ:aA (z.take (tl z z.length))=a/b:=by have e:=j8 18446744073709551616 z z.length (nR _);rw[y8] at e;exact e.trans hq1
 obtain ⟨_,i,L,bq,bm⟩:=i.pub 0;replace i:=(i.to [⟨za,40,[uV 0,eS]⟩,⟨S,40,[uV 0,eS]⟩,⟨D,40,nc b⟩,⟨M,40,nc a⟩] []).aS (SlO.of_flat (sz:=1) (f:=aq) (d:=0) (b:=j) (o:=0) (l:=z) (fun _=>rfl) L);exact lL i ac (ar 54 i (dt (sB j) ((wds a).length) (z.take (tl z z.length)) (tl z z.length) ((a/b)) (by first|rfl|assumption|(simp;done)|(simp;omega)|omega) (Dg.take hWz _) (hQ) sM sM _ _ i.g ((i.f.1).take _)) (fun _ _ i=>lL i [.c,.v (.agg #[mV r,eS])] (lP 1 0 (nc (a/b)) i (fun _ i=>lP 0 0 ([mV r,eS]) i (fun _ i=>lL i ac (ae i [(1,0,2),(0,0,2)] (.tuple #[nv (a/b),.agg #[mV r,eS],qT]) (by rw[hq2,jw (by have:=LX a hb;omega)])))))))
theorem In (a b:Nat)(W:0<b)(e:(wds a).length<=1000000000)(d:(wds b).length<=1000000000)(i:b<=a)(has:18446744073709551616<=a)(j:18446744073709551616<=b)(w:World)(h:Hp)(g:G w h):CV 154 #[nv a,nv b] w h (.tuple #[nv (a/b),nv (a%b),.bool true]):=by
 have c:=sS g;have X:=(cB W).2.2;have hcl:=fH i;have hlm:=db i;have hl2:=de j;refine go Tryz.func154 [(0,nv a),(1,nv b)] rfl (ax (lA 2 40 (nc a) c (fun b1 w2 h3 c=>lA 3 40 (nc b) c (fun b4 w5 h6 c=>lA 4 40 ([uV 0,eS]) c (fun b7 w8 h9 c=>lA 5 40 ([uV 0,eS]) c (fun Z _ _ c=>lL c ac (ah (aa c [.o (nv b) 2 0 2] (ar 12 c (fZ b d _ _ c.g) (fun _ _ c=>?_))))))))));have za:(((nb b:Nat):Int) == (0:Int))=false:=eM oM;have Q:=aj za;refine lB 13 za (ag (cK (cQ (aa c [.v (qP b1 1),.o (.string (hi a)) 3 1 1] (lV 18 qF ?_ (hr:=rb kR (je (fF has))))))));refine lL c ac (lG 20 ?_);refine lG 21 (lG 22 (lL c [.v qF] (ag (cK (cQ (aa c [.o (nv a) 3 0 2,.o (nv b) 2 0 2] (ar 38 c (lr a b e d _ _ c.g) (fun _ _ c=>?_))))))));have ⟨zb,H⟩:=dF (p:=(bX a b:Int)<(0:Int)) oM;refine lB 39 zb (ag (cK (cQ (aa c [.v (qP b4 1),.o (.string (hi b)) 2 1 1] (lV 44 qF ?_ (hr:=rb kR (je (fF j))))))));refine ag (cK (cQ (cR 8 [] mixed c ao ?_)));refine eO 0 58 [(3,0,2)] (nv a) c (eO 2 60 [(2,0,2)] (nv b) c (eC 1 59 c (fun _ _ c=>gn a oM _ _ c.g) ?_));rintro _ _ _ _ _ c ⟨M,D,rfl,V,L⟩;replace c:=c.aS L;refine eC 3 61 c (fun _ _ c=>gn b oM _ _ c.g) ?_;rintro _ _ _ _ _ c ⟨J,K,rfl,U,B⟩;replace c:=c.aS B;refine eC 4 62 c (fun _ _ c=>F8 M D (wds a) J K (wds b) (Wd.wds a) (Wd.wds b) e oM oM (lU W) _ _ c.g c.f.2.1 c.f.1) ?_;rintro _ _ _ _ _ c ⟨u,y,q,x,l,r,rfl,Y,hcr,C,O,F,z,hlq,hlr,S,I⟩;replace c:=c.aP S I;exact eV 5 57 (.tuple #[qS u q.length y,qS x r.length l]) (eV 6 63 (qS u q.length y) (eV 7 64 (qS x r.length l) (bP c (fun _ _ c=>tV 8 9 (qS u q.length y) (tV 9 10 (qS x r.length l) (rD (lL c ac (ar 66 c (dt u y (q) q.length ((a/b)) (by first|rfl|assumption|(simp;done)|(simp;omega)|omega) (C) (F.trans (by rw[ay,ay])) sM sM _ _ c.g c.f.2.1) (fun _ _ c=>lL c ac (ar 68 c (dt x l (r) r.length ((a%b)) (by first|rfl|assumption|(simp;done)|(simp;omega)|omega) (O) (z.trans (by rw[ay,ay])) sM sM _ _ c.g c.f.1) (fun _ _ c=>lP 1 0 (nc (a/b)) c (fun _ c=>lP 0 0 (nc (a%b)) c (fun _ c=>lL c ac (ae c [(1,0,2),(0,0,2)] (.tuple #[nv (a/b),nv (a%b),qT]) rfl))))))))))))))
theorem JB (a b:Nat)(J:0<b)(x:(wds a).length<=1000000000)(l:(wds b).length<=1000000000)(f:a<b)(has:a<18446744073709551616)(B:18446744073709551616<=b)(w:World)(h:Hp)(g:G w h):CV 154 #[nv a,nv b] w h (.tuple #[nv (a/b),nv (a%b),.bool true]):=by
 have d:=sS g;have D:=(cB J).2.2;have L:=dY f;refine go Tryz.func154 [(0,nv a),(1,nv b)] rfl (ax (lA 2 40 (nc a) d (fun M w2 U d=>lA 3 40 (nc b) d (fun K V S d=>lA 4 40 ([uV 0,eS]) d (fun I Q O d=>lA 5 40 ([uV 0,eS]) d (fun H _ _ d=>lL d ac (ah (aa d [.o (nv b) 2 0 2] (ar 12 d (fZ b l _ _ d.g) (fun _ _ d=>?_))))))))));have za:(((nb b:Nat):Int) == (0:Int))=false:=eM oM;have C:=aj za;refine lB 13 za (ag (cK (cQ (aa d [.v (qP M 1),.o (.string (hi a)) 3 1 1] (lV 18 qT ?_ (hr:=rb kR (jz (ff has))))))));refine lL d [.c,.v (qP K 1),.o (.string (hi b)) 2 1 1] (lV 22 qF ?_ (hr:=rb kR (je (fF B))));refine lL d [.v qF] (ag (cK (cQ (aa d [.o (nv a) 3 0 2,.o (nv b) 2 0 2] (ar 38 d (lr a b x l _ _ d.g) (fun _ _ d=>?_))))));have ⟨zb,y⟩:=dT (p:=(bX a b:Int)<(0:Int)) oM;refine lB 39 zb (ak (cQ ?_));have z:=d;refine Fa 2 [] [I,H] mixed d ao (eV 0 40 (.agg #[uV 0,eS]) (xn 1 41 [(3,0,2)] (nv a) z d ?_ (hM:=fun p F=>by obtain rfl:=te.1 F;exact fun u=>by rcases g4.1 u with e|u;exact gt d.st (i:=3) (j:=1) kR kR kR e;rcases g4.1 u with e|u;exact gt d.st (i:=3) (j:=0) kR kR kR e;cases u)));refine bP d (fun _ _ d=>tP 2 1 0 ([uV 0,eS]) d (fun _ d=>?_) (hz:=gF (MI)));refine tP 3 0 0 (nc a) d (fun _ d=>?_) (hz:=gF (MJ _<|MI));exact tV 4 6 qT (tN (kX (d.ret [(1,0,2),(0,0,2)] (.tuple #[.agg #[uV 0,eS],nv a,qT]) (by have f:a<b:=(by rcases ea a b with h_|h_;exact h_;rcases fH h_ with e|e<;>omega);rw[LP f,A0 f];rfl))))
theorem I2 (a b:Nat)(H:0<b)(u:(wds a).length<=1000000000)(f:(wds b).length<=1000000000)(d:a<b)(has:18446744073709551616<=a)(w:World)(h:Hp)(g:G w h):CV 154 #[nv a,nv b] w h (.tuple #[nv (a/b),nv (a%b),.bool true]):=by
 have c:=sS g;have B:=(cB H).2.2;have I:=dY d;refine go Tryz.func154 [(0,nv a),(1,nv b)] rfl (ax (lA 2 40 (nc a) c (fun J w2 O c=>lA 3 40 (nc b) c (fun S Q M c=>lA 4 40 ([uV 0,eS]) c (fun F L K c=>lA 5 40 ([uV 0,eS]) c (fun D _ _ c=>lL c ac (ah (aa c [.o (nv b) 2 0 2] (ar 12 c (fZ b f _ _ c.g) (fun _ _ c=>?_))))))))));have za:(((nb b:Nat):Int) == (0:Int))=false:=eM oM;have z:=aj za;refine lB 13 za (ag (cK (cQ (aa c [.v (qP J 1),.o (.string (hi a)) 3 1 1] (lV 18 qF ?_ (hr:=rb kR (je (fF has))))))));refine lL c ac (lG 20 ?_);refine lG 21 (lG 22 (lL c [.v qF] (ag (cK (cQ (aa c [.o (nv a) 3 0 2,.o (nv b) 2 0 2] (ar 38 c (lr a b u f _ _ c.g) (fun _ _ c=>?_))))))));have ⟨zb,x⟩:=dT (p:=(bX a b:Int)<(0:Int)) oM;refine lB 39 zb (ak (cQ ?_));have y:=c;refine Fa 2 [] [F,D] mixed c ao (eV 0 40 (.agg #[uV 0,eS]) (xn 1 41 [(3,0,2)] (nv a) y c ?_ (hM:=fun p C=>by obtain rfl:=te.1 C;exact fun l=>by rcases g4.1 l with e|l;exact gt c.st (i:=3) (j:=1) kR kR kR e;rcases g4.1 l with e|l;exact gt c.st (i:=3) (j:=0) kR kR kR e;cases l)));refine bP c (fun _ _ c=>tP 2 1 0 ([uV 0,eS]) c (fun _ c=>?_) (hz:=gF (MI)));refine tP 3 0 0 (nc a) c (fun _ c=>?_) (hz:=gF (MJ _<|MI));exact tV 4 6 qT (tN (kX (c.ret [(1,0,2),(0,0,2)] (.tuple #[.agg #[uV 0,eS],nv a,qT]) (by have d:a<b:=(by rcases ea a b with h_|h_;exact h_;rcases fH h_ with e|e<;>omega);rw[LP d,A0 d];rfl))))
theorem JM (a b:Nat)(e:0<b)(c:(wds a).length<=1000000000)(d:(wds b).length<=1000000000)(w:World)(h:Hp)(g:G w h):CV 154 #[nv a,nv b] w h (.tuple #[nv (a/b),nv (a%b),.bool true]):=by
 rcases ea a b with hab|hab
 ·rcases ea a 18446744073709551616 with h1|h1
  ·rcases ea b 18446744073709551616 with h2|h2
   ·exact Fc a b e c d h1 h2 w h g
   ·exact JB a b e c d hab h1 h2 w h g
  ·exact I2 a b e c d hab h1 w h g
 ·rcases ea b 18446744073709551616 with h2|h2
  ·rcases ea a 18446744073709551616 with h1|h1
   ·exact Fc a b e c d h1 h2 w h g
   ·exact Ij a b e c d h1 h2 w h g
  ·exact In a b e c d hab oM h2 w h g
theorem kg {z:Int}{b:Bool}{n:Nat}(a:af z=b)(hn:ab z=n):Value.agg #[.bool b,.int .u64 (lo n),.string (hi n)]=iv z:=by subst a hn;rfl
theorem jM {z:Int}{b:Bool}(a:af z=b):iv z=Value.agg #[.bool b,.int .u64 (lo (ab z)),.string (hi (ab z))]:=(kg a rfl).symm
theorem mF (x y:Int):bu (af x != af y) (ab x*ab y)=x*y:=by
 rcases hx:af x with _|_<;>rcases hy:af y with _|_
 ·have h1:=a7 hx
  have c:=a7 hy;obtain ⟨a,rfl⟩:=M1 h1;obtain ⟨b,rfl⟩:=M1 c
  simp[bu,ab,M3,M4,M5]
 ·have h1:=a7 hx
  have c:=bj hy;obtain ⟨a,rfl⟩:=M1 h1;obtain ⟨b,d⟩:=M1 (a:=-y) oM;obtain rfl:y = -b:=by omega
  simp[bu,ab,M3,M4,M5]
 ·have h1:=bj hx
  have c:=a7 hy;obtain ⟨b,rfl⟩:=M1 c;obtain ⟨a,ha⟩:=M1 (a:=-x) oM;obtain rfl:x = -a:=by omega
  simp[bu,ab,M3,M4,M5]
 ·have h1:=bj hx
  have c:=bj hy;obtain ⟨a,ha⟩:=M1 (a:=-x) oM;obtain ⟨b,d⟩:=M1 (a:=-y) oM;obtain rfl:x = -a:=by omega
  obtain rfl:y = -b:=by omega
  simp[bu,ab,M3,M4,M5]
theorem kP {a b:Nat}:(wds (a+b)).length<=(wds a).length+(wds b).length+1:=by
 refine ge kD ?_;have h1:=dD a;have d:=dD b;have e:18446744073709551616^(wds a).length<=18446744073709551616^((wds a).length+(wds b).length):=L3 kD oM;have c:18446744073709551616^(wds b).length<=18446744073709551616^((wds a).length+(wds b).length):=L3 kD oM;rw[LR]
 omega
theorem pO {a b k:Nat}(ha:(wds a).length<=k)(c:(wds b).length<=k):(wds (a+b)).length<=k+1:=by
 refine ge kD ?_;have h1:=dD a;have e:=dD b;have f:18446744073709551616^(wds a).length<=18446744073709551616^k:=L3 kD ha;have d:18446744073709551616^(wds b).length<=18446744073709551616^k:=L3 kD c;rw[LR]
 omega
theorem dq {a b:Nat}:(wds (a*b)).length<=(wds a).length+(wds b).length:=by
 refine ge kD ?_;rw[L4];have h1:=dD a;have c:=dD b;exact e5 (Nat.mul_lt_mul'' h1 c) (Nat.le_refl _)
theorem aw {a b k:Nat}(h:a<=b)(c:(wds b).length<=k):(wds a).length<=k:=e4 (db h) c
theorem Bd (a:Nat)(w:World)(h:Hp)(g:G w h):CV 50 #[.bool false,nv a] w h (iv (bu false a)):=by
 have b:=sS g;refine go Tryz.func50 [(0,qF),(1,nv a)] rfl (ax (lA 3 40 (nc a) b (fun l w2 o b=>lA 4 42 ([qF,uV 0,eS]) b (fun i c j b=>ah (cR 8 [] mixed b ao ?_)))));exact eV 0 5 qF (eV 1 6 qF (eG 2 7 (eG 3 8 (eG 4 9 (eV 5 10 qF (eO 6 11 [(1,0,2)] (nv a) b (eV 7 12 (wX qF a) (bP b (fun e f b=>tP 8 0 0 (wC qF a) b (fun d b=>tN (kX (b.ret [(0,0,3)] (wX qF a) (kg (by rw[jZ];rfl) (fi _ _))))))))))))))
theorem Hx (j:(wds 0).length<=1000000000)(w:World)(h:Hp)(g:G w h):CV 50 #[.bool true,nv 0] w h (iv (bu true 0)):=by
 have a:=sS g;have b:nb 0=0:=rfl;refine go Tryz.func50 [(0,qT),(1,nv 0)] rfl (ax (lA 3 40 (nc 0) a (fun p w2 u a=>lA 4 42 ([qF,uV 0,eS]) a (fun l c o a=>ah (cR 8 [] mixed a ao ?_)))));refine eV 0 5 qT (eV 1 6 qT (eO 2 7 [(1,0,2)] (nv 0) a (eO 6 11 [(1,0,2)] (nv 0) a (au 3 8 a (fun _ _ a=>fZ 0 aM _ _ a.g) (fun f i a=>eV 4 9 qF ?_ (hv:=fun _=>rb (e:=decide ((0:Int)<((nb 0:Nat):Int))) kR (decide_eq_false oM)))))));exact eV 5 10 qF (eV 7 12 (wX qF 0) (bP a (fun d _ a=>tP 8 0 0 (wC qF 0) a (fun _ a=>tN (kX (a.ret [(0,0,3)] (wX qF 0) (kg (by rw[jZ];rfl) (fi _ _))))))))
theorem GH (a:Nat)(ha:0<a)(l:(wds a).length<=1000000000)(w:World)(h:Hp)(g:G w h):CV 50 #[.bool true,nv a] w h (iv (bu true a)):=by
 have b:=sS g;have c:=(cB ha).2.2;refine go Tryz.func50 [(0,qT),(1,nv a)] rfl (ax (lA 3 40 (nc a) b (fun u w2 x b=>lA 4 42 ([qF,uV 0,eS]) b (fun o d p b=>ah (cR 8 [] mixed b ao ?_)))));refine eV 0 5 qT (eV 1 6 qT (eO 2 7 [(1,0,2)] (nv a) b (eO 6 11 [(1,0,2)] (nv a) b (au 3 8 b (fun _ _ b=>fZ a aM _ _ b.g) (fun i j b=>eV 4 9 qT ?_ (hv:=fun _=>rb (e:=decide ((0:Int)<((nb a:Nat):Int))) kR (decide_eq_true oM)))))));exact eV 5 10 qT (eV 7 12 (wX qT a) (bP b (fun f _ b=>tP 8 0 0 (wC qT a) b (fun _ b=>tN (kX (b.ret [(0,0,3)] (wX qT a) (kg (by rw[jZ];simpa using ha) (fi _ _))))))))
theorem gh (b:Bool)(a:Nat)(c:(wds a).length<=1000000000)(w:World)(h:Hp)(g:G w h):CV 50 #[.bool b,nv a] w h (iv (bu b a)):=by
 cases b
 ·exact Bd a w h g
 ·rcases Ga a with h0|h0
  ·subst h0;exact Hx c w h g
  ·exact GH a h0 c w h g
theorem Kp (z:Int)(h0 : -9223372036854775808<=z)(hz:z<0)(w:World)(h:Hp)(g:G w h):CV 65 #[iV z] w h (iv z):=by
 have a:=sS g;have d:ab z<=9223372036854775808:=by unfold ab;omega
 refine go Tryz.func65 [(0,iV z)] rfl (ax (lA 2 42 ([qF,uV 0,eS]) a (fun l w2 f a=>ah (aa a ac ?_))));have ⟨b,c⟩:=dT (p:=(z:Int)<(0:Int)) oM;refine lB 4 b (ak (aa a ac (lV 6 (mV (18446744073709551616-ab z)) ?_ (hr:=rU (z) kR (by rw[IntKind.wrap_u64];unfold ab;omega)))));refine lV 7 (mV (ab z)) ?_ (hr:=rU ((0-((18446744073709551616-ab z:Nat):Int))) kR (by rw[IntKind.wrap_u64];omega));exact ar 8 a (JY (ab z) oM _ _ a.g) (fun e j a=>lL a [.v (wX qT (ab z))] (lP 0 0 (wC qT (ab z)) a (fun i a=>ae a [(0,0,3)] (wX qT (ab z)) (kg (by simp[af,hz]) rfl))))
theorem J7 (n:Nat)(h1:n<9223372036854775808)(w:World)(h:Hp)(g:G w h):CV 65 #[nV n] w h (iv (n:Int)):=by
 have a:=sS g;refine go Tryz.func65 [(0,nV n)] rfl (ax (lA 2 42 ([qF,uV 0,eS]) a (fun j w2 e a=>ah (aa a ac ?_))));have ⟨b,c⟩:=dF (p:=(n:Int)<(0:Int)) oM;refine lB 4 b (ag (cK (aa a ac (lV 11 (mV n) ?_ (hr:=rU ((n:Int)) kR (a8 oM oM))))));exact ar 12 a (JY n oM _ _ a.g) (fun d i a=>lL a [.v (wX qF n)] (lP 0 0 (wC qF n) a (fun f a=>ae a [(0,0,3)] (wX qF n) (kg (by simp[af]) (by simp[ab])))))
theorem Lc (z:Int)(h0 : -9223372036854775808<=z)(h1:z<=9223372036854775807)(w:World)(h:Hp)(g:G w h):CV 65 #[iV z] w h (iv z):=by
 rcases Int.lt_or_le z 0 with hz|hz
 ·exact Kp z h0 hz w h g
 ·obtain ⟨n,rfl⟩:=M1 hz
  exact J7 n oM w h g
def ek(x y:Int):Int:=if x<y then -1 else if y<x then 1 else 0
theorem CZ {x y:Int}(h:x<y):ek x y = -1:=by simp[ek,h]
theorem D6 {x y:Int}(h:y<x):ek x y=1:=by unfold ek;rw[if_neg oM,if_pos h]
theorem D9 {x y:Int}(b:0<=x)(a:0<=y):ek x y=bX (ab x) (ab y):=by
 unfold ek bX ab
 have e1:(x<y)=(x.natAbs<y.natAbs):=by apply propext;omega
 have e2:(y<x)=(y.natAbs<x.natAbs):=by apply propext;omega
 simp only[e1,e2]
theorem Ck {x y:Int}(b:x<0)(a:y<0):ek x y=bX (ab y) (ab x):=by
 unfold ek bX ab
 have e1:(x<y)=(y.natAbs<x.natAbs):=by apply propext;omega
 have e2:(y<x)=(x.natAbs<y.natAbs):=by apply propext;omega
 simp only[e1,e2]
theorem xa (z:Int)(w:World)(h:Hp)(g:G w h):CV 89 #[iv z] w h (nv (ab z)):=by
 have a:=sS g;exact go Tryz.func89 [(0,iv z)] rfl (ax (lA 1 42 (ic z) a (fun b w2 i a=>lA 2 40 ([uV 0,eS]) a (fun e c f a=>aG (lL a [.v (qP b 1),.o (nv (ab z)) 1 1 2] (lP 0 0 (nc (ab z)) a (fun d a=>ae a [(0,0,2)] (nv (ab z)) rfl)))))))
theorem F2 (z:Int)(hz:af z=true)(w:World)(h:Hp)(g:G w h):CV 86 #[wX (.bool true) (ab z)] w h (iV z.sign):=by
 have a:=sS g;exact go Tryz.func86 [(0,wX qT (ab z))] rfl (ax (lA 1 42 (wC qT (ab z)) a (fun b w2 d a=>lL a ac (ah (kZ (aa a [.v (pB b),.o qT 0 0 1,.c] (ak (aa a ac (ae a [] (iV (-1)) (by rw[Int.sign_eq_neg_one_of_neg (bj hz)]))))))))))
theorem FB (z:Int)(j:(wds (ab z)).length<=1000000000)(hz:af z=false)(h0:0<ab z)(w:World)(h:Hp)(g:G w h):CV 86 #[wX (.bool false) (ab z)] w h (iV z.sign):=by
 have a:=sS g;have f:=(cB h0).2.2;refine go Tryz.func86 [(0,wX qF (ab z))] rfl (ax (lA 1 42 (wC qF (ab z)) a (fun e w2 u a=>lL a ac (ah (kZ (aa a [.v (pB e),.o qF 0 0 1,.c] (ag (aa a [.v (qP e 1),.o (nv (ab z)) 0 1 2] (ar 9 a (fZ (ab z) aM _ _ a.g) (fun i l a=>?_))))))))));have ⟨b,d⟩:=dT (p:=(0:Int)<((nb (ab z):Nat):Int)) oM;exact lB 10 b (lL a ac (ak (aa a ac (ae a [] (iV 1) (by rw[Int.sign_eq_one_of_pos (by have:=a7 hz;unfold ab at h0;omega)])))))
theorem GW (j:(wds (ab 0)).length<=1000000000)(w:World)(h:Hp)(g:G w h):CV 86 #[wX (.bool false) (ab 0)] w h (iV 0):=by
 have a:=sS g;have f:nb (ab 0)=0:=rfl;refine go Tryz.func86 [(0,wX qF (ab 0))] rfl (ax (lA 1 42 (wC qF (ab 0)) a (fun e w2 u a=>lL a ac (ah (kZ (aa a [.v (pB e),.o qF 0 0 1,.c] (ag (aa a [.v (qP e 1),.o (nv (ab 0)) 0 1 2] (ar 9 a (fZ (ab 0) aM _ _ a.g) (fun i l a=>?_))))))))));have ⟨b,d⟩:=dF (p:=(0:Int)<((nb (ab 0):Nat):Int)) oM;exact lB 10 b (lL a ac (ag (cK (aa a ac (ae a [] (iV 0) rfl)))))
theorem mn (z:Int)(a:(wds (ab z)).length<=1000000000)(w:World)(h:Hp)(g:G w h):CV 86 #[iv z] w h (iV z.sign):=by
 rcases hz:af z with _|_
 ·rw[jM hz]
  rcases Ga (ab z) with h0|h0
  ·have:z=0:=by unfold ab at h0;omega
   subst this;exact GW a w h g
  ·exact FB z a hz h0 w h g
 ·rw[jM hz];exact F2 z hz w h g
theorem I4 (z:Int)(j:(wds (ab z)).length<=1000000000)(hz:af z=false)(w:World)(h:Hp)(g:G w h):CV 87 #[wX (.bool false) (ab z)] w h (iv (-z)):=by
 have a:=sS g;exact go Tryz.func87 [(0,wX qF (ab z))] rfl (ax (lA 1 42 (wC qF (ab z)) a (fun b w2 u a=>lA 2 42 ([qF,uV 0,eS]) a (fun l c p a=>aG (lL a [.v (pB b),.o qF 1 0 1,.v qT,.v (qP b 1),.o (nv (ab z)) 1 1 2] (ar 8 a (gh true (ab z) aM _ _ a.g) (fun f i a=>lP 0 0 (ic (bu true (ab z))) a (fun d a=>ae a [(0,0,3)] (iv (bu true (ab z))) (by have e:=k9 z;rw[hz] at e;exact congrArg iv e)))))))))
theorem JO (z:Int)(j:(wds (ab z)).length<=1000000000)(hz:af z=true)(w:World)(h:Hp)(g:G w h):CV 87 #[wX (.bool true) (ab z)] w h (iv (-z)):=by
 have a:=sS g;exact go Tryz.func87 [(0,wX qT (ab z))] rfl (ax (lA 1 42 (wC qT (ab z)) a (fun b w2 u a=>lA 2 42 ([qF,uV 0,eS]) a (fun l c p a=>aG (lL a [.v (pB b),.o qT 1 0 1,.v qF,.v (qP b 1),.o (nv (ab z)) 1 1 2] (ar 8 a (gh false (ab z) aM _ _ a.g) (fun f i a=>lP 0 0 (ic (bu false (ab z))) a (fun d a=>ae a [(0,0,3)] (iv (bu false (ab z))) (by have e:=k9 z;rw[hz] at e;exact congrArg iv e)))))))))
theorem Ih (z:Int)(a:(wds (ab z)).length<=1000000000)(w:World)(h:Hp)(g:G w h):CV 87 #[iv z] w h (iv (-z)):=by
 rcases hz:af z with _|_<;>rw[jM hz]
 ·exact I4 z a hz w h g
 ·exact JO z a hz w h g
theorem Gq (x y:Int)(j:(wds (ab x)).length<=1000000000)(f:(wds (ab y)).length<=1000000000)(i:af x=false)(e:af y=false)(w:World)(h:Hp)(g:G w h):CV 124 #[wX (.bool false) (ab x),wX (.bool false) (ab y)] w h (iV (ek x y)):=by
 have a:=sS g;refine go Tryz.func124 [(0,wX qF (ab x)),(1,wX qF (ab y))] rfl (ax (lA 2 42 (wC qF (ab x)) a (fun b w2 B a=>lA 3 42 (wC qF (ab y)) a (fun d l z a=>lL a ac (ah (kZ (aa a [.v (pB b),.o qF 1 0 1,.c] (lG 9 ?_))))))));exact lG 10 (lL a [.v qF,.c] (ag (aa a [.v (pB b),.o qF 1 0 1,.c] (ag (aa a [.v (pB d),.o qF 0 0 1,.c] (ag (cK (aa a [.v (qP b 1),.o (nv (ab x)) 1 1 2,.v (qP d 1),.o (nv (ab y)) 0 1 2] (ar 27 a (lr (ab x) (ab y) aM aM _ _ a.g) (fun p u a=>lL a ac (ae a [] (iV (bX (ab x) (ab y))) (by rw[D9 (a7 i) (a7 e)]))))))))))))
theorem FP (x y:Int)(f:(wds (ab x)).length<=1000000000)(i:(wds (ab y)).length<=1000000000)(j:af x=false)(d:af y=true)(w:World)(h:Hp)(g:G w h):CV 124 #[wX (.bool false) (ab x),wX (.bool true) (ab y)] w h (iV (ek x y)):=by
 have a:=sS g;refine go Tryz.func124 [(0,wX qF (ab x)),(1,wX qT (ab y))] rfl (ax (lA 2 42 (wC qF (ab x)) a (fun b w2 u a=>lA 3 42 (wC qT (ab y)) a (fun e l p a=>lL a ac (ah (kZ (aa a [.v (pB b),.o qF 1 0 1,.c] (lG 9 ?_))))))));exact lG 10 (lL a [.v qF,.c] (ag (aa a [.v (pB b),.o qF 1 0 1,.c] (ag (aa a [.v (pB e),.o qT 0 0 1,.c] (ak (aa a ac (ae a [] (iV 1) (by rw[D6 (by have:=a7 j;have:=bj d;omega)])))))))))
theorem Gl (x y:Int)(f:(wds (ab x)).length<=1000000000)(i:(wds (ab y)).length<=1000000000)(j:af x=true)(d:af y=false)(w:World)(h:Hp)(g:G w h):CV 124 #[wX (.bool true) (ab x),wX (.bool false) (ab y)] w h (iV (ek x y)):=by
 have a:=sS g;exact go Tryz.func124 [(0,wX qT (ab x)),(1,wX qF (ab y))] rfl (ax (lA 2 42 (wC qT (ab x)) a (fun b w2 u a=>lA 3 42 (wC qF (ab y)) a (fun e l p a=>lL a ac (ah (kZ (aa a [.v (pB b),.o qT 1 0 1,.c,.v (pB e),.o qF 0 0 1,.v qF,.c] (ag (aa a [.v (pB b),.o qT 1 0 1,.c] (ak (aa a ac (ae a [] (iV (-1)) (by rw[CZ (by have:=bj j;have:=a7 d;omega)])))))))))))))
theorem G7 (x y:Int)(j:(wds (ab x)).length<=1000000000)(f:(wds (ab y)).length<=1000000000)(i:af x=true)(e:af y=true)(w:World)(h:Hp)(g:G w h):CV 124 #[wX (.bool true) (ab x),wX (.bool true) (ab y)] w h (iV (ek x y)):=by
 have a:=sS g;exact go Tryz.func124 [(0,wX qT (ab x)),(1,wX qT (ab y))] rfl (ax (lA 2 42 (wC qT (ab x)) a (fun d w2 B a=>lA 3 42 (wC qT (ab y)) a (fun b l z a=>lL a ac (ah (kZ (aa a [.v (pB d),.o qT 1 0 1,.c,.v (pB b),.o qT 0 0 1,.v qT,.c] (ak (aa a [.v (qP b 1),.o (nv (ab y)) 0 1 2,.v (qP d 1),.o (nv (ab x)) 1 1 2] (ar 16 a (lr (ab y) (ab x) aM aM _ _ a.g) (fun p u a=>lL a ac (ae a [] (iV (bX (ab y) (ab x))) (by rw[Ck (bj i) (bj e)])))))))))))))
theorem xq (x y:Int)(a:(wds (ab x)).length<=1000000000)(b:(wds (ab y)).length<=1000000000)(w:World)(h:Hp)(g:G w h):CV 124 #[iv x,iv y] w h (iV (ek x y)):=by
 rcases hx:af x with _|_<;>rcases hy:af y with _|_<;>rw[jM hx,jM hy]
 ·exact Gq x y a b hx hy w h g
 ·exact FP x y a b hx hy w h g
 ·exact Gl x y a b hx hy w h g
 ·exact G7 x y a b hx hy w h g
theorem GX (x y:Int)(f:(wds (ab x)).length<=1000000000)(e:(wds (ab y)).length<=1000000000)(p:(wds (ab x+ab y)).length<=1000000000)(j:af x=false)(d:af y=false)(w:World)(h:Hp)(g:G w h):CV 298 #[wX (.bool false) (ab x),wX (.bool false) (ab y)] w h (iv (x+y)):=by
 have a:=sS g;have i:=a7 j;have l:=a7 d;refine go Tryz.func298 [(0,wX qF (ab x)),(1,wX qF (ab y))] rfl (ax (lA 2 42 (wC qF (ab x)) a (fun b w2 D a=>lA 3 42 (wC qF (ab y)) a (fun c F C a=>lA 4 42 ([qF,uV 0,eS]) a (fun B z u a=>ah (aa a [.v (pB b),.o qF 2 0 1,.v (pB c),.o qF 1 0 1,.v qT] (ak (cQ (cR 8 [] mixed a ao ?_)))))))));exact eV 0 14 (pB b) (eO 1 15 [(2,0,1)] qF a (eV 2 16 (qP b 1) (eO 3 17 [(2,1,2)] (nv (ab x)) a (eV 4 18 (qP c 1) (eO 5 19 [(1,1,2)] (nv (ab y)) a (au 6 20 a (fun _ _ a=>If (ab x) (ab y) aM aM _ _ a.g) (fun _ _ a=>au 7 21 a (fun _ _ a=>gh false ((ab x)+(ab y)) (by first|assumption|exact aw (M6 _ _) aM) _ _ a.g) (fun _ _ a=>bP a (fun _ _ a=>tP 8 0 0 (ic (bu false ((ab x)+(ab y)))) a (fun _ a=>tN (kX (a.ret [(0,0,3)] (iv (bu false ((ab x)+(ab y)))) (congrArg iv (by unfold bu ab at *;simp;omega))))))))))))))
theorem DP (x y:Int)(j:(wds (ab x)).length<=1000000000)(f:(wds (ab y)).length<=1000000000)(B:(wds (ab x+ab y)).length<=1000000000)(p:af x=false)(e:af y=true)(u:ab y<=ab x)(w:World)(h:Hp)(g:G w h):CV 298 #[wX (.bool false) (ab x),wX (.bool true) (ab y)] w h (iv (x+y)):=by
 have a:=sS g;have l:=a7 p;have z:=bj e;exact go Tryz.func298 [(0,wX qF (ab x)),(1,wX qT (ab y))] rfl (ax (lA 2 42 (wC qF (ab x)) a (fun b w2 I a=>lA 3 42 (wC qT (ab y)) a (fun d J H a=>lA 4 42 ([qF,uV 0,eS]) a (fun F D C a=>ah (aa a [.v (pB b),.o qF 2 0 1,.v (pB d),.o qT 1 0 1,.v qF] (ag (cK (cQ (aa a [.v (qP b 1),.o (nv (ab x)) 2 1 2,.v (qP d 1),.o (nv (ab y)) 1 1 2] (ar 27 a (Er (ab x) (ab y) oM aM aM _ _ a.g) (fun _ _ a=>lL a [.c,.v (nv ((ab x)-(ab y))),.v qT] (lA 5 40 ([uV 0,eS]) a (fun i _ _ a=>lP 0 0 (nc ((ab x)-(ab y))) a (fun _ a=>lL a ac (aG (lL a ac (ak (aa a [.v (pB b),.o qF 3 0 1,.o (nv ((ab x)-(ab y))) 0 0 2] (ar 34 a (gh false ((ab x)-(ab y)) (by first|assumption|exact aw (M6 _ _) aM) _ _ a.g) (fun _ _ a=>lP 1 0 (ic (bu false ((ab x)-(ab y)))) a (fun _ a=>ae a [(1,0,3)] (iv (bu false ((ab x)-(ab y)))) (congrArg iv (by unfold bu ab at *;simp;omega))))))))))))))))))))))))
theorem Dh (x y:Int)(j:(wds (ab x)).length<=1000000000)(f:(wds (ab y)).length<=1000000000)(C:(wds (ab x+ab y)).length<=1000000000)(u:af x=false)(e:af y=true)(p:ab x<ab y)(w:World)(h:Hp)(g:G w h):CV 298 #[wX (.bool false) (ab x),wX (.bool true) (ab y)] w h (iv (x+y)):=by
 have a:=sS g;have l:=a7 u;have B:=bj e;exact go Tryz.func298 [(0,wX qF (ab x)),(1,wX qT (ab y))] rfl (ax (lA 2 42 (wC qF (ab x)) a (fun d w2 J a=>lA 3 42 (wC qT (ab y)) a (fun b K I a=>lA 4 42 ([qF,uV 0,eS]) a (fun H F D a=>ah (aa a [.v (pB d),.o qF 2 0 1,.v (pB b),.o qT 1 0 1,.v qF] (ag (cK (cQ (aa a [.v (qP d 1),.o (nv (ab x)) 2 1 2,.v (qP b 1),.o (nv (ab y)) 1 1 2] (ar 27 a (EV (ab x) (ab y) oM aM aM _ _ a.g) (fun _ _ a=>lL a [.c,.v (nv 0),.v qF] (lA 5 40 ([uV 0,eS]) a (fun i _ _ a=>lP 0 0 (nc 0) a (fun _ a=>lL a ac (aG (lL a ac (ag (cK (aa a [.v (qP b 1),.o (nv (ab y)) 2 1 2,.v (qP d 1),.o (nv (ab x)) 3 1 2] (ar 40 a (Er (ab y) (ab x) oM aM aM _ _ a.g) (fun _ _ a=>lL a [.c,.v (nv ((ab y)-(ab x))),.v qT] (lA 7 40 ([uV 0,eS]) a (fun z _ _ a=>lP 0 0 (nc ((ab y)-(ab x))) a (fun _ a=>lL a ac (aG (lL a [.v (pB b),.o qT 3 0 1,.o (nv ((ab y)-(ab x))) 0 0 2] (ar 46 a (gh true ((ab y)-(ab x)) (by first|assumption|exact aw (M6 _ _) aM) _ _ a.g) (fun _ _ a=>lP 2 0 (ic (bu true ((ab y)-(ab x)))) a (fun _ a=>ae a [(2,0,3)] (iv (bu true ((ab y)-(ab x)))) (congrArg iv (by unfold bu ab at *;simp;omega))))))))))))))))))))))))))))))))
theorem EK (x y:Int)(j:(wds (ab x)).length<=1000000000)(f:(wds (ab y)).length<=1000000000)(B:(wds (ab x+ab y)).length<=1000000000)(p:af x=true)(e:af y=false)(u:ab y<=ab x)(w:World)(h:Hp)(g:G w h):CV 298 #[wX (.bool true) (ab x),wX (.bool false) (ab y)] w h (iv (x+y)):=by
 have a:=sS g;have l:=bj p;have z:=a7 e;exact go Tryz.func298 [(0,wX qT (ab x)),(1,wX qF (ab y))] rfl (ax (lA 2 42 (wC qT (ab x)) a (fun b w2 I a=>lA 3 42 (wC qF (ab y)) a (fun d J H a=>lA 4 42 ([qF,uV 0,eS]) a (fun F D C a=>ah (aa a [.v (pB b),.o qT 2 0 1,.v (pB d),.o qF 1 0 1,.v qF] (ag (cK (cQ (aa a [.v (qP b 1),.o (nv (ab x)) 2 1 2,.v (qP d 1),.o (nv (ab y)) 1 1 2] (ar 27 a (Er (ab x) (ab y) oM aM aM _ _ a.g) (fun _ _ a=>lL a [.c,.v (nv ((ab x)-(ab y))),.v qT] (lA 5 40 ([uV 0,eS]) a (fun i _ _ a=>lP 0 0 (nc ((ab x)-(ab y))) a (fun _ a=>lL a ac (aG (lL a ac (ak (aa a [.v (pB b),.o qT 3 0 1,.o (nv ((ab x)-(ab y))) 0 0 2] (ar 34 a (gh true ((ab x)-(ab y)) (by first|assumption|exact aw (M6 _ _) aM) _ _ a.g) (fun _ _ a=>lP 1 0 (ic (bu true ((ab x)-(ab y)))) a (fun _ a=>ae a [(1,0,3)] (iv (bu true ((ab x)-(ab y)))) (congrArg iv (by unfold bu ab at *;simp;omega))))))))))))))))))))))))
theorem DC (x y:Int)(j:(wds (ab x)).length<=1000000000)(f:(wds (ab y)).length<=1000000000)(C:(wds (ab x+ab y)).length<=1000000000)(u:af x=true)(e:af y=false)(p:ab x<ab y)(w:World)(h:Hp)(g:G w h):CV 298 #[wX (.bool true) (ab x),wX (.bool false) (ab y)] w h (iv (x+y)):=by
 have a:=sS g;have l:=bj u;have B:=a7 e;exact go Tryz.func298 [(0,wX qT (ab x)),(1,wX qF (ab y))] rfl (ax (lA 2 42 (wC qT (ab x)) a (fun d w2 J a=>lA 3 42 (wC qF (ab y)) a (fun b K I a=>lA 4 42 ([qF,uV 0,eS]) a (fun H F D a=>ah (aa a [.v (pB d),.o qT 2 0 1,.v (pB b),.o qF 1 0 1,.v qF] (ag (cK (cQ (aa a [.v (qP d 1),.o (nv (ab x)) 2 1 2,.v (qP b 1),.o (nv (ab y)) 1 1 2] (ar 27 a (EV (ab x) (ab y) oM aM aM _ _ a.g) (fun _ _ a=>lL a [.c,.v (nv 0),.v qF] (lA 5 40 ([uV 0,eS]) a (fun i _ _ a=>lP 0 0 (nc 0) a (fun _ a=>lL a ac (aG (lL a ac (ag (cK (aa a [.v (qP b 1),.o (nv (ab y)) 2 1 2,.v (qP d 1),.o (nv (ab x)) 3 1 2] (ar 40 a (Er (ab y) (ab x) oM aM aM _ _ a.g) (fun _ _ a=>lL a [.c,.v (nv ((ab y)-(ab x))),.v qT] (lA 7 40 ([uV 0,eS]) a (fun z _ _ a=>lP 0 0 (nc ((ab y)-(ab x))) a (fun _ a=>lL a ac (aG (lL a [.v (pB b),.o qF 3 0 1,.o (nv ((ab y)-(ab x))) 0 0 2] (ar 46 a (gh false ((ab y)-(ab x)) (by first|assumption|exact aw (M6 _ _) aM) _ _ a.g) (fun _ _ a=>lP 2 0 (ic (bu false ((ab y)-(ab x)))) a (fun _ a=>ae a [(2,0,3)] (iv (bu false ((ab y)-(ab x)))) (congrArg iv (by unfold bu ab at *;simp;omega))))))))))))))))))))))))))))))))
theorem F3 (x y:Int)(f:(wds (ab x)).length<=1000000000)(e:(wds (ab y)).length<=1000000000)(p:(wds (ab x+ab y)).length<=1000000000)(j:af x=true)(d:af y=true)(w:World)(h:Hp)(g:G w h):CV 298 #[wX (.bool true) (ab x),wX (.bool true) (ab y)] w h (iv (x+y)):=by
 have a:=sS g;have i:=bj j;have l:=bj d;refine go Tryz.func298 [(0,wX qT (ab x)),(1,wX qT (ab y))] rfl (ax (lA 2 42 (wC qT (ab x)) a (fun b w2 D a=>lA 3 42 (wC qT (ab y)) a (fun c F C a=>lA 4 42 ([qF,uV 0,eS]) a (fun B z u a=>ah (aa a [.v (pB b),.o qT 2 0 1,.v (pB c),.o qT 1 0 1,.v qT] (ak (cQ (cR 8 [] mixed a ao ?_)))))))));exact eV 0 14 (pB b) (eO 1 15 [(2,0,1)] qT a (eV 2 16 (qP b 1) (eO 3 17 [(2,1,2)] (nv (ab x)) a (eV 4 18 (qP c 1) (eO 5 19 [(1,1,2)] (nv (ab y)) a (au 6 20 a (fun _ _ a=>If (ab x) (ab y) aM aM _ _ a.g) (fun _ _ a=>au 7 21 a (fun _ _ a=>gh true ((ab x)+(ab y)) (by first|assumption|exact aw (M6 _ _) aM) _ _ a.g) (fun _ _ a=>bP a (fun _ _ a=>tP 8 0 0 (ic (bu true ((ab x)+(ab y)))) a (fun _ a=>tN (kX (a.ret [(0,0,3)] (iv (bu true ((ab x)+(ab y)))) (congrArg iv (by unfold bu ab at *;simp;omega))))))))))))))
theorem GN (x y:Int)(i:(wds (ab x)).length<=1000000000)(f:(wds (ab y)).length<=1000000000)(o:(wds (ab x*ab y)).length<=1000000000)(d:af x=false)(b:af y=false)(w:World)(h:Hp)(g:G w h):CV 153 #[wX (.bool false) (ab x),wX (.bool false) (ab y)] w h (iv (x*y)):=by
 have a:=sS g;have j:=a7 d;have l:=a7 b;refine go Tryz.func153 [(0,wX qF (ab x)),(1,wX qF (ab y))] rfl (ax (lA 2 42 (wC qF (ab x)) a (fun e w2 C a=>lA 3 42 (wC qF (ab y)) a (fun c D B a=>lA 4 42 ([qF,uV 0,eS]) a (fun z u p a=>ah (cR 11 [] mixed a ao ?_))))));exact eV 0 5 (pB e) (eO 1 6 [(2,0,1)] qF a (eV 2 7 (pB c) (eO 3 8 [(1,0,1)] qF a (eV 4 9 qF (eV 5 10 (qP e 1) (eO 6 11 [(2,1,2)] (nv (ab x)) a (eV 7 12 (qP c 1) (eO 8 13 [(1,1,2)] (nv (ab y)) a (au 9 14 a (fun _ _ a=>qJ (ab x) (ab y) aM aM _ _ a.g) (fun _ _ a=>au 10 15 a (fun _ _ a=>gh false ((ab x)*(ab y)) aM _ _ a.g) (fun _ _ a=>bP a (fun _ _ a=>tP 11 0 0 (ic (bu false ((ab x)*(ab y)))) a (fun _ a=>tN (kX (a.ret [(0,0,3)] (iv (bu false ((ab x)*(ab y)))) (by rw[<-mF x y,d,b];rfl))))))))))))))))
theorem Gf (x y:Int)(i:(wds (ab x)).length<=1000000000)(f:(wds (ab y)).length<=1000000000)(o:(wds (ab x*ab y)).length<=1000000000)(d:af x=false)(b:af y=true)(w:World)(h:Hp)(g:G w h):CV 153 #[wX (.bool false) (ab x),wX (.bool true) (ab y)] w h (iv (x*y)):=by
 have a:=sS g;have j:=a7 d;have l:=bj b;refine go Tryz.func153 [(0,wX qF (ab x)),(1,wX qT (ab y))] rfl (ax (lA 2 42 (wC qF (ab x)) a (fun e w2 C a=>lA 3 42 (wC qT (ab y)) a (fun c D B a=>lA 4 42 ([qF,uV 0,eS]) a (fun z u p a=>ah (cR 11 [] mixed a ao ?_))))));exact eV 0 5 (pB e) (eO 1 6 [(2,0,1)] qF a (eV 2 7 (pB c) (eO 3 8 [(1,0,1)] qT a (eV 4 9 qT (eV 5 10 (qP e 1) (eO 6 11 [(2,1,2)] (nv (ab x)) a (eV 7 12 (qP c 1) (eO 8 13 [(1,1,2)] (nv (ab y)) a (au 9 14 a (fun _ _ a=>qJ (ab x) (ab y) aM aM _ _ a.g) (fun _ _ a=>au 10 15 a (fun _ _ a=>gh true ((ab x)*(ab y)) aM _ _ a.g) (fun _ _ a=>bP a (fun _ _ a=>tP 11 0 0 (ic (bu true ((ab x)*(ab y)))) a (fun _ a=>tN (kX (a.ret [(0,0,3)] (iv (bu true ((ab x)*(ab y)))) (by rw[<-mF x y,d,b];rfl))))))))))))))))
theorem Gd (x y:Int)(i:(wds (ab x)).length<=1000000000)(f:(wds (ab y)).length<=1000000000)(o:(wds (ab x*ab y)).length<=1000000000)(d:af x=true)(b:af y=false)(w:World)(h:Hp)(g:G w h):CV 153 #[wX (.bool true) (ab x),wX (.bool false) (ab y)] w h (iv (x*y)):=by
 have a:=sS g;have j:=bj d;have l:=a7 b;refine go Tryz.func153 [(0,wX qT (ab x)),(1,wX qF (ab y))] rfl (ax (lA 2 42 (wC qT (ab x)) a (fun e w2 C a=>lA 3 42 (wC qF (ab y)) a (fun c D B a=>lA 4 42 ([qF,uV 0,eS]) a (fun z u p a=>ah (cR 11 [] mixed a ao ?_))))));exact eV 0 5 (pB e) (eO 1 6 [(2,0,1)] qT a (eV 2 7 (pB c) (eO 3 8 [(1,0,1)] qF a (eV 4 9 qT (eV 5 10 (qP e 1) (eO 6 11 [(2,1,2)] (nv (ab x)) a (eV 7 12 (qP c 1) (eO 8 13 [(1,1,2)] (nv (ab y)) a (au 9 14 a (fun _ _ a=>qJ (ab x) (ab y) aM aM _ _ a.g) (fun _ _ a=>au 10 15 a (fun _ _ a=>gh true ((ab x)*(ab y)) aM _ _ a.g) (fun _ _ a=>bP a (fun _ _ a=>tP 11 0 0 (ic (bu true ((ab x)*(ab y)))) a (fun _ a=>tN (kX (a.ret [(0,0,3)] (iv (bu true ((ab x)*(ab y)))) (by rw[<-mF x y,d,b];rfl))))))))))))))))
theorem Hd (x y:Int)(i:(wds (ab x)).length<=1000000000)(f:(wds (ab y)).length<=1000000000)(o:(wds (ab x*ab y)).length<=1000000000)(d:af x=true)(b:af y=true)(w:World)(h:Hp)(g:G w h):CV 153 #[wX (.bool true) (ab x),wX (.bool true) (ab y)] w h (iv (x*y)):=by
 have a:=sS g;have j:=bj d;have l:=bj b;refine go Tryz.func153 [(0,wX qT (ab x)),(1,wX qT (ab y))] rfl (ax (lA 2 42 (wC qT (ab x)) a (fun e w2 C a=>lA 3 42 (wC qT (ab y)) a (fun c D B a=>lA 4 42 ([qF,uV 0,eS]) a (fun z u p a=>ah (cR 11 [] mixed a ao ?_))))));exact eV 0 5 (pB e) (eO 1 6 [(2,0,1)] qT a (eV 2 7 (pB c) (eO 3 8 [(1,0,1)] qT a (eV 4 9 qF (eV 5 10 (qP e 1) (eO 6 11 [(2,1,2)] (nv (ab x)) a (eV 7 12 (qP c 1) (eO 8 13 [(1,1,2)] (nv (ab y)) a (au 9 14 a (fun _ _ a=>qJ (ab x) (ab y) aM aM _ _ a.g) (fun _ _ a=>au 10 15 a (fun _ _ a=>gh false ((ab x)*(ab y)) aM _ _ a.g) (fun _ _ a=>bP a (fun _ _ a=>tP 11 0 0 (ic (bu false ((ab x)*(ab y)))) a (fun _ a=>tN (kX (a.ret [(0,0,3)] (iv (bu false ((ab x)*(ab y)))) (by rw[<-mF x y,d,b];rfl))))))))))))))))
theorem IP (x y:Int)(b:(wds (ab x)).length+(wds (ab y)).length<=999999999)(w:World)(h:Hp)(g:G w h):CV 298 #[iv x,iv y] w h (iv (x+y)):=by
 have a:(wds (ab x+ab y)).length<=1000000000:=e4 kP oM
 rcases hx:af x with _|_<;>rcases hy:af y with _|_<;>rw[jM hx,jM hy]
 ·exact GX x y oM oM a hx hy w h g
 ·rcases ea (ab x) (ab y) with hc|hc
  ·exact Dh x y oM oM a hx hy hc w h g
  ·exact DP x y oM oM a hx hy hc w h g
 ·rcases ea (ab x) (ab y) with hc|hc
  ·exact DC x y oM oM a hx hy hc w h g
  ·exact EK x y oM oM a hx hy hc w h g
 ·exact F3 x y oM oM a hx hy w h g
theorem Eg (x y:Int)(b:(wds (ab x)).length+(wds (ab y)).length<=1000000000)(w:World)(h:Hp)(g:G w h):CV 153 #[iv x,iv y] w h (iv (x*y)):=by
 have a:(wds (ab x*ab y)).length<=1000000000:=e4 dq oM
 rcases hx:af x with _|_<;>rcases hy:af y with _|_<;>rw[jM hx,jM hy]
 ·exact GN x y oM oM a hx hy w h g
 ·exact Gf x y oM oM a hx hy w h g
 ·exact Gd x y oM oM a hx hy w h g
 ·exact Hd x y oM oM a hx hy w h g
theorem BV (n:Nat)(hl:(wds n).length<=1000000000)(w:World)(h:Hp)(g:G w h):CR 116 #[nv n] w h (fun v h1=>∃ A,v=.slice A ((nb n+7)/8) ((nb n+7)/8)/\SlO 1 nk 0 h1 A (gf n ((nb n+7)/8))):=by
 have c:=sS g;have hnb:=mI n;have X:=mt n;refine go Tryz.func116 [(0,nv n)] rfl (ax (lA 1 40 (nc n) c (fun H w2 h3 c=>lL c ac (aG (lL c [.o (nv n) 0 0 2] (ar 8 c (fZ n hl _ _ c.g) (fun w4 h5 c=>bh 9 ((nb n:Nat)+7) ((nb n)+7) (lV 10 (nV (((nb n)+7)/8)) ?_ (hr:=aI (dH (t:=3) (u:=3) (x:=.tmp 9) (y:=.const (iV 8)) (k:=.i64) (a:=(((nb n)+7:Nat):Int)) (b:=(8:Int)) kR kR kR oM _) (dE ((nb n)+7) 8 oM))))))))));refine lL c ac (aG (lL c ac (lK 12 5 (((nb n)+7)/8:Nat) 1 1 (.int .u8 0) nk 0 c (fun e w7 h8 c=>?_))));have K:(As (((nb n)+7)/8:Nat) 0).length=(((nb n)+7)/8:Nat):=by simp
 refine lL c ac (aG (lL c [.o (nv n) 1 0 2] (lC 14 c (gn n oM _ _ c.g) ?_)));rintro _ _ zd c ⟨p,B,rfl,Q,J⟩;replace c:=c.aS J;refine lL c ac (ah (aa c aD (aY ?_)));refine bH _ (CG.loop (fun I Γ w_=>∃ (i:Nat) (l:List Nat) (F:Hp),I=((nb n+7)/8)-i/\Γ=[(2,sZ),(3,nV (((nb n)+7)/8)),(4,qS (sB e) (((nb n)+7)/8:Nat) (((nb n)+7)/8:Nat)),(5,qS p ((wds n).length) B),(15,nV (((nb n)+7)/8)),(16,nV i)]/\SS w h w_ F [⟨e,5,(l).flatMap nk⟩,⟨H,40,nc n⟩] [] [fun F=>SlO 1 aq 0 F p (wds n)]/\i<=((nb n+7)/8)/\l.length=((nb n+7)/8)/\(∀ j,j<i->l.getD (((nb n+7)/8)-1-j) 0=n/256^j%256)) _ ⟨0,As (((nb n)+7)/8:Nat) 0,zd,rfl,rfl,c.to _ _,MG _,K,(fun j M=>absurd M oM)⟩ ?_);rintro _ _ _ ⟨i,l,V,L,rfl,c,hi,z,S⟩;have Y:=oA n (i/8);refine ax ?_;cases za:(decide ((i:Int)<((((nb n)+7)/8:Nat):Int)))
 .
  have zb:=oF za;refine lB 17 za (ah (dr (CG.exit ?_)))
  show CG _ _ _ _ _ _ _ _
  refine aa c aD (lN (kX ?_));have Z:i=((nb n+7)/8):=by omega
  have D:l=gf n ((nb n+7)/8):=sq z (fun j M=>S j oM);rw[D] at c
  obtain ⟨_,c,C,U,O⟩:=c.pub 0;replace c:=(c.to [⟨H,40,nc n⟩] []).aS (SlO.of_flat (sz:=1) (f:=nk) (d:=0) (b:=e) (o:=0) (l:=gf n ((nb n+7)/8)) (fun _=>rfl) C);exact c.ret [] (qS (sB e) (((nb n)+7)/8:Nat) (((nb n)+7)/8:Nat)) (⟨sB e,rfl,c.f.1⟩)
 have zb:=oT za;refine lB 17 za (ah (co (cK (cQ (kZ (aa c aD (lN (kQ (lL c aD (bh 21 ((((nb n)+7)/8:Nat)-1) ((((nb n)+7)/8:Nat)-1) ?_))))))))));refine lL c ac (bh 23 (((((nb n)+7)/8:Nat)-1:Nat)-(i:Nat)) (((((nb n)+7)/8:Nat)-1:Nat)-i) ?_);refine lL c aD (lV 26 (nV (i/8)) ?_ (hr:=aI (dH (t:=3) (u:=3) (x:=.tmp 25) (y:=.const (iV 8)) (k:=.i64) (a:=(i:Int)) (b:=(8:Int)) kR kR kR oM _) (dE i 8 oM)));refine lX 27 p ((wds n).length) B 1 (i/8:Nat) (i/8) ((c.f.1).ok oM) (lH 28 (mV ((wds n).getD (i/8) 0)) c ((c.f.1).el (i/8) oM) (lL c ac (lV 30 (nV (i%8)) ?_ (hr:=aI (ft (t:=3) (u:=3) (x:=.tmp 29) (y:=.const (iV 8)) (k:=.i64) (a:=(i:Int)) (b:=(8:Int)) kR kR kR oM _) (dk i 8)))));refine bh 31 (8*(i%8:Nat)) (8*(i%8)) (lV 32 (mV (((wds n).getD (i/8) 0)/2^(8*(i%8)))) ?_ (hr:=gI (t:=38) (u:=3) (x:=.tmp 28) (y:=.tmp 31) (ky:=.i64) (a:=((wds n).getD (i/8) 0)) (n:=(8*(i%8))) kR kR kR oM _));refine lV 33 (.int .u8 ((wds n).getD (i/8) 0/2^(8*(i%8))%256:Nat)) ?_ (hr:=aI (n:=IntKind.wrap .u8 (((wds n).getD (i/8) 0/2^(8*(i%8)):Nat):Int)) kR (CQ _));refine lX 34 (sB e) (((nb n)+7)/8:Nat) (((nb n)+7)/8:Nat) 1 (((((nb n)+7)/8:Nat)-1:Nat)-i:Nat) (((((nb n)+7)/8:Nat)-1:Nat)-i:Nat) rfl (lW 0 l nk 1 (((((nb n)+7)/8:Nat)-1:Nat)-i:Nat) ((wds n).getD (i/8) 0/2^(8*(i%8))%256:Nat) c oM (fun _ c=>?_));have W:((l).set (((((nb n)+7)/8:Nat)-1:Nat)-i:Nat) ((wds n).getD (i/8) 0/2^(8*(i%8))%256:Nat)).length=(((nb n)+7)/8:Nat):=by rw[LB];exact z
 replace c:=c.to [⟨e,5,((l).set (((((nb n)+7)/8:Nat)-1:Nat)-i:Nat) ((wds n).getD (i/8) 0/2^(8*(i%8))%256:Nat)).flatMap nk⟩,⟨H,40,nc n⟩] [];refine lN (kQ (bh 35 ((i:Nat)+1) (i+1) ?_));refine lL c ac (lD ?_);intro a_ ka;refine ⟨_,_,?_,⟨i+1,(l).set (((((nb n)+7)/8:Nat)-1:Nat)-i:Nat) ((wds n).getD (i/8) 0/2^(8*(i%8))%256:Nat),V,rfl,rfl,c.to _ _,oM,W,(ik z oM S (BQ n i))⟩,ka.to _ kR⟩
 omega
theorem BW (n m:Nat)(A:Option Addr)(c:Nat)(hc:m<=c)(hm:m<=10000000000)(hn:n<256^m)(w:World)(h:Hp)(g:G w h)(hA:SlO 1 nk 0 h A (gf n m)):CV 91 #[.slice A m c] w h (nv n):=by
 have e:=((sS g).aS hA);have X:=jL n m;refine go Tryz.func91 [(0,qS A m c)] rfl (ax (lA 2 40 ([uV 0,eS]) e (fun z w2 h3 e=>aG (lL e [.c,.v (nV m)] (bh 7 ((m:Nat)+7) (m+7) ?_)))));refine lV 8 (nV ((m+7)/8)) ?_ (hr:=aI (dH (t:=3) (u:=3) (x:=.tmp 7) (y:=.const (iV 8)) (k:=.i64) (a:=((m+7:Nat):Int)) (b:=(8:Int)) kR kR kR oM _) (dE (m+7) 8 oM));refine lK 9 38 ((m+7)/8) 1 8 (uV 0) aq 0 e (fun j w5 Y e=>?_);have F:(As ((m+7)/8) 0).length=((m+7)/8):=by simp
 refine lL e ac (ah (aa e [.c,.v (nV m),.c] (aY ?_)));refine bH _ (CG.loop (fun J Γ U=>∃ (i:Nat) (l:List Nat) (C:Hp),J=m-i/\Γ=[(0,qS A m c),(2,pB z),(3,qS (sB j) ((m+7)/8) ((m+7)/8)),(11,nV m),(12,nV i)]/\SS w h U C [⟨j,38,(l).flatMap aq⟩,⟨z,40,[uV 0,eS]⟩] [] [fun C=>SlO 1 nk 0 C A (gf n m)]/\i<=m/\l.length=(m+7)/8/\Wd l/\aA l=n%256^i) _ ⟨0,As ((m+7)/8) 0,Y,rfl,rfl,e.to _ _,MG _,F,Wd.rep _,(by show ai _ _=_;rw[dM,L9,Nat.mod_one])⟩ ?_);rintro _ _ w8 ⟨i,l,h9,O,rfl,e,hi,L,K,inv⟩;have hbi:=kM n m (m-1-i);refine ax ?_;cases za:(decide ((i:Int)<(m:Int)))
 .
  have zb:=oF za;refine lB 13 za (ah (dr (CG.exit ?_)))
  show CG _ _ _ _ _ _ _ _
  refine ax ?_;have D:i=m:=by omega
  have W:aA l=n:=by rw[inv,D];exact A0 hn
  obtain ⟨_,e,p,M,Q⟩:=e.pub 0;replace e:=(e.to [⟨z,40,[uV 0,eS]⟩] []).aS (SlO.of_flat (sz:=1) (f:=aq) (d:=0) (b:=j) (o:=0) (l:=l) (fun _=>rfl) p);exact lL e ac (ar 37 e (dt (sB j) ((m+7)/8) (l) ((m+7)/8) (n) (by first|rfl|assumption|(simp;done)|(simp;omega)|omega) (K) (W) sM sM _ _ e.g e.f.1) (fun _ _ e=>lP 0 0 (nc n) e (fun _ e=>ae e [(0,0,2)] (nv n) rfl)))
 have zb:=oT za;refine lB 13 za (ah (co (cK (cQ (kZ (aa e aD (lN (cR 19 [] mixed e ao ?_))))))));refine eV 0 15 (qS (sB j) ((m+7)/8) ((m+7)/8)) (eV 1 16 (nV i) (eV 2 17 (nV (i/8)) ?_ (hv:=fun _=>aI (dH (t:=3) (u:=3) (x:=.tmp 16) (y:=.const (iV 8)) (k:=.i64) (a:=(i:Int)) (b:=(8:Int)) kR kR kR oM _) (dE i 8 oM))));refine eX 3 18 (sB j) ((m+7)/8) ((m+7)/8) 1 (i/8:Nat) (i/8) rfl (eQ 4 19 0 l aq 1 0 (i/8) (mV ((l).getD (i/8) 0)) e oM (eV 5 20 (qS A m c) (eV 6 21 (qS A m c) (eV 7 22 (nV m) (jX 8 23 ((m:Nat)-1) (m-1) (eV 9 24 (nV i) (jX 10 25 ((m-1:Nat)-(i:Nat)) ((m-1)-i) (eX 11 26 A m c 1 ((m-1)-i:Nat) ((m-1)-i) ((e.f.1).ok oM) (eH 12 27 (.int .u8 ((gf n m).getD ((m-1)-i) 0:Nat)) e ((e.f.1).el ((m-1)-i) oM) (eV 13 28 (mV ((gf n m).getD ((m-1)-i) 0)) ?_ (hv:=fun _=>rU ((((gf n m).getD ((m-1)-i) 0:Nat):Int)) kR (a8 oM oM))))))))))));refine eV 14 29 (nV i) (eV 15 30 (nV (i%8)) ?_ (hv:=fun _=>aI (ft (t:=3) (u:=3) (x:=.tmp 29) (y:=.const (iV 8)) (k:=.i64) (a:=(i:Int)) (b:=(8:Int)) kR kR kR oM _) (dk i 8)));refine jX 16 31 (8*(i%8:Nat)) (8*(i%8)) (eV 17 32 (mV (((gf n m).getD ((m-1)-i) 0:Nat)*2^(8*(i%8))%18446744073709551616)) ?_ (hv:=fun _=>g9 (t:=38) (u:=3) (x:=.tmp 28) (y:=.tmp 31) (ky:=.i64) (a:=((gf n m).getD ((m-1)-i) 0:Nat)) (n:=(8*(i%8))) kR kR kR _));obtain ⟨H,B,I⟩:=tR oM inv (show (gf n m).getD (m-1-i) 0=n/256^i%256 by rw[i7 n m _ oM,show m-1-(m-1-i)=i by omega]);have hlg:=K.get (i/8);refine eV 18 33 (mV (l.getD (i/8) 0+(gf n m).getD (m-1-i) 0*2^(8*(i%8)))) ?_ (hv:=fun _=>aI (iw (t:=38) (u:=38) (x:=.tmp 19) (y:=.tmp 32) (a:=((l).getD (i/8) 0)) (b:=(((gf n m).getD ((m-1)-i) 0:Nat)*2^(8*(i%8))%18446744073709551616:Nat)) kR kR kR oM oM _) (by rw[H]));refine bP e (fun _ V e=>tX 19 34 (sB j) ((m+7)/8) ((m+7)/8) 1 (i/8:Nat) (i/8) rfl (tW 20 0 l aq 1 (i/8) (l.getD (i/8) 0+(gf n m).getD (m-1-i) 0*2^(8*(i%8)):Nat) e oM (fun _ e=>?_)));have S:((l).set (i/8) (l.getD (i/8) 0+(gf n m).getD (m-1-i) 0*2^(8*(i%8)):Nat)).length=((m+7)/8):=by rw[LB];exact L
 replace e:=e.to [⟨j,38,((l).set (i/8) (l.getD (i/8) 0+(gf n m).getD (m-1-i) 0*2^(8*(i%8)):Nat)).flatMap aq⟩,⟨z,40,[uV 0,eS]⟩] [];refine tN (kQ (bh 35 ((i:Nat)+1) (i+1) ?_));refine lL e ac (lD ?_);intro a_ Z;refine ⟨_,_,?_,⟨i+1,(l).set (i/8) (l.getD (i/8) 0+(gf n m).getD (m-1-i) 0*2^(8*(i%8)):Nat),V,rfl,rfl,e.to _ _,oM,S,(K.set _ B),I⟩,Z.to _ kR⟩
 omega
theorem G8 (n k:Nat)(B:(wds n).length<=1000000000)(hk:k<=65536)(w:World)(h:Hp)(g:G w h):CV 189 #[nv n,nV k] w h (nv (n*2^k)):=by
 have a:=sS g;refine go Tryz.func189 [(0,nv n),(1,nV k)] rfl (ax (lA 2 40 (nc n) a (fun M w2 J a=>lA 4 40 ([uV 0,eS]) a (fun L K I a=>aG (lL a ac (lV 6 (nV k) ?_ (hr:=aI (n:=if (65536:Int)<(k:Int) then (65536:Int) else (k:Int)) kR (if_neg oM))))))));refine lV 7 (nV k) ?_ (hr:=aI (n:=if (k:Int)>(-65536:Int) then (k:Int) else (-65536:Int)) kR (if_pos oM));refine lL a ac (ah (aa a ac ?_));have ⟨c,u⟩:=dF (p:=(k:Int)<(0:Int)) oM;refine lB 9 c (ag (cK (aa a [.o (nv n) 1 0 2] (lC 17 a (gn n oM _ _ a.g) ?_))));rintro _ H F a ⟨i,b,rfl,l,e⟩;replace a:=a.aS e;refine lL a ac (lC 19 a (wG i b (wds n) (Wd.wds n) B k oM _ _ a.g a.f.1) ?_);rintro _ _ _ a ⟨D,C,z,rfl,x,y,d,j,hz⟩;replace a:=a.aS hz;exact ar 20 a (dt D C (z) z.length ((n*2^k)) (by first|rfl|assumption|(simp;done)|(simp;omega)|omega) (d) (by rw[j,ay]) sM sM _ _ a.g a.f.1) (fun _ _ a=>lP 0 0 (nc (n*2^k)) a (fun _ a=>ae a [(0,0,2)] (nv (n*2^k)) rfl))
section
variable {P:Program} {Γ:bU} {o:Oper}
theorem Ir {t e:TypeId}{x ix:Operand}{b off sz len:Nat}{i:Int}{kk:IntKind}(k:Nat)(u:o.op=.indexAddr t x ix)(p:ev Γ x=.pointer (some ⟨b,off,none⟩))(hi:ev Γ ix=.int kk i)
    (h:P.underlying t=some (.array len e))(d:(P.info? e).map (·.size)=some sz)(hk:i=k)(l:k<len)(w:World) :
    (execOp (ev Γ) o).run P w=.ok (.value (.pointer (some ⟨b,off+k*sz,none⟩))) w:=by
  subst hk
  unfold execOp
  simp only[u]
  rw[p,hi];have f:P.elem t=e:=by unfold Program.elem;rw[h]
  have c:P.arrayLen t=len:=by unfold Program.arrayLen;rw[h]
  have h1:=run_indexAt_array (P:=P) w t ⟨b,off,none⟩ kk (k:Int) (by rw[f,c];exact h);rw[c,if_pos ⟨by omega,by omega⟩,f] at h1
  have j:(sizeOf e).run P w=.ok sz w:=by
    cases a:P.info? e with
    | none=>rw[a] at d;cases d
    | some i =>
      rw[a] at d
      simp at d
      simp[sizeOf,typeInfo,a,d]
  rw[j] at h1
  simp[h1,Result.andThen,Addr.add]
end
def Tz (n k m:Nat):Prop:=n=2^k*m/\m%2=1
theorem Fy {x:Nat}(h0:x≠0)(h:x<18446744073709551616):∃ m,Tz x (Lib.ctz 64 x) m/\Lib.ctz 64 x<64:=by
 unfold Lib.ctz
 rw[if_neg h0];obtain ⟨m,e,a⟩:=Lib.ctzFrom_spec 64 x oM h;exact ⟨2*m+1,⟨e,by omega⟩,a⟩
theorem Tz.odd_pos {n k m:Nat}(h:Tz n k m):0<m:=by have:=h.2;omega
theorem Tz.word {n i x k m r:Nat}(e:n=18446744073709551616^i*(x+18446744073709551616*r))(t:Tz x k m)(hk:k<64):Tz n (64*i+k) (m+2^(64-k)*r):=by
 obtain ⟨b,c⟩:=t;refine ⟨?_,?_⟩
 ·have a:(18446744073709551616:Nat)=2^k*2^(64-k):=by rw[<-L4,show k+(64-k)=64 by omega]
  have e1:(18446744073709551616:Nat)^i=2^(64*i):=by rw[Nat.pow_mul]
  rw[e,e1,b]
  conv=>lhs;rw[a]
  rw[L4,L6 (2^k),<-Mg,<-L6]
 ·obtain ⟨j,hj⟩:∃ j,64-k=j+1:=⟨63-k,by omega⟩
  rw[hj,LR,LC (2^j) 2,L6]
  omega
theorem Tz.uniq {n k m c f:Nat}(a:Tz n k m)(b:Tz n c f):k=c/\m=f:=by
 obtain ⟨i,l⟩:=a;obtain ⟨j,u⟩:=b
 have key:∀ {k m c f:Nat},2^k*m=2^c*f->m%2=1->c<=k:=fun {k m c f} e o=>by
  rcases ea k c with h|h
  ·exfalso
   obtain ⟨d,rfl⟩:∃ d,c=k+(d+1):=⟨c-k-1,by omega⟩;rw[L4,L6] at e
   have e2:=M7 (Mc k) e;rw[LR,LC (2^d) 2,L6] at e2
   omega
  ·exact h
 have h1:=key (i.symm.trans j) l;have x:=key (j.symm.trans i) u;have p:k=c:=by omega
 subst p;exact ⟨rfl,M7 (Mc k) (i.symm.trans j)⟩
theorem o5 {x y:Nat}(a:y%2=1):MX (2*x) y=MX x y:=by
 have b:Nat.Coprime 2 y:=by
  unfold Nat.Coprime
  rw[Nat.gcd_rec,a];rfl
 exact b.gcd_mul_left_cancel x
theorem fJ {x y:Nat}(a:y%2=1):∀ k,MX (2^k*x) y=MX x y
  | 0=>by simp
  | k+1=>by
    rw[LR,LC (2^k) 2,L6,o5 a];exact fJ a k
theorem Bi {x y k l m n:Nat}(a:Tz x k m)(b:Tz y l n):MX x y=MX m n*2^min k l:=by
 obtain ⟨f,i⟩:=a;obtain ⟨e,c⟩:=b;subst f e
 rcases M8 k l with h|h
 ·rw[LS h]
  obtain ⟨d,rfl⟩:∃ d,l=k+d:=⟨l-k,by omega⟩;rw[L4,L6,M9,MY m,fJ i,MY n,LC]
 ·rw[MA h]
  obtain ⟨d,rfl⟩:∃ d,k=l+d:=⟨k-l,by omega⟩;rw[L4,L6,M9,fJ c,LC]
theorem uP {x y k m:Nat}(b:y<x)(a:y%2=1)(t:Tz (x-y) k m):MX m y=MX x y:=by
 rw[<-fJ a k,<-t.1];have e:=Nat.gcd_add_self_left (m:=y) (n:=x-y);rw[show x-y+y=x by omega] at e
 exact e.symm
theorem SlO.win {α:Type}{f:α->List Value}{d:α}{h:Hp}{b:Nat}{l:List α}(hf:∀ x,(f x).length=1)(sg:Seg h b 0 (l.flatMap f))(o n:Nat):SlO 1 f d h (some ⟨b,o,none⟩) ((l.drop o).take n):=by
  have a:=sg.part o ((l.drop o).take n).length;rw[Ab] at a
  have e:∀ (l:List α) (o n:Nat),((l.flatMap f).drop o).take ((l.drop o).take n).length=((l.drop o).take n).flatMap f:=by
    have e1:∀ (l:List α),(l.flatMap f).length=l.length:=fun l=>by
      induction l with
      | nil=>rfl
      | cons x l ih=>rw[y4,List.length_append,hf,ih,List.length_cons];omega
    have c:∀ (l:List α) (o:Nat),(l.flatMap f).drop o=(l.drop o).flatMap f:=fun l=>by
      induction l with
      | nil=>intro o;simp
      | cons x l ih =>
        intro o;cases o with
        | zero=>rfl
        | succ o =>
          rw[y4,List.drop_append,hf,z2 (by rw[hf];omega),List.nil_append,List.drop_succ_cons,My];exact ih o
    have et:∀ (l:List α) (n:Nat),(l.flatMap f).take n=(l.take n).flatMap f:=fun l=>by
      induction l with
      | nil=>intro n;simp
      | cons x l ih =>
        intro n;cases n with
        | zero=>rfl
        | succ n =>
          rw[y4,List.take_append,hf,Mu (by rw[hf];omega),List.take_succ_cons,y4,My,ih n]
    intro l o n;rw[c,et,LF]
    congr 1
    rcases M8 n (l.drop o).length with h|h
    . rw[LS h]
    . rw[MA h,y8,Mu h]
  rw[e] at a
  exact SlO.of_flat hf a
def Tab (h:Hp):Prop:=Seg h 2 0 (Lib.deBruijn64tab.map fun k=>Value.int .u8 ((k:Nat):Int))
theorem Tab.gw {h h':Hp}(t:Tab h)(u:Gw h h'):Tab h':=Seg.gw t u
theorem SS.aB {w0 w:World}{h0 h:Hp}{B:List Bx}{R:List Rw}{F:List (Hp->Prop)}(s:SS w0 h0 w h B R F)(p:Tab h):SS w0 h0 w h B R ((fun h=>Tab h)::F):=s.add (K:=fun h=>Tab h) p
end Go.Proofs.YtnphimgdpdiekaaGreatDoor
