/- Laws of this claim, part 3. -/
import Derived.Test.YthfkmhgnndmblaaGreatDoorQf0
import Derived.Test.YthfkmhgnndmblaaGreatDoorQf1
set_option maxRecDepth 100000
set_option maxHeartbeats 4000000
namespace Go.Proofs.YthfkmhgnndmblaaGreatDoor
open Int renaming eq_ofNat_of_zero_le -> MI, mul_neg -> MJ, neg_mul -> MK, neg_neg -> ML
open List renaming drop_eq_nil_of_le -> Mq, drop_zero -> yh, flatMap_cons -> wi, length_drop -> LZ, length_set -> Mg, length_take -> Lu, mem_cons -> g2, mem_cons_of_mem -> MH, mem_cons_self -> MG, mem_singleton -> sy, replicate -> zY, set_set -> ME, take_length -> yz, take_of_length_le -> LU
open Nat renaming add_mul -> LS, add_sub_cancel -> L8, add_zero -> wj, div_add_mod -> LX, div_eq_of_lt -> G3, div_le_self -> Gb, div_mul_le_self -> L5, eq_of_mul_eq_mul_left -> MN, eq_zero_or_pos -> Au, gcd -> MC, gcd_comm -> MD, gcd_mul_left -> MP, le_of_eq -> MF, le_total -> MO, le_trans -> ep, lt_of_lt_of_le -> e4, lt_or_ge -> dS, min_eq_left -> Lv, min_eq_right -> LY, mod_eq_of_lt -> z1, mod_lt -> z2, mul_add -> Lr, mul_assoc -> Ls, mul_comm -> HA, mul_le_mul_left -> LD, mul_le_mul_right -> y9, mul_lt_mul_of_pos_left -> LO, mul_lt_mul_of_pos_right -> Mb, mul_one -> LP, mul_zero -> Lw, one_mul -> LW, pow_add -> LC, pow_le_pow_right -> LA, pow_mul -> LH, pow_succ -> Hj, pow_zero -> MA, sub_le -> MM, succ_pos -> MB, two_pow_pos -> Lz, zero_add -> y8, zero_le -> My, zero_mul -> y5
open Go.RowKit
def ar (x:Nat):List Value:=[.int .u64 (x:Nat)]
theorem xF {l:List Nat}{m:Nat}(h:0<m)(h0:l.getD (m-1) 0=0):tl l m=tl l (m-1):=by
 obtain ⟨k,rfl⟩:∃ k,m=k+1:=⟨m-1,by omega⟩;rw[li,if_pos (by simpa using h0)];rfl
theorem pF (s:ByteArray)(d:8<=s.size)(w:World)(h:Hp)(g:G w h):CV 135 #[.string s] w h (mV (wv s)):=by
 have c:=sS g;have C:=cP s 0;have o:=cP s 1;have e:=cP s 2;have p:=cP s 3;have z:=cP s 4;have D:=cP s 5;have B:=cP s 6;have l:=cP s 7;refine go Tryz.func135 [(0,.string s)] rfl (aa c ac (ag (cR 38 [] mixed c ao ?_)));refine eV 0 3 (.string s) (eV 1 4 (.int .u8 (aU s 0:Nat)) ?_ (hv:=fun _=>dW (tx:=9) (x:=.tmp 3) (i:=.const (iV 0)) (k:=.i64) (s:=s) (n:=0) (j:=(0:Int)) kR kR kR kR oM oM _));refine eV 2 5 (mV (aU s 0)) ?_ (hv:=fun _=>rU (((aU s 0:Nat):Int)) kR (bc oM oM));refine eV 3 6 (.string s) (eV 4 7 (.int .u8 (aU s 1:Nat)) ?_ (hv:=fun _=>dW (tx:=9) (x:=.tmp 6) (i:=.const (iV 1)) (k:=.i64) (s:=s) (n:=1) (j:=(1:Int)) kR kR kR kR oM oM _));refine eV 5 8 (mV (aU s 1)) ?_ (hv:=fun _=>rU (((aU s 1:Nat):Int)) kR (bc oM oM));refine eV 6 9 (mV ((aU s 1)*256)) ?_ (hv:=fun _=>rU ((((aU s 1:Nat):Int)*256)) kR ((bc oM oM).trans oM));refine eV 7 10 (mV (aU s 0+aU s 1*256)) ?_ (hv:=fun _=>aK (iw (t:=38) (u:=38) (x:=.tmp 5) (y:=.tmp 9) (a:=(aU s 0)) (b:=((aU s 1)*256)) kR kR kR oM oM _) (by rw[gN 8 oM];first|done|omega));refine eV 8 11 (.string s) (eV 9 12 (.int .u8 (aU s 2:Nat)) ?_ (hv:=fun _=>dW (tx:=9) (x:=.tmp 11) (i:=.const (iV 2)) (k:=.i64) (s:=s) (n:=2) (j:=(2:Int)) kR kR kR kR oM oM _));refine eV 10 13 (mV (aU s 2)) ?_ (hv:=fun _=>rU (((aU s 2:Nat):Int)) kR (bc oM oM));refine eV 11 14 (mV ((aU s 2)*65536)) ?_ (hv:=fun _=>rU ((((aU s 2:Nat):Int)*65536)) kR ((bc oM oM).trans oM));refine eV 12 15 (mV (aU s 0+aU s 1*256+aU s 2*65536)) ?_ (hv:=fun _=>aK (iw (t:=38) (u:=38) (x:=.tmp 10) (y:=.tmp 14) (a:=(aU s 0+aU s 1*256)) (b:=((aU s 2)*65536)) kR kR kR oM oM _) (by rw[gN 16 oM];first|done|omega));refine eV 13 16 (.string s) (eV 14 17 (.int .u8 (aU s 3:Nat)) ?_ (hv:=fun _=>dW (tx:=9) (x:=.tmp 16) (i:=.const (iV 3)) (k:=.i64) (s:=s) (n:=3) (j:=(3:Int)) kR kR kR kR oM oM _));refine eV 15 18 (mV (aU s 3)) ?_ (hv:=fun _=>rU (((aU s 3:Nat):Int)) kR (bc oM oM));refine eV 16 19 (mV ((aU s 3)*16777216)) ?_ (hv:=fun _=>rU ((((aU s 3:Nat):Int)*16777216)) kR ((bc oM oM).trans oM));refine eV 17 20 (mV (aU s 0+aU s 1*256+aU s 2*65536+aU s 3*16777216)) ?_ (hv:=fun _=>aK (iw (t:=38) (u:=38) (x:=.tmp 15) (y:=.tmp 19) (a:=(aU s 0+aU s 1*256+aU s 2*65536)) (b:=((aU s 3)*16777216)) kR kR kR oM oM _) (by rw[gN 24 oM];first|done|omega));refine eV 18 21 (.string s) (eV 19 22 (.int .u8 (aU s 4:Nat)) ?_ (hv:=fun _=>dW (tx:=9) (x:=.tmp 21) (i:=.const (iV 4)) (k:=.i64) (s:=s) (n:=4) (j:=(4:Int)) kR kR kR kR oM oM _));refine eV 20 23 (mV (aU s 4)) ?_ (hv:=fun _=>rU (((aU s 4:Nat):Int)) kR (bc oM oM));refine eV 21 24 (mV ((aU s 4)*4294967296)) ?_ (hv:=fun _=>rU ((((aU s 4:Nat):Int)*4294967296)) kR ((bc oM oM).trans oM));refine eV 22 25 (mV (aU s 0+aU s 1*256+aU s 2*65536+aU s 3*16777216+aU s 4*4294967296)) ?_ (hv:=fun _=>aK (iw (t:=38) (u:=38) (x:=.tmp 20) (y:=.tmp 24) (a:=(aU s 0+aU s 1*256+aU s 2*65536+aU s 3*16777216)) (b:=((aU s 4)*4294967296)) kR kR kR oM oM _) (by rw[gN 32 oM];first|done|omega));refine eV 23 26 (.string s) (eV 24 27 (.int .u8 (aU s 5:Nat)) ?_ (hv:=fun _=>dW (tx:=9) (x:=.tmp 26) (i:=.const (iV 5)) (k:=.i64) (s:=s) (n:=5) (j:=(5:Int)) kR kR kR kR oM oM _));refine eV 25 28 (mV (aU s 5)) ?_ (hv:=fun _=>rU (((aU s 5:Nat):Int)) kR (bc oM oM));refine eV 26 29 (mV ((aU s 5)*1099511627776)) ?_ (hv:=fun _=>rU ((((aU s 5:Nat):Int)*1099511627776)) kR ((bc oM oM).trans oM));refine eV 27 30 (mV (aU s 0+aU s 1*256+aU s 2*65536+aU s 3*16777216+aU s 4*4294967296+aU s 5*1099511627776)) ?_ (hv:=fun _=>aK (iw (t:=38) (u:=38) (x:=.tmp 25) (y:=.tmp 29) (a:=(aU s 0+aU s 1*256+aU s 2*65536+aU s 3*16777216+aU s 4*4294967296)) (b:=((aU s 5)*1099511627776)) kR kR kR oM oM _) (by rw[gN 40 oM];first|done|omega));refine eV 28 31 (.string s) (eV 29 32 (.int .u8 (aU s 6:Nat)) ?_ (hv:=fun _=>dW (tx:=9) (x:=.tmp 31) (i:=.const (iV 6)) (k:=.i64) (s:=s) (n:=6) (j:=(6:Int)) kR kR kR kR oM oM _));refine eV 30 33 (mV (aU s 6)) ?_ (hv:=fun _=>rU (((aU s 6:Nat):Int)) kR (bc oM oM));refine eV 31 34 (mV ((aU s 6)*281474976710656)) ?_ (hv:=fun _=>rU ((((aU s 6:Nat):Int)*281474976710656)) kR ((bc oM oM).trans oM));refine eV 32 35 (mV (aU s 0+aU s 1*256+aU s 2*65536+aU s 3*16777216+aU s 4*4294967296+aU s 5*1099511627776+aU s 6*281474976710656)) ?_ (hv:=fun _=>aK (iw (t:=38) (u:=38) (x:=.tmp 30) (y:=.tmp 34) (a:=(aU s 0+aU s 1*256+aU s 2*65536+aU s 3*16777216+aU s 4*4294967296+aU s 5*1099511627776)) (b:=((aU s 6)*281474976710656)) kR kR kR oM oM _) (by rw[gN 48 oM];first|done|omega));refine eV 33 36 (.string s) (eV 34 37 (.int .u8 (aU s 7:Nat)) ?_ (hv:=fun _=>dW (tx:=9) (x:=.tmp 36) (i:=.const (iV 7)) (k:=.i64) (s:=s) (n:=7) (j:=(7:Int)) kR kR kR kR oM oM _));refine eV 35 38 (mV (aU s 7)) ?_ (hv:=fun _=>rU (((aU s 7:Nat):Int)) kR (bc oM oM));refine eV 36 39 (mV ((aU s 7)*72057594037927936)) ?_ (hv:=fun _=>rU ((((aU s 7:Nat):Int)*72057594037927936)) kR ((bc oM oM).trans oM));refine eV 37 40 (mV (aU s 0+aU s 1*256+aU s 2*65536+aU s 3*16777216+aU s 4*4294967296+aU s 5*1099511627776+aU s 6*281474976710656+aU s 7*72057594037927936)) ?_ (hv:=fun _=>aK (iw (t:=38) (u:=38) (x:=.tmp 35) (y:=.tmp 39) (a:=(aU s 0+aU s 1*256+aU s 2*65536+aU s 3*16777216+aU s 4*4294967296+aU s 5*1099511627776+aU s 6*281474976710656)) (b:=((aU s 7)*72057594037927936)) kR kR kR oM oM _) (by rw[gN 56 oM];first|done|omega));exact bU c (fun w1 f c=>tV 38 2 (mV (aU s 0+aU s 1*256+aU s 2*65536+aU s 3*16777216+aU s 4*4294967296+aU s 5*1099511627776+aU s 6*281474976710656+aU s 7*72057594037927936)) (tN (kX (c.ret [] (mV (aU s 0+aU s 1*256+aU s 2*65536+aU s 3*16777216+aU s 4*4294967296+aU s 5*1099511627776+aU s 6*281474976710656+aU s 7*72057594037927936)) rfl))))
theorem Fe (A:Z9)(c:Nat)(l:List Nat)(C:l.length<=1099511627776)(F:l.length<=c)(w:World)(h:Hp)(g:G w h)(z:SlO 1 ar 0 h A l):CV 170 #[.slice A l.length c] w h (.slice A (tl l l.length) c):=by
 have a:=((sS g).aS z);refine go Tryz.func170 [(0,qS A l.length c)] rfl (aa a ac (ag (kZ ?_)));refine bH _ (CG.loop (fun o Γ u=>∃ (m:Nat)(p:Hp),o=m/\Γ=[(2,sZ),(0,qS A m c)]/\SS w h u p [] [] [fun p=>SlO 1 ar 0 p A l]/\m<=l.length/\tl l l.length=tl l m) _ ⟨l.length,h,rfl,rfl,a.to _ _,nR _,rfl⟩ ?_);rintro _ _ w1 ⟨m,x,y,rfl,a,H,j⟩;refine cQ (aa a [.c,.v (nV m)] ?_);cases b:(decide ((0:Int)<(m:Int)))
 .
  have e:=oF b;refine lB 5 b (lL a ac (lG 7 ?_));refine lG 8 (lG 9 (lG 10 (lG 11 (lG 12 (lG 13 (lL a [.v qF] (ah (CG.exit ?_))))))))
  show CG _ _ _ _ _ _ _ _
  exact aa a aD (ae a [] (qS A m c) (by rw[j,nr oM]))
 have e:=oT b;refine lB 5 b (lL a [.c,.c,.c,.v (nV m)] (bp 10 ((m:Nat)-1) (m-1) ?_));refine lX 11 A m c 1 (m-1:Nat) (m-1) ((a.f.1).ok oM) (lH 12 (mV (l.getD (m-1) 0)) a ((a.f.1).el (m-1) oM) ?_);cases d:(((l.getD (m-1) 0:Nat):Int) == (0:Int))
 .
  have i:=aj d;refine lB 13 d (lL a [.v qF] (ah (CG.exit ?_)))
  show CG _ _ _ _ _ _ _ _
  exact aa a aD (ae a [] (qS A m c) (by rw[j,nr oM]))
 have i:=eq_of_beq d;refine lB 13 d (lL a [.v qT] (am (cK (kZ (kQ (lL a [.c,.c,.v (nV m)] (bp 18 ((m:Nat)-1) (m-1) ?_)))))));refine lT 19 A m c 1 (m-1:Nat) (m-1) (lL a ac (lD ?_));intro D B;refine ⟨_,_,?_,⟨m-1,x,rfl,rfl,a.to _ _,oM,(by rw[j];exact xF oM oM)⟩,B.to _ kR⟩
 omega
theorem qj {l m:List Nat}(b:l.length=m.length)(h:∀ j,j<l.length->l.getD j 0=m.getD j 0):l=m:=by
 apply List.ext_getElem b
 intro i h1 a;have:=h i h1
 simpa [h1,a] using this
theorem qw {l m:List Nat}{i x:Nat}(hi:i<l.length)(h:∀ j,j<i->l.getD j 0=m.getD j 0)(a:x=m.getD i 0):∀ j,j<i+1->(l.set i x).getD j 0=m.getD j 0:=fun j b=>by
 rw[bC hi]
 split
 ·rename_i e;rw[<-e];exact a
 ·exact h j oM
def C4 (h h1:Hp)(v:Value)(l:List Nat):Prop:=∃ b,v=.slice (some ⟨b,0,none⟩) l.length l.length/\h.size<=b/\h1[b]?=some (.cells (l.flatMap ar).toArray 38 (0,0))/\SlO 1 ar 0 h1 (some ⟨b,0,none⟩) l
theorem k8  (w:World)(h:Hp)(g:G w h):CV 133 #[nv 0] w h sZ:=by
 have a:=sS g;exact go Tryz.func133 [(0,nv 0)] rfl (ax (lA 1 40 ([uV 0,eS]) a (fun b w2 d a=>lL a ac (ag (aa a [.v (qP b 1),.o (eS) 0 1 1,.v qT,.c,.v (pB b),.o (uV 0) 0 0 1,.v qT,.v qT] (am (aa a ac (ae a [] (sZ) rfl))))))))
theorem iK (s:ByteArray)(k:Nat):(s.extract k s.size).size=s.size-k:=by
 simp[ByteArray.size_extract]
theorem px {n L:Nat}(a:0<L):∀ j,j<1->((zY L 0).set 0 (n%18446744073709551616)).getD j 0=(wds n).getD j 0:=fun j b=>by
 have:j=0:=by omega
 subst this;rw[bC (by simpa using a),if_pos rfl];have:=sa n
 unfold lo at this
 exact Int.ofNat.inj this
theorem Ea (n:Nat)(hn:0<n)(hl:(wds n).length<=1000000000)(B:n<18446744073709551616)(w:World)(h:Hp)(g:G w h):CR 133 #[nv n] w h (fun v h1=>C4 h h1 v (wds n)):=by
 have e:=sS g;have hz:=iY n;have hp:=lg.2 hn;have hlo:=mS B;have M:=congrArg List.length (kj hn B)
 simp only[List.length_singleton] at M
 refine go Tryz.func133 [(0,nv n)] rfl (ax (lA 1 40 (nc n) e (fun p w2 h3 e=>lL e ac (ag (aa e [.v (qP p 1),.o (.string (hi n)) 0 1 1] (lV 7 qT ?_ (hr:=rb kR (jN (fg B)))))))));refine lL e [.c,.v (pB p),.o (mV (n%18446744073709551616)) 0 0 1] ?_;have C:(((n%18446744073709551616:Nat):Int) == (0:Int))=false:=eU oM;have S:=aj C;refine lB 11 C (lL e [.v qF] (ah (cK (aa e [.v (qP p 1),.o (.string (hi n)) 0 1 1,.v (nV ((hi n).size))] (lV 16 (nV (((hi n).size)/8)) ?_ (hr:=aK (dB (t:=3) (u:=3) (x:=.tmp 15) (y:=.const (iV 8)) (k:=.i64) (a:=(((hi n).size:Nat):Int)) (b:=(8:Int)) kR kR kR oM _) (dG ((hi n).size) 8 oM)))))));refine bp 17 (1+(((hi n).size)/8:Nat)) ((wds n).length) (lK 18 38 ((wds n).length) 1 8 (uV 0) ar 0 e (fun z w6 Y e=>?_));have J:(zY ((wds n).length) 0).length=((wds n).length):=by simp
 refine lL e ac (aG (lL e [.c,.v (pB p),.o (mV (n%18446744073709551616)) 1 0 1] (lX 22 (sB z) ((wds n).length) ((wds n).length) 1 0 0 rfl ?_)));refine lW 0 (zY ((wds n).length) 0) ar 1 0 (n%18446744073709551616) e oM (fun w9 e=>?_);have zc:((zY ((wds n).length) 0).set 0 (n%18446744073709551616)).length=((wds n).length):=by rw[Mg];exact J
 replace e:=e.to [⟨z,38,((zY ((wds n).length) 0).set 0 (n%18446744073709551616)).flatMap ar⟩,⟨p,40,nc n⟩] [];refine ag (aa e ac (aZ ?_));refine bH _ (CG.loop (fun K Γ V=>∃ (i:Nat)(l:List Nat)(h_:Hp),K=(wds n).length-i/\Γ=[(1,pB p),(2,sZ),(3,qS (sB z) ((wds n).length) ((wds n).length)),(4,nV i)]/\SS w h V h_ [⟨z,38,(l).flatMap ar⟩,⟨p,40,nc n⟩] [] []/\1<=i/\i<=(wds n).length/\l.length=(wds n).length/\(∀ j,j<i->l.getD j 0=(wds n).getD j 0)) _ ⟨1,(zY ((wds n).length) 0).set 0 (n%18446744073709551616),Y,rfl,rfl,e.to _ _,nR _,by omega,zc,px oM⟩ ?_);rintro _ _ _ ⟨i,l,_,U,rfl,e,hi1,Z,L,Q⟩;refine cQ (aa e [.c,.c,.v (nV ((wds n).length))] ?_);cases I:(decide ((i:Int)<((((wds n).length):Nat):Int)))
 .
  have zb:=oF I;refine lB 26 I (ah (CG.exit ?_))
  show CG _ _ _ _ _ _ _ _
  refine aa e aD (lN (kX ?_));have X:i=(wds n).length:=by omega
  have O:l=wds n:=qj oM (fun j hj=>Q j oM);rw[O] at e
  obtain ⟨_,e,D,F,H⟩:=e.pub 0;replace e:=(e.to [⟨p,40,nc n⟩] []).aS (SlO.of_flat (sz:=1) (f:=ar) (d:=0) (b:=z) (o:=0) (l:=wds n) (fun _=>rfl) D);exact e.ret [] (qS (sB z) ((wds n).length) ((wds n).length)) (⟨z,rfl,F,H,e.f.1⟩)
 have zb:=oT I;refine lB 26 I (am (cK (cQ (kZ (kQ (lL e [.c,.c,.v (qP p 1),.o (.string (hi n)) 1 1 1,.c] (lI 34 ((i:Nat)-1) ?_)))))));refine bp 35 (8*((i:Nat)-1)) (8*(i-1)) (lV 36 (.string ((hi n).extract (8*(i-1)) (hi n).size)) ?_ (hr:=pO (tx:=9) (x:=.tmp 32) (i:=.tmp 35) (k:=.i64) (s:=hi n) (n:=(8*(i-1))) (j:=((8*(i-1):Nat):Int)) kR kR kR kR oM oM _));refine aq 37 e (pF ((hi n).extract (8*(i-1)) (hi n).size) (by rw[iK];omega) _ _ e.g) (fun _ W e=>lX 38 (sB z) ((wds n).length) ((wds n).length) 1 (i:Nat) i rfl (lW 0 l ar 1 i (wv ((hi n).extract (8*(i-1)) (hi n).size):Nat) e oM (fun _ e=>?_)));have zd:((l).set i (wv ((hi n).extract (8*(i-1)) (hi n).size):Nat)).length=((wds n).length):=by rw[Mg];exact L
 replace e:=e.to [⟨z,38,((l).set i (wv ((hi n).extract (8*(i-1)) (hi n).size):Nat)).flatMap ar⟩,⟨p,40,nc n⟩] [];refine lN (kQ (lL e ac (bp 28 ((i:Nat)+1) (i+1) ?_)));refine lL e ac (lD ?_);intro a_ ka;refine ⟨_,_,?_,⟨i+1,(l).set i (wv ((hi n).extract (8*(i-1)) (hi n).size):Nat),W,rfl,rfl,e.to _ _,oM,oM,zd,(qw oM Q (by rw[jx n (i-1) oM,show i-1+1=i by omega]))⟩,ka.to _ kR⟩
 omega
theorem DE (n:Nat)(hn:0<n)(hl:(wds n).length<=1000000000)(H:18446744073709551616<=n)(w:World)(h:Hp)(g:G w h):CR 133 #[nv n] w h (fun v h1=>C4 h h1 v (wds n)):=by
 have e:=sS g;have hz:=iY n;have hp:=lg.2 hn;refine go Tryz.func133 [(0,nv n)] rfl (ax (lA 1 40 (nc n) e (fun p w2 h3 e=>lL e ac (ag (aa e [.v (qP p 1),.o (.string (hi n)) 0 1 1] (lV 7 qF ?_ (hr:=rb kR (jf (fE H)))))))));refine lL e ac (lG 9 ?_);refine lG 10 (lG 11 (lL e [.v qF] (ah (cK (aa e [.v (qP p 1),.o (.string (hi n)) 0 1 1,.v (nV ((hi n).size))] (lV 16 (nV (((hi n).size)/8)) ?_ (hr:=aK (dB (t:=3) (u:=3) (x:=.tmp 15) (y:=.const (iV 8)) (k:=.i64) (a:=(((hi n).size:Nat):Int)) (b:=(8:Int)) kR kR kR oM _) (dG ((hi n).size) 8 oM))))))));refine bp 17 (1+(((hi n).size)/8:Nat)) ((wds n).length) (lK 18 38 ((wds n).length) 1 8 (uV 0) ar 0 e (fun z w5 U e=>?_));have J:(zY ((wds n).length) 0).length=((wds n).length):=by simp
 refine lL e ac (aG (lL e [.c,.v (pB p),.o (mV (n%18446744073709551616)) 1 0 1] (lX 22 (sB z) ((wds n).length) ((wds n).length) 1 0 0 rfl ?_)));refine lW 0 (zY ((wds n).length) 0) ar 1 0 (n%18446744073709551616) e oM (fun w8 e=>?_);have I:((zY ((wds n).length) 0).set 0 (n%18446744073709551616)).length=((wds n).length):=by rw[Mg];exact J
 replace e:=e.to [⟨z,38,((zY ((wds n).length) 0).set 0 (n%18446744073709551616)).flatMap ar⟩,⟨p,40,nc n⟩] [];refine ag (aa e ac (aZ ?_));refine bH _ (CG.loop (fun K Γ S=>∃ (i:Nat)(l:List Nat)(h_:Hp),K=(wds n).length-i/\Γ=[(1,pB p),(2,sZ),(3,qS (sB z) ((wds n).length) ((wds n).length)),(4,nV i)]/\SS w h S h_ [⟨z,38,(l).flatMap ar⟩,⟨p,40,nc n⟩] [] []/\1<=i/\i<=(wds n).length/\l.length=(wds n).length/\(∀ j,j<i->l.getD j 0=(wds n).getD j 0)) _ ⟨1,(zY ((wds n).length) 0).set 0 (n%18446744073709551616),U,rfl,rfl,e.to _ _,nR _,by omega,I,px oM⟩ ?_);rintro _ _ _ ⟨i,l,_,Q,rfl,e,X,W,L,O⟩;refine cQ (aa e [.c,.c,.v (nV ((wds n).length))] ?_);cases F:(decide ((i:Int)<((((wds n).length):Nat):Int)))
 .
  have zb:=oF F;refine lB 26 F (ah (CG.exit ?_))
  show CG _ _ _ _ _ _ _ _
  refine aa e aD (lN (kX ?_));have V:i=(wds n).length:=by omega
  have M:l=wds n:=qj oM (fun j hj=>O j oM);rw[M] at e
  obtain ⟨_,e,D,C,B⟩:=e.pub 0;replace e:=(e.to [⟨p,40,nc n⟩] []).aS (SlO.of_flat (sz:=1) (f:=ar) (d:=0) (b:=z) (o:=0) (l:=wds n) (fun _=>rfl) D);exact e.ret [] (qS (sB z) ((wds n).length) ((wds n).length)) (⟨z,rfl,C,B,e.f.1⟩)
 have zb:=oT F;refine lB 26 F (am (cK (cQ (kZ (kQ (lL e [.c,.c,.v (qP p 1),.o (.string (hi n)) 1 1 1,.c] (lI 34 ((i:Nat)-1) ?_)))))));refine bp 35 (8*((i:Nat)-1)) (8*(i-1)) (lV 36 (.string ((hi n).extract (8*(i-1)) (hi n).size)) ?_ (hr:=pO (tx:=9) (x:=.tmp 32) (i:=.tmp 35) (k:=.i64) (s:=hi n) (n:=(8*(i-1))) (j:=((8*(i-1):Nat):Int)) kR kR kR kR oM oM _));refine aq 37 e (pF ((hi n).extract (8*(i-1)) (hi n).size) (by rw[iK];omega) _ _ e.g) (fun _ Y e=>lX 38 (sB z) ((wds n).length) ((wds n).length) 1 (i:Nat) i rfl (lW 0 l ar 1 i (wv ((hi n).extract (8*(i-1)) (hi n).size):Nat) e oM (fun _ e=>?_)));have Z:((l).set i (wv ((hi n).extract (8*(i-1)) (hi n).size):Nat)).length=((wds n).length):=by rw[Mg];exact L
 replace e:=e.to [⟨z,38,((l).set i (wv ((hi n).extract (8*(i-1)) (hi n).size):Nat)).flatMap ar⟩,⟨p,40,nc n⟩] [];refine lN (kQ (lL e ac (bp 28 ((i:Nat)+1) (i+1) ?_)));refine lL e ac (lD ?_);intro a_ ka;refine ⟨_,_,?_,⟨i+1,(l).set i (wv ((hi n).extract (8*(i-1)) (hi n).size):Nat),Y,rfl,rfl,e.to _ _,oM,oM,Z,(qw oM O (by rw[jx n (i-1) oM,show i-1+1=i by omega]))⟩,ka.to _ kR⟩
 omega
theorem fY (n:Nat)(hn:0<n)(a:(wds n).length<=1000000000)(w:World)(h:Hp)(g:G w h):CR 133 #[nv n] w h (fun v h1=>C4 h h1 v (wds n)):=by
 rcases dS n 18446744073709551616 with hs|hs
 ·exact Ea n hn a hs w h g
 ·exact DE n hn a hs w h g
open Go.RowKit Go.Shelf
def Bh:Go.Shelf.Ren:=⟨fun|167=>172|240=>193|276=>212|n=>n,fun|0=>0|4=>4|5=>5|9=>9|20=>20|37=>169|70=>236|72=>238|75=>241|164=>272|80=>243|n=>n,fun n=>n⟩
theorem Dj:Go.Proofs.Lays.n167 Tryz.prog Bh:={
 mixed:=by kernel_rfl
 f167:=Tryz.func172.trans (congrArg some kR)
 f240:=Tryz.func193.trans (congrArg some kR)
 f276:=Tryz.func212.trans (congrArg some kR)
 t0:=Tryz.underlying0
 a0:=Tryz.isAgg0
 z0:=Tryz.sizeOf0
 v0:=Tryz.zeroValue0
 t4:=Tryz.underlying4
 a4:=Tryz.isAgg4
 z4:=Tryz.sizeOf4
 v4:=Tryz.zeroValue4
 t5:=Tryz.underlying5
 a5:=Tryz.isAgg5
 z5:=Tryz.sizeOf5
 v5:=Tryz.zeroValue5
 t9:=Tryz.underlying9
 a9:=Tryz.isAgg9
 z9:=Tryz.sizeOf9
 v9:=Tryz.zeroValue9
 t20:=Tryz.underlying20
 a20:=Tryz.isAgg20
 z20:=Tryz.sizeOf20
 v20:=Tryz.zeroValue20
 t37:=Tryz.underlying169
 a37:=Tryz.isAgg169
 z37:=Tryz.sizeOf169
 v37:=Tryz.zeroValue169
 t70:=Tryz.underlying236
 a70:=Tryz.isAgg236
 z70:=Tryz.sizeOf236
 v70:=Tryz.zeroValue236
 t72:=Tryz.underlying238
 a72:=Tryz.isAgg238
 z72:=Tryz.sizeOf238
 v72:=Tryz.zeroValue238
 t75:=Tryz.underlying241
 a75:=Tryz.isAgg241
 z75:=Tryz.sizeOf241
 v75:=Tryz.zeroValue241
 t164:=Tryz.underlying272
 a164:=Tryz.isAgg272
 z164:=Tryz.sizeOf272
 v164:=Tryz.zeroValue272 }
theorem BB:Builder.Extra Tryz.prog Bh:={
 sizeBuilder:=by kernel_rfl
 liesBuilder:=by kernel_rfl
 t5:=Tryz.underlying5
 a5:=Tryz.isAgg5
 z5:=Tryz.sizeOf5
 v5:=Tryz.zeroValue5
 infoByte:=by kernel_rfl
 cellsByte:=by kernel_rfl
 sizeByte:=by kernel_rfl
 neB5:=by decide }
theorem Fa (A:Z9)(c:Nat)(l:List Nat)(V:Wd l)(hl:l.length<=1099511627776)(X:l.length<=c)(w:World)(h:Hp)(g:G w h)(hA:SlO 1 ar 0 h A l):CV 131 #[.slice A l.length c] w h (nv (aA l)):=by
 have d:=((sS g).aS hA);have htl:=iq l l.length;have hdl:(l.drop 1).length=l.length-1:=LZ;refine go Tryz.func131 [(0,qS A l.length c)] rfl (ax (lA 2 40 ([uV 0,eS]) d (fun O w2 h3 d=>aG (lL d ac (aq 8 d (Fe A c l hl X _ _ d.g d.f.1) (fun e h5 d=>lL d ac (ag (aa d [.c,.v (nV (tl l l.length))] (aZ (ax ?_))))))))));cases C:((((tl l l.length):Nat):Int) == (0:Int))
 .
  have J:=aj C;refine lB 12 C (lL d ac (ah (ax ?_)));cases F:((((tl l l.length):Nat):Int) == (1:Int))
  .
   have M:=aj F;refine lB 15 F (lL d ac (ah (cK (ax ?_))));have j:=d;refine Lq 3 238 [.pointer none,sZ] d (fun w8 i W U=>?_);obtain ⟨h9,d,-⟩:=j.liftJ i;refine aG (lL d [.c,.v (nV (tl l l.length))] (bp 22 (((tl l l.length):Nat)-1) ((tl l l.length)-1) ?_));refine bp 23 (8*((tl l l.length)-1:Nat)) (8*((tl l l.length)-1)) (KU 24 j i (Tryz.Builder_Grow_fresh e.heap.size e.heap.size (8*((tl l l.length)-1):Nat) _ (nR _) U W oM) (fun _ ze d p B=>?_))
   clear i
   have i:=p;clear p;have D:Lib.IsBuilder 238 5 e.heap.size e.heap.size (Lib.byteCells (((l.drop 1).take 0).flatMap b8)) _:=.inr B;refine ag (aa d ac (lF 26 A (tl l l.length) c 1 1 1 ?_));replace d:=d.aS (d.f.1.drop 1 c X);replace j:=j.aS (j.f.1.drop 1 c X);refine lL d [.v (nV ((tl l l.length)-1)),.c] (aZ ?_);refine bH _ (CG.loop (fun I Γ H=>∃ (k:Nat)(z:Hp),I=(tl l l.length)-k/\Γ=[(0,qS A (tl l l.length) c),(2,pB O),(3,.pointer (some ⟨e.heap.size,0,none⟩)),(26,qS (if c=1 then A else A.map (·.add (1*1))) ((tl l l.length)-1) (c-1)),(27,nV ((tl l l.length)-1)),(28,nV k)]/\SS w h H z [⟨O,40,[uV 0,eS]⟩] [] [fun z=>SlO 1 ar 0 z (if c=1 then A else A.map (·.add (1*1))) (l.drop 1),fun z=>SlO 1 ar 0 z A l]/\k<=(tl l l.length)-1/\Ext e H/\Lib.IsBuilder 238 5 e.heap.size e.heap.size (Lib.byteCells (((l.drop 1).take k).flatMap b8)) H) _ ⟨0,ze,rfl,rfl,d.to _ _,My _,i,D⟩ ?_);rintro _ _ zf ⟨k,zg,bd,rfl,d,hk,i,D⟩;have hxk:(l.drop 1).getD k 0<18446744073709551616:=Dg.getD (Dg.drop V 1) kD k;refine ax ?_;cases Q:(decide ((k:Int)<(((tl l l.length)-1:Nat):Int)))
   .
    have zc:=oF Q;refine lB 29 Q (ag (dD (CG.exit ?_)))
    show CG _ _ _ _ _ _ _ _
    refine cQ (vk ⟨Dl e.heap.size zf.heap.size,none⟩ 5 mixed ?_);obtain ⟨_,d,hj⟩:=j.liftJ i.drew;refine aV 0 43 (qS A (tl l l.length) c) (aX 1 44 A (tl l l.length) c 1 0 0 ((d.f.2.1).ok oM) (aH 2 45 (mV (l.getD 0 0)) d ((d.f.2.1).el 0 oM) ?_ (fun b hb=>hj b (mF.1 hb).1 (mF.1 hb).2)));refine aC 3 46 ((Tryz.Builder_String_any e.heap.size e.heap.size (((l.drop 1).take k).flatMap b8) _ (rM D ((Ext.refl _).drew)) i.size).mono fun e_ _ ⟨he_,K⟩=>⟨_,he_,xV K,?_⟩);obtain ⟨_,d,-⟩:=j.liftJ (Below.trans i.drew K);refine aV 4 47 (.agg #[mV (l.getD 0 0),.string (⟨(((l.drop 1).take k).flatMap b8).toArray⟩)]) (tP 5 0 0 ([mV (l.getD 0 0),.string (⟨(((l.drop 1).take k).flatMap b8).toArray⟩)]) d (fun _ d=>tN (kX ?_)));have Y:k=(tl l l.length)-1:=by omega
    exact d.ret [(0,0,2)] (.agg #[mV (l.getD 0 0),.string (⟨(((l.drop 1).take k).flatMap b8).toArray⟩)]) (by rw[Y];exact Ex V oM)
   have zc:=oT Q;refine lB 29 Q (ag (ct (cK (cQ (kZ (ax (lX 30 (if c=1 then A else A.map (·.add (1*1))) ((tl l l.length)-1) (c-1) 1 (k:Nat) k ((d.f.1).ok oM) ?_)))))));refine lH 31 (mV ((l.drop 1).getD k 0)) d ((d.f.1).el k oM) (lL d ac (aG (lL d ac (aZ ?_))));refine bH _ (CG.loop (fun I Γ H=>∃ (m:Nat)(z:Hp),I=8-m/\Γ=[(0,qS A (tl l l.length) c),(2,pB O),(3,.pointer (some ⟨e.heap.size,0,none⟩)),(26,qS (if c=1 then A else A.map (·.add (1*1))) ((tl l l.length)-1) (c-1)),(27,nV ((tl l l.length)-1)),(28,nV k),(5,mV ((l.drop 1).getD k 0)),(32,nV m)]/\SS w h H z [⟨O,40,[uV 0,eS]⟩] [] [fun z=>SlO 1 ar 0 z (if c=1 then A else A.map (·.add (1*1))) (l.drop 1),fun z=>SlO 1 ar 0 z A l]/\m<=8/\Ext e H/\Lib.IsBuilder 238 5 e.heap.size e.heap.size (Lib.byteCells (((l.drop 1).take k).flatMap b8++(b8 ((l.drop 1).getD k 0)).take m)) H) _ ⟨0,zg,rfl,rfl,d.to _ _,My _,i,(by simpa using D)⟩ ?_);rintro _ _ _ ⟨m,zi,bb,rfl,d,hm,i,o⟩;refine ax ?_;cases S:(decide ((m:Int)<(8:Int)))
   .
    have zd:=oF S;refine lB 33 S (ag (dD (CG.exit ?_)))
    show CG _ _ _ _ _ _ _ _
    refine kQ (bp 42 ((k:Nat)+1) (k+1) ?_);refine lL d ac (lD ?_);intro a_ Z;refine ⟨_,_,?_,⟨k+1,zi,rfl,rfl,d.to _ _,oM,i,(by rw[show m=8 by omega,vw oM] at o;exact o)⟩,Z.to _ kR⟩
    omega
   have zd:=oT S;refine lB 33 S (ag (ct (cK (cQ (kZ (aa d aD (lN (kQ (lL d aD (bp 37 (8*(m:Nat)) (8*m) ?_))))))))));refine lV 38 (mV (((l.drop 1).getD k 0)/2^(8*m))) ?_ (hr:=gL (t:=38) (u:=3) (x:=.tmp 35) (y:=.tmp 37) (ky:=.i64) (a:=((l.drop 1).getD k 0)) (n:=(8*m)) kR kR kR oM _);refine lV 39 (.int .u8 ((((l.drop 1).getD k 0)/2^(8*m):Nat)%256:Nat)) ?_ (hr:=aK (n:=IntKind.wrap .u8 ((((l.drop 1).getD k 0)/2^(8*m):Nat):Int)) kR (C9 _));refine KU 40 j i (Any.Builder_WriteByte Dj BB e.heap.size e.heap.size _ ((((l.drop 1).getD k 0)/2^(8*m)%256:Nat):Int) _ o (vM oM oM oM) i.size) (fun _ zj d p B=>?_)
   clear i
   have i:=p;clear p;rw[sT oM] at B
   have L:Lib.IsBuilder 238 5 e.heap.size e.heap.size _ _:=.inr B;refine lN (kQ (bp 41 ((m:Nat)+1) (m+1) ?_));refine lL d ac (lD ?_);intro a_ Z;refine ⟨_,_,?_,⟨m+1,zj,rfl,rfl,d.to _ _,oM,i,L⟩,Z.to _ kR⟩
   omega
  have M:=eq_of_beq F;refine lB 15 F (lL d ac (am (aa d ac (lX 17 A (tl l l.length) c 1 0 0 ((d.f.1).ok oM) ?_))));exact lH 18 (mV (l.getD 0 0)) d ((d.f.1).el 0 oM) (lL d [.v (.agg #[mV (l.getD 0 0),eS])] (lP 0 0 ([mV (l.getD 0 0),eS]) d (fun _ d=>ae d [(0,0,2)] (.agg #[mV (l.getD 0 0),eS]) (Hc V oM))))
 have J:=eq_of_beq C;exact lB 12 C (lL d ac (am (aa d [.v (.agg #[uV 0,eS])] (lP 0 0 ([uV 0,eS]) d (fun _ d=>ae d [(0,0,2)] (.agg #[uV 0,eS]) (D6 oM))))))
theorem JP (n:Nat)(hn:n<18446744073709551616)(w:World)(h:Hp)(g:G w h):CV 88 #[mV n] w h (nv n):=by
 have a:=sS g;exact go Tryz.func88 [(0,mV n)] rfl (ax (lA 2 40 ([uV 0,eS]) a (fun b w2 d a=>aG (lL a [.c,.v (.agg #[mV n,eS])] (lP 0 0 ([mV n,eS]) a (fun e a=>ae a [(0,0,2)] (.agg #[mV n,eS]) (js hn)))))))
theorem tS (n:Nat)(hn:n<18446744073709551616)(w:World)(h:Hp)(g:G w h):CV 128 #[nv n] w h (.tuple #[mV n,.bool true]):=by
 have a:=sS g;refine go Tryz.func128 [(0,nv n)] rfl (ax (lA 1 40 (nc n) a (fun b w2 d a=>lL a aD (ag (aa a [.v (qP b 1),.o (.string (hi n)) 0 1 1] (lV 6 qF ?_ (hr:=rb kR (I6 (fg hn)))))))));exact ah (cK (aa a [.v (pB b),.o (mV (n%18446744073709551616)) 0 0 1,.c,.c] (ae a [] (.tuple #[mV (n%18446744073709551616),qT]) (by rw[z1 hn]))))
theorem CC (n:Nat)(hn:18446744073709551616<=n)(w:World)(h:Hp)(g:G w h):CV 128 #[nv n] w h (.tuple #[uV 0,.bool false]):=by
 have a:=sS g;refine go Tryz.func128 [(0,nv n)] rfl (ax (lA 1 40 (nc n) a (fun b w2 c a=>lL a aD (ag (aa a [.v (qP b 1),.o (.string (hi n)) 0 1 1] (lV 6 qT ?_ (hr:=rb kR (IA (fE hn)))))))));exact am (aa a aD (ae a [] (.tuple #[uV 0,qF]) rfl))
theorem ES (a b:Nat)(w:World)(h:Hp)(g:G w h):CV 136 #[mV a,mV b] w h (iV (bZ a b)):=by
 have c:=sS g;refine go Tryz.func136 [(0,mV a),(1,mV b)] rfl (aa c ac (ag (kZ (aa c aD ?_))));cases d:(decide ((a:Int)<(b:Int)))
 .
  have i:=oF d;refine lB 8 d (lL c ac (ah (aa c aD ?_)));cases e:(decide ((b:Int)<(a:Int)))
  .
   have f:=oF e;exact lB 12 e (lL c ac (ah (cK (aa c ac (ae c [] (iV 0) (by rw[iy oM]))))))
  have f:=oT e;exact lB 12 e (lL c ac (am (aa c ac (ae c [] (iV 1) (by rw[fK oM])))))
 have i:=oT d;exact lB 8 d (lL c ac (am (aa c ac (ae c [] (iV (-1)) (by rw[dZ oM])))))
theorem HF (n:Nat)(hn:n<18446744073709551616)(w:World)(h:Hp)(g:G w h):CV 85 #[nv n] w h (nV (nb n)):=by
 have a:=sS g;refine go Tryz.func85 [(0,nv n)] rfl (ax (lA 1 40 (nc n) a (fun b w2 d a=>lL a ac (ag (aa a [.v (qP b 1),.o (.string (hi n)) 0 1 1] (lV 5 qT ?_ (hr:=rb kR (jN (fg hn)))))))));exact am (aa a [.v (pB b),.o (mV (n%18446744073709551616)) 0 0 1] (aq 8 a (Ai (n%18446744073709551616) wM _ _ a.g) (fun e c a=>lL a ac (ae a [] (nV (nb (n%18446744073709551616))) (by rw[z1 hn])))))
theorem Gf (n:Nat)(hn:18446744073709551616<=n)(B:(wds n).length<=1000000000)(w:World)(h:Hp)(g:G w h):CV 85 #[nv n] w h (nV (nb n)):=by
 have a:=sS g;have hz:=iY n;have y:=de hn;refine go Tryz.func85 [(0,nv n)] rfl (ax (lA 1 40 (nc n) a (fun b w2 z a=>lL a ac (ag (aa a [.v (qP b 1),.o (.string (hi n)) 0 1 1] (lV 5 qF ?_ (hr:=rb kR (jf (fE hn)))))))));refine ah (cK (cQ (cR 14 [] mixed a ao ?_)));refine eV 0 9 (qP b 1) (eO 1 10 [(0,1,1)] (.string (hi n)) a (eV 2 11 (nV ((hi n).size)) (jG 3 12 (8*((hi n).size:Nat)) (8*(hi n).size) (eV 4 13 (qP b 1) (eO 5 14 [(0,1,1)] (.string (hi n)) a (eV 6 15 (qP b 1) (eO 7 16 [(0,1,1)] (.string (hi n)) a (eV 8 17 (nV ((hi n).size)) (jG 9 18 (((hi n).size:Nat)-8) (8*((wds n).length-2)) (eV 10 19 (.string ((hi n).extract (8*((wds n).length-2):Nat) (hi n).size)) ?_ (hv:=fun _=>pO (tx:=9) (x:=.tmp 14) (i:=.tmp 18) (k:=.i64) (s:=hi n) (n:=(8*((wds n).length-2):Nat)) (j:=((8*((wds n).length-2):Nat):Int)) kR kR kR kR oM oM _)))))))))));refine au 11 20 a (fun _ _ a=>pF ((hi n).extract (8*((wds n).length-2):Nat) (hi n).size) (by rw[iK];omega) _ _ a.g) (fun f u a=>au 12 21 a (fun _ _ a=>Ai (wv ((hi n).extract (8*((wds n).length-2):Nat) (hi n).size):Nat) wM _ _ a.g) (fun l p a=>?_));have d:=jx n ((wds n).length-2) oM;rw[show (wds n).length-2+1=(wds n).length-1 by omega] at d
 have c:=AW (n:=n) oM;have e:nb (wv ((hi n).extract (8*((wds n).length-2)) (hi n).size))<=64:=kL (k:=64) (Ff _);rw[<-d] at c
 exact jG 13 22 ((8*(hi n).size:Nat)+(nb (wv ((hi n).extract (8*((wds n).length-2):Nat) (hi n).size):Nat):Nat)) (nb n) (bU a (fun C D a=>tV 14 2 (nV (nb n)) (tN (kX (a.ret [] (nV (nb n)) rfl)))))
theorem fz (n:Nat)(a:(wds n).length<=1000000000)(w:World)(h:Hp)(g:G w h):CV 85 #[nv n] w h (nV (nb n)):=by
 rcases dS n 18446744073709551616 with hs|hs
 ·exact HF n hs w h g
 ·exact Gf n hs a w h g
theorem mi (a b:Nat)(Y:(wds a).length<=1000000000)(U:(wds b).length<=1000000000)(w:World)(h:Hp)(g:G w h):CV 87 #[nv a,nv b] w h (iV (bZ a b)):=by
 have c:=sS g;have S:=iY a;have X:=iY b;refine go Tryz.func87 [(0,nv a),(1,nv b)] rfl (ax (lA 2 40 (nc a) c (fun f w2 h3 c=>lA 3 40 (nc b) c (fun l Z M c=>lL c ac (ag (aa c [.v (qP f 1),.o (.string (hi a)) 1 1 1,.v (nV ((hi a).size)),.v (qP l 1),.o (.string (hi b)) 0 1 1,.v (nV ((hi b).size))] ?_))))));cases e:((((hi a).size:Nat):Int) != (((hi b).size:Nat):Int))
 .
  have u:=aJ e;refine lB 14 e (ah (cK (cQ (aa c [.v (qP f 1),.o (.string (hi a)) 1 1 1,.v (nV ((hi a).size))] (lV 25 (iV (8*(((wds a).length-1:Nat):Int)-8)) ?_ (hr:=rS ((((hi a).size:Nat)-8)) kR ((gK oM oM).trans oM)))))));refine lL c ac (aZ ?_);refine bH _ (CG.loop (fun D Γ K=>∃ (m:Nat)(h_:Hp),D=m/\Γ=[(2,pB f),(3,pB l),(5,iV (8*(m:Int)-8))]/\SS w h K h_ [⟨l,40,nc b⟩,⟨f,40,nc a⟩] [] []/\m<=(wds a).length-1/\(wds a).length-1=(wds b).length-1/\(wds a).drop (m+1)=(wds b).drop (m+1)) _ ⟨(wds a).length-1,M,rfl,rfl,c.to _ _,nR _,oM,(by rw[Mq oM,Mq oM])⟩ ?_);rintro _ _ w8 ⟨m,h9,J,rfl,c,hm,p,d⟩;refine cQ (aa c ac ?_);cases z:(decide ((0:Int)<=(8*(m:Int)-8:Int)))
  .
   have V:=oF z;refine lB 27 z (ah (CG.exit ?_))
   show CG _ _ _ _ _ _ _ _
   exact aa c [.v (pB f),.o (mV (a%18446744073709551616)) 1 0 1,.v (pB l),.o (mV (b%18446744073709551616)) 0 0 1] (aq 50 c (ES (a%18446744073709551616) (b%18446744073709551616) _ _ c.g) (fun _ _ c=>lL c ac (ae c [] (iV (bZ (a%18446744073709551616) (b%18446744073709551616))) (by rw[qQ (a:=a) (b:=b) oM (by have H:m=0:=oM;rw[H] at d;exact d)]))))
  have V:=oT z;refine lB 27 z (am (cK (cQ (kZ (cQ ?_)))));have C:=c;refine Ci 10 [] [] mixed c ao (eV 0 30 (qP f 1) (eO 1 31 [(1,1,1)] (.string (hi a)) c (eV 2 32 (iV (8*(m:Int)-8)) (eV 3 33 (.string ((hi a).extract (8*(m-1)) (hi a).size)) ?_ (hv:=fun _=>pO (tx:=9) (x:=.tmp 31) (i:=.tmp 32) (k:=.i64) (s:=hi a) (n:=8*(m-1)) (j:=(8*(m:Int)-8:Int)) kR kR kR kR oM oM _)))));refine eV 5 35 (qP l 1) (By 6 36 [(0,1,1)] (.string (hi b)) C c (eV 7 37 (iV (8*(m:Int)-8)) (eV 8 38 (.string ((hi b).extract (8*(m-1)) (hi b).size)) ?_ (hv:=fun _=>pO (tx:=9) (x:=.tmp 36) (i:=.tmp 37) (k:=.i64) (s:=hi b) (n:=8*(m-1)) (j:=(8*(m:Int)-8:Int)) kR kR kR kR oM oM _))));refine au 4 34 c (fun _ _ c=>pF ((hi a).extract (8*(m-1)) (hi a).size) (by rw[iK];omega) _ _ c.g) (fun _ _ c=>au 9 39 c (fun _ _ c=>pF ((hi b).extract (8*(m-1)) (hi b).size) (by rw[iK];omega) _ _ c.g) (fun _ _ c=>bU c (fun _ O c=>tV 10 6 (mV (wv ((hi a).extract (8*(m-1)) (hi a).size))) (tV 11 7 (mV (wv ((hi b).extract (8*(m-1)) (hi b).size))) (qy ?_)))));have I:=jx a (m-1) oM;have F:=jx b (m-1) oM;rw[show m-1+1=m by omega] at I F
  refine lL c aD ?_;cases B:(((wv ((hi a).extract (8*(m-1)) (hi a).size):Nat):Int) != ((wv ((hi b).extract (8*(m-1)) (hi b).size):Nat):Int))
  .
   have L:=aJ B;refine lB 42 B (ah (cK (kQ (lL c ac (lV 29 (iV (8*((m-1:Nat):Int)-8)) ?_ (hr:=rS (((8*(m:Int)-8)-8)) kR ((gK oM oM).trans oM)))))));refine lL c ac (lD ?_);intro a_ W;refine ⟨_,_,?_,⟨m-1,O,rfl,rfl,c.to _ _,oM,p,(by rw[show m-1+1=m by omega];exact fO oM oM d oM)⟩,W.to _ kR⟩
   omega
  have L:=aI B;exact lB 42 B (am (aa c aD (aq 45 c (ES (wv ((hi a).extract (8*(m-1)) (hi a).size):Nat) (wv ((hi b).extract (8*(m-1)) (hi b).size):Nat) _ _ c.g) (fun _ _ c=>lL c ac (ae c [] (iV (bZ (wv ((hi a).extract (8*(m-1)) (hi a).size):Nat) (wv ((hi b).extract (8*(m-1)) (hi b).size):Nat))) (by rw[jx a (m-1) oM,jx b (m-1) oM,show m-1+1=m by omega];exact congrArg (Value.int .i64) (kV oM oM d oM)))))))
 have u:=aI e;refine lB 14 e (am (cQ (aa c [.v (qP f 1),.o (.string (hi a)) 1 1 1,.v (nV ((hi a).size)),.v (qP l 1),.o (.string (hi b)) 0 1 1,.v (nV ((hi b).size))] ?_)));cases y:(decide ((((hi a).size:Nat):Int)<(((hi b).size:Nat):Int)))
 .
  have Q:=oF y;exact lB 21 y (ah (cK (aa c ac (ae c [] (iV 1) (by rw[fK (gF oM)])))))
 have Q:=oT y;exact lB 21 y (am (aa c ac (ae c [] (iV (-1)) (by rw[dZ (gF oM)]))))
theorem wL (hi lo y:Nat)(W:hi<y)(hy:y<18446744073709551616)(hlo:lo<18446744073709551616)(w:World)(h:Hp)(g:G w h):CR 186 #[mV hi,mV lo,mV y] w h (fun v _=>∃ q r:Nat,v=.tuple #[uV q,uV r]/\hi*18446744073709551616+lo=y*q+r/\r<y/\q<18446744073709551616):=by
 have c:=sS g;refine go Tryz.func186 [(0,mV hi),(1,mV lo),(2,mV y)] rfl (aa c aD (ag (aa c ac ?_)));have X:((y:Int) == (0:Int))=false:=eU oM;have bl:=aj X;refine lB 20 X (ah (cK (cQ (aa c aD ?_))));have ⟨hb2,bm⟩:=dF (p:=(y:Int)<=(hi:Int)) oM;refine lB 24 hb2 (ah (cK (cQ (aa c ac ?_))));cases D:((hi:Int) == (0:Int))
 .
  have bd:=aj D;refine lB 27 D (ah (cK (aa c ac (aq 35 c (Fh y wM _ _ c.g) (fun w4 h5 c=>?_)))));obtain ⟨s,hsd⟩:∃ e,e=64-nb y:=⟨_,rfl⟩;refine lV 36 (mV s) ?_ (hr:=aK (aK (n:=IntKind.wrap .u64 ((64-nb y:Nat):Int)) kR (bc oM oM)) (by rw[hsd]));refine lL c ac (aG (lL c aD ?_));obtain ⟨Y,hY⟩:∃ e,e=y*2^s:=⟨_,rfl⟩;have hn:=uR (y:=y) oM oM;rw[<-hsd,<-hY] at hn
  refine lV 39 (mV Y) ?_ (hr:=aK (ie (t:=38) (u:=155) (x:=.tmp 37) (y:=.tmp 38) (ky:=.u64) (a:=y) (n:=s) kR kR kR _) (by rw[<-hY,z1 hn.2]));refine lL c ac (aG (lL c ac ?_));obtain ⟨y1,hy1⟩:∃ e,e=Y/4294967296:=⟨_,rfl⟩;refine lV 41 (mV y1) ?_ (hr:=aK (aK (n:=Int.fdiv (Y:Int) 4294967296) kR (ei _ 4294967296)) (by rw[hy1]));refine lL c ac (aG (lL c ac ?_));obtain ⟨y0,hy0⟩:∃ e,e=Y%4294967296:=⟨_,rfl⟩;refine lV 43 (mV y0) ?_ (hr:=aK (sU (t:=38) (u:=38) (x:=.tmp 42) (y:=.const (uV 4294967295)) (a:=Y) (m:=4294967295) 32 kR kR kR oM kD _) (by rw[hy0]));refine lL c ac (aG (lL c aD ?_));have hhi:hi*2^s<Y:=by rw[hY];exact Mb W (Lz s)
  obtain ⟨H,hsl⟩:=Cf (hi:=hi) (lo:=lo) (s:=s) oM hlo;have hdl:=Gb lo (2^(64-s));have d:Y=y1*4294967296+y0:=by omega
  refine lV 46 (mV (hi*2^s)) ?_ (hr:=aK (ie (t:=38) (u:=155) (x:=.tmp 44) (y:=.tmp 45) (ky:=.u64) (a:=hi) (n:=s) kR kR kR _) (by rw[z1 oM]));refine lL c aD (lV 49 (mV (64-s)) ?_ (hr:=rU (((64:Int)-(s:Int))) kR (fA 64 s oM oM)));refine lV 50 (mV (lo/2^(64-s))) ?_ (hr:=gL (t:=38) (u:=155) (x:=.tmp 47) (y:=.tmp 49) (ky:=.u64) (a:=lo) (n:=(64-s)) kR kR kR oM _);obtain ⟨u32,hu32⟩:∃ e,e=hi*2^s+lo/2^(64-s):=⟨_,rfl⟩;rw[<-hu32] at H
  have B:u32<Y:=by
    have e2:(hi+1)*2^s<=y*2^s:=y9 _ W;rw[LS,LW,<-hY] at e2
    omega
  refine lV 51 (mV u32) ?_ (hr:=aK (iw (t:=38) (u:=38) (x:=.tmp 46) (y:=.tmp 50) (a:=(hi*2^s)) (b:=(lo/2^(64-s))) kR kR kR oM oM _) (by rw[hu32,Nat.or_comm,gN s hsl,Nat.add_comm]));refine lL c ac (aG (lL c aD ?_));obtain ⟨u10,hu10⟩:∃ e,e=lo*2^s%18446744073709551616:=⟨_,rfl⟩;rw[<-hu10] at H
  have bf:u10<18446744073709551616:=by omega
  refine lV 54 (mV u10) ?_ (hr:=aK (ie (t:=38) (u:=155) (x:=.tmp 52) (y:=.tmp 53) (ky:=.u64) (a:=lo) (n:=s) kR kR kR _) (by rw[hu10]));refine lL c ac (aG (lL c ac ?_));obtain ⟨u1,hu1⟩:∃ e,e=u10/4294967296:=⟨_,rfl⟩;refine lV 56 (mV u1) ?_ (hr:=aK (aK (n:=Int.fdiv (u10:Int) 4294967296) kR (ei _ 4294967296)) (by rw[hu1]));refine lL c ac (lN (bH [(2,mV Y),(6,uV 0),(7,uV 0),(8,mV s),(9,mV y1),(10,mV y0),(11,mV u32),(12,mV u10),(13,mV u1)] ?_));refine aa c ac ?_;obtain ⟨u0,hu0⟩:∃ e,e=u10%4294967296:=⟨_,rfl⟩;refine lV 58 (mV u0) ?_ (hr:=aK (sU (t:=38) (u:=38) (x:=.tmp 57) (y:=.const (uV 4294967295)) (a:=u10) (m:=4294967295) 32 kR kR kR oM kD _) (by rw[hu0]));refine lL c ac (aG (lL c aD ?_));have I:=mD (Y:=Y) (y1:=y1) (y0:=y0) (u:=u32) (u1:=u1) d oM oM oM B;have V:=np (u:=u32) (y1:=y1) oM;have hM0:=L5 u32 y1;obtain ⟨qa,hqa⟩:∃ e,e=u32/y1:=⟨_,rfl⟩;rw[<-hqa] at I V hM0
  refine lV 61 (mV qa) ?_ (hr:=aK (aK (dB (t:=38) (u:=38) (x:=.tmp 59) (y:=.tmp 60) (k:=.u64) (a:=(u32:Int)) (b:=(y1:Int)) kR kR kR oM _) (kg u32 y1 oM)) (by rw[hqa]));refine lL c ac (aG (lL c dl (lV 65 (mV (qa*y1)) ?_ (hr:=rU (((qa:Int)*(y1:Int))) kR (jg qa y1 oM)))));obtain ⟨ra,hra⟩:∃ e,e=u32-qa*y1:=⟨_,rfl⟩;rw[<-hra] at I V
  refine lV 66 (mV ra) ?_ (hr:=aK (aK (n:=IntKind.wrap .u64 ((u32:Int)-((qa*y1:Nat):Int))) kR (fA u32 (qa*y1) oM oM)) (by rw[hra]));refine lL c ac (lN (CG.join (fun Γ K=>∃ (j:Nat)(h_:Hp),Γ=[(2,mV Y),(6,uV 0),(7,uV 0),(8,mV s),(9,mV y1),(10,mV y0),(11,mV u32),(13,mV u1),(14,mV u0),(15,mV j)]/\SS w h K h_ [] [] []/\j=(u32*4294967296+u1)/Y/\(u32*4294967296+u1)-j*Y=(u32*4294967296+u1)%Y/\j*Y<=u32*4294967296+u1) ?_ ?_))
  .
   refine kZ ?_;refine bH _ (CG.loop (fun L Γ K=>∃ (q:Nat)(r:Nat)(h_:Hp),L=q/\Γ=[(2,mV Y),(6,uV 0),(7,uV 0),(8,mV s),(9,mV y1),(10,mV y0),(11,mV u32),(13,mV u1),(14,mV u0),(15,mV q),(16,mV r)]/\SS w h K h_ [] [] []/\HalfQ Y y1 y0 u32 u1 q r/\r<4294967296) _ ⟨qa,ra,h5,rfl,rfl,c.to _ _,I,oM⟩ ?_);rintro _ _ w6 ⟨q,r,Q,hm8,rfl,c,M,hr⟩;have bk:=M.qb;refine cQ (aa c ac ?_);cases C:(decide ((4294967296:Int)<=(q:Int)))
   .
    have bb:=oF C;refine lB 68 C (lL c dl (lV 72 (mV (q*y0)) ?_ (hr:=rU (((q:Int)*(y0:Int))) kR (jg q y0 (EI oM oM)))));refine lL c ac (lV 74 (mV (4294967296*r)) ?_ (hr:=rU (((4294967296:Int)*(r:Int))) kR (jg 4294967296 r oM)));refine lL c ac (lV 76 (mV ((4294967296*r)+u1)) ?_ (hr:=rU ((((4294967296*r:Nat):Int)+(u1:Int))) kR (eA (4294967296*r) u1 oM)));cases za:(decide ((((4294967296*r)+u1:Nat):Int)<((q*y0:Nat):Int)))
    .
     have zj:=oF za;refine lB 77 za (lL c [.v qF] (ah (CG.exit ?_)));intro F l;exact ⟨_,⟨q,Q,rfl,c.to _ _,(by first|exact M.fin d oM|exact f.brk d oM oM (by have:=f.qb;omega))⟩,l.to _ kR⟩
    have zj:=oT za;refine lB 77 za (lL c [.v qT] (am (cK (kZ (aa c ac ?_)))));have hq1:0<q:=by first|omega|exact dV (show 4294967296*r+u1<q*y0 by omega)
    have f:=M.dec d oM B (by first|exact .inl oM|exact .inr oM);refine lV 80 (mV (q-1)) ?_ (hr:=rU (((q:Int)-(1:Int))) kR (fA q 1 oM oM));refine lL c ac (aG (lL c aD (lV 83 (mV (r+y1)) ?_ (hr:=rU (((r:Int)+(y1:Int))) kR (eA r y1 oM)))));refine lL c ac (aG (lL c ac ?_));cases zb:(decide ((4294967296:Int)<=((r+y1:Nat):Int)))
    .
     have zk:=oF zb;refine lB 85 zb (ah (CG.skip ?_));intro F l;refine ⟨_,_,?_,⟨q-1,r+y1,Q,rfl,rfl,c.to _ _,f,oM⟩,l.to _ kR⟩
     omega
    have zk:=oT zb;refine lB 85 zb (am (CG.exit ?_));intro F l;exact ⟨_,⟨(q-1),Q,rfl,c.to _ _,(by first|exact M.fin d oM|exact f.brk d oM oM (by have:=f.qb;omega))⟩,l.to _ kR⟩
   have bb:=oT C;refine lB 68 C (lL c ac (lG 70 ?_));refine lG 71 (lG 72 (lG 73 (lG 74 (lG 75 (lG 76 (lG 77 (lL c [.v qT] (am (cK (kZ (aa c ac ?_)))))))))));have hq1:0<q:=by first|omega|exact dV (show 4294967296*r+u1<q*y0 by omega)
   have f:=M.dec d oM B (by first|exact .inl oM|exact .inr oM);refine lV 80 (mV (q-1)) ?_ (hr:=rU (((q:Int)-(1:Int))) kR (fA q 1 oM oM));refine lL c ac (aG (lL c aD (lV 83 (mV (r+y1)) ?_ (hr:=rU (((r:Int)+(y1:Int))) kR (eA r y1 oM)))));refine lL c ac (aG (lL c ac ?_));cases zc:(decide ((4294967296:Int)<=((r+y1:Nat):Int)))
   .
    have zl:=oF zc;refine lB 85 zc (ah (CG.skip ?_));intro F l;refine ⟨_,_,?_,⟨q-1,r+y1,Q,rfl,rfl,c.to _ _,f,oM⟩,l.to _ kR⟩
    omega
   have zl:=oT zc;refine lB 85 zc (am (CG.exit ?_));intro F l;exact ⟨_,⟨(q-1),Q,rfl,c.to _ _,(by first|exact M.fin d oM|exact f.brk d oM oM (by have:=f.qb;omega))⟩,l.to _ kR⟩
  rintro _ _ ⟨j,zq,rfl,c,hF⟩;refine ax ?_;obtain ⟨Z,hF2,hF3⟩:=hF;have hF4:=qL (u1:=u1) B oM;rw[<-Z] at hF4
  refine lL c ac (lV 87 (mV ((u32*4294967296)%18446744073709551616)) ?_ (hr:=rU (((u32:Int)*(4294967296:Int))) kR (jF u32 4294967296)));refine lL c ac (lV 89 (mV ((((u32*4294967296)%18446744073709551616)+u1)%18446744073709551616)) ?_ (hr:=rU (((((u32*4294967296)%18446744073709551616:Nat):Int)+(u1:Int))) kR (xg ((u32*4294967296)%18446744073709551616) u1)));refine lL c aD (lV 92 (mV ((j*Y)%18446744073709551616)) ?_ (hr:=rU (((j:Int)*(Y:Int))) kR (jF j Y)));obtain ⟨r1,hr1⟩:∃ e,e=(u32*4294967296+u1)%Y:=⟨_,rfl⟩;have z:r1<Y:=by rw[hr1];exact z2 _ oM
  refine lV 93 (mV r1) ?_ (hr:=aK (aK (n:=IntKind.wrap .u64 ((((((u32*4294967296)%18446744073709551616)+u1)%18446744073709551616:Nat):Int)-(((j*Y)%18446744073709551616:Nat):Int))) kR (kN ((((u32*4294967296)%18446744073709551616)+u1)%18446744073709551616:Nat) ((j*Y)%18446744073709551616) oM)) (by rw[nU hF3 (hF2.trans hr1.symm) oM]));refine lL c ac (aG (lL c aD ?_));have J:=mD (Y:=Y) (y1:=y1) (y0:=y0) (u:=r1) (u1:=u0) d oM oM oM z;have U:=np (u:=r1) (y1:=y1) oM;have hL0:=L5 r1 y1;obtain ⟨qb,hqb⟩:∃ e,e=r1/y1:=⟨_,rfl⟩;rw[<-hqb] at J U hL0
  refine lV 96 (mV qb) ?_ (hr:=aK (aK (dB (t:=38) (u:=38) (x:=.tmp 94) (y:=.tmp 95) (k:=.u64) (a:=(r1:Int)) (b:=(y1:Int)) kR kR kR oM _) (kg r1 y1 oM)) (by rw[hqb]));refine lL c ac (aG (lL c dl (lV 100 (mV (qb*y1)) ?_ (hr:=rU (((qb:Int)*(y1:Int))) kR (jg qb y1 oM)))));obtain ⟨rb,hrb⟩:∃ e,e=r1-qb*y1:=⟨_,rfl⟩;rw[<-hrb] at J U
  refine lV 101 (mV rb) ?_ (hr:=aK (aK (n:=IntKind.wrap .u64 ((r1:Int)-((qb*y1:Nat):Int))) kR (fA r1 (qb*y1) oM oM)) (by rw[hrb]));refine lL c ac (lN (CG.join (fun Γ K=>∃ (o:Nat)(h_:Hp),Γ=[(2,mV Y),(6,uV 0),(7,uV 0),(8,mV s),(14,mV u0),(15,mV j),(17,mV r1),(18,mV o)]/\SS w h K h_ [] [] []/\o=(r1*4294967296+u0)/Y/\(r1*4294967296+u0)-o*Y=(r1*4294967296+u0)%Y/\o*Y<=r1*4294967296+u0) ?_ ?_))
  .
   refine kZ ?_;refine bH _ (CG.loop (fun L Γ K=>∃ (p:Nat)(t:Nat)(h_:Hp),L=p/\Γ=[(2,mV Y),(6,uV 0),(7,uV 0),(8,mV s),(9,mV y1),(10,mV y0),(14,mV u0),(15,mV j),(17,mV r1),(18,mV p),(16,mV t)]/\SS w h K h_ [] [] []/\HalfQ Y y1 y0 r1 u0 p t/\t<4294967296) _ ⟨qb,rb,zq,rfl,rfl,c.to _ _,J,oM⟩ ?_);rintro _ _ _ ⟨p,t,S,bq,rfl,c,O,ht⟩;have br:=O.qb;refine cQ (aa c ac ?_);cases zd:(decide ((4294967296:Int)<=(p:Int)))
   .
    have zm:=oF zd;refine lB 103 zd (lL c dl (lV 107 (mV (p*y0)) ?_ (hr:=rU (((p:Int)*(y0:Int))) kR (jg p y0 (EI oM oM)))));refine lL c ac (lV 109 (mV (4294967296*t)) ?_ (hr:=rU (((4294967296:Int)*(t:Int))) kR (jg 4294967296 t oM)));refine lL c ac (lV 111 (mV ((4294967296*t)+u0)) ?_ (hr:=rU ((((4294967296*t:Nat):Int)+(u0:Int))) kR (eA (4294967296*t) u0 oM)));cases ze:(decide ((((4294967296*t)+u0:Nat):Int)<((p*y0:Nat):Int)))
    .
     have zn:=oF ze;refine lB 112 ze (lL c [.v qF] (ah (CG.exit ?_)));intro F l;exact ⟨_,⟨p,S,rfl,c.to _ _,(by first|exact O.fin d oM|exact i.brk d oM oM (by have:=i.qb;omega))⟩,l.to _ kR⟩
    have zn:=oT ze;refine lB 112 ze (lL c [.v qT] (am (cK (kZ (aa c ac ?_)))));have hq2:0<p:=by first|omega|exact dV (show 4294967296*t+u0<p*y0 by omega)
    have i:=O.dec d oM z (by first|exact .inl oM|exact .inr oM);refine lV 115 (mV (p-1)) ?_ (hr:=rU (((p:Int)-(1:Int))) kR (fA p 1 oM oM));refine lL c ac (aG (lL c aD (lV 118 (mV (t+y1)) ?_ (hr:=rU (((t:Int)+(y1:Int))) kR (eA t y1 oM)))));refine lL c ac (aG (lL c ac ?_));cases zf:(decide ((4294967296:Int)<=((t+y1:Nat):Int)))
    .
     have zo:=oF zf;refine lB 120 zf (ah (CG.skip ?_));intro F l;refine ⟨_,_,?_,⟨p-1,t+y1,S,rfl,rfl,c.to _ _,i,oM⟩,l.to _ kR⟩
     omega
    have zo:=oT zf;refine lB 120 zf (am (CG.exit ?_));intro F l;exact ⟨_,⟨(p-1),S,rfl,c.to _ _,(by first|exact O.fin d oM|exact i.brk d oM oM (by have:=i.qb;omega))⟩,l.to _ kR⟩
   have zm:=oT zd;refine lB 103 zd (lL c ac (lG 105 ?_));refine lG 106 (lG 107 (lG 108 (lG 109 (lG 110 (lG 111 (lG 112 (lL c [.v qT] (am (cK (kZ (aa c ac ?_)))))))))));have hq2:0<p:=by first|omega|exact dV (show 4294967296*t+u0<p*y0 by omega)
   have i:=O.dec d oM z (by first|exact .inl oM|exact .inr oM);refine lV 115 (mV (p-1)) ?_ (hr:=rU (((p:Int)-(1:Int))) kR (fA p 1 oM oM));refine lL c ac (aG (lL c aD (lV 118 (mV (t+y1)) ?_ (hr:=rU (((t:Int)+(y1:Int))) kR (eA t y1 oM)))));refine lL c ac (aG (lL c ac ?_));cases zg:(decide ((4294967296:Int)<=((t+y1:Nat):Int)))
   .
    have zp:=oF zg;refine lB 120 zg (ah (CG.skip ?_));intro F l;refine ⟨_,_,?_,⟨p-1,t+y1,S,rfl,rfl,c.to _ _,i,oM⟩,l.to _ kR⟩
    omega
   have zp:=oT zg;refine lB 120 zg (am (CG.exit ?_));intro F l;exact ⟨_,⟨(p-1),S,rfl,c.to _ _,(by first|exact O.fin d oM|exact i.brk d oM oM (by have:=i.qb;omega))⟩,l.to _ kR⟩
  rintro _ _ ⟨o,_,rfl,c,hE⟩;refine ax ?_;obtain ⟨hE1,hE2,hE3⟩:=hE;have hE4:=qL (u1:=u0) z oM;rw[<-hE1] at hE4
  refine lL c ac (lV 122 (mV (j*4294967296)) ?_ (hr:=rU (((j:Int)*(4294967296:Int))) kR (jg j 4294967296 oM)));refine lL c ac (lV 124 (mV ((j*4294967296)+o)) ?_ (hr:=rU ((((j*4294967296:Nat):Int)+(o:Int))) kR (eA (j*4294967296) o oM)));refine lL c ac (lV 126 (mV ((r1*4294967296)%18446744073709551616)) ?_ (hr:=rU (((r1:Int)*(4294967296:Int))) kR (jF r1 4294967296)));refine lL c ac (lV 128 (mV ((((r1*4294967296)%18446744073709551616)+u0)%18446744073709551616)) ?_ (hr:=rU (((((r1*4294967296)%18446744073709551616:Nat):Int)+(u0:Int))) kR (xg ((r1*4294967296)%18446744073709551616) u0)));refine lL c aD (lV 131 (mV ((o*Y)%18446744073709551616)) ?_ (hr:=rU (((o:Int)*(Y:Int))) kR (jF o Y)));obtain ⟨R,hR⟩:∃ e,e=(r1*4294967296+u0)%Y:=⟨_,rfl⟩;have hRY:R<Y:=by rw[hR];exact z2 _ oM
  refine lV 132 (mV R) ?_ (hr:=aK (aK (n:=IntKind.wrap .u64 ((((((r1*4294967296)%18446744073709551616)+u0)%18446744073709551616:Nat):Int)-(((o*Y)%18446744073709551616:Nat):Int))) kR (kN ((((r1*4294967296)%18446744073709551616)+u0)%18446744073709551616:Nat) ((o*Y)%18446744073709551616) oM)) (by rw[nU hE3 (hE2.trans hR.symm) oM]));refine lL c ac (lV 134 (mV (R/2^s)) ?_ (hr:=gL (t:=38) (u:=155) (x:=.tmp 132) (y:=.tmp 133) (ky:=.u64) (a:=R) (n:=s) kR kR kR oM _));refine lL c aD (lN (kX ?_));obtain ⟨hB1,hB2⟩:=vF (A:=hi*18446744073709551616+lo) (y:=y) hY H (show u10=u1*4294967296+u0 by omega) oM Z hr1 hE1 hR;exact c.ret [] (.tuple #[mV ((j*4294967296)+o),mV (R/2^s)]) (⟨_,_,rfl,hB1,hB2,by omega⟩)
 have bd:=eq_of_beq D;refine lB 27 D (am (cQ (cR 6 [] mixed c ao ?_)));refine eV 0 28 (mV lo) (eV 1 29 (mV y) (eV 2 30 (mV (lo/y)) ?_ (hv:=fun _=>aK (dB (t:=38) (u:=38) (x:=.tmp 28) (y:=.tmp 29) (k:=.u64) (a:=(lo:Int)) (b:=(y:Int)) kR kR kR oM _) (kg lo y oM))));refine eV 3 31 (mV lo) (eV 4 32 (mV y) (eV 5 33 (mV (lo%y)) ?_ (hv:=fun _=>aK (fj (t:=38) (u:=38) (x:=.tmp 31) (y:=.tmp 32) (k:=.u64) (a:=(lo:Int)) (b:=(y:Int)) kR kR kR oM _) (dq lo y))));refine bU c (fun _ _ c=>tV 6 6 (mV (lo/y)) (tV 7 7 (mV (lo%y)) (tN (kX ?_))));have hdm:=LX lo y;have hml:=z2 lo (show 0<y by omega);have bn:=Gb lo y;have hh0:hi=0:=by omega
 subst hh0;exact c.ret [] (.tuple #[mV (lo/y),mV (lo%y)]) (⟨lo/y,lo%y,rfl,by rw[y5,y8];exact hdm.symm,hml,by omega⟩)
def DL (h1:Hp)(v:Value)(m:Nat)(Q:List Nat->Prop):Prop:=∃ A c,∃ z:List Nat,v=.slice A z.length c/\z.length<=c/\z.length=m/\Wd z/\Q z/\SlO 1 ar 0 h1 A z
theorem Wd.set {l:List Nat}(h:Wd l)(k:Nat){x:Nat}(a:x<18446744073709551616):Wd (l.set k x):=Dg.set h k a
theorem Wd.rep (n:Nat):Wd (zY n 0):=Dg.rep kD
theorem rx {l:List Nat}{k j x:Nat}(hk:k<l.length)(h:∀ i,j<=i->l.getD i 0=0)(a:k<j):∀ i,j<=i->(l.set k x).getD i 0=0:=fun i hi=>by rw[bC hk,if_neg oM];exact h i hi
theorem EQ (A:Z9)(c:Nat)(x:List Nat)(D:Z9)(d:Nat)(y:List Nat)(hx:Wd x)(hy:Wd y)(hlx:x.length<=1000000000)(hly:y.length<=1000000000)(w:World)(h:Hp)(g:G w h)(hA:SlO 1 ar 0 h A x)(hD:SlO 1 ar 0 h D y):CR 132 #[.slice A x.length c,.slice D y.length d] w h (fun v h1=>DL h1 v (x.length+y.length) (fun z=>aA z=aA x*aA y)):=by
 have e:=(((sS g).aS hA).aS hD);refine go Tryz.func132 [(0,qS A x.length c),(1,qS D y.length d)] rfl (aa e ac (aG (lL e [.c,.v (nV x.length),.c,.v (nV y.length)] (bp 19 ((x.length:Nat)+(y.length:Nat)) (x.length+y.length) ?_))));refine lK 20 38 (x.length+y.length) 1 8 (uV 0) ar 0 e (fun u w2 h3 e=>?_);have hl4:(zY (x.length+y.length) 0).length=(x.length+y.length):=by simp
 refine lL e ac (ag (aa e [.c,.v (nV x.length),.c] (aZ ?_)));refine bH _ (CG.loop (fun O Γ w_=>∃ (i:Nat)(l:List Nat)(C:Hp),O=x.length-i/\Γ=[(1,qS D y.length d),(4,sZ),(5,qS (sB u) (x.length+y.length) (x.length+y.length)),(21,qS A x.length c),(22,nV x.length),(23,nV i)]/\SS w h w_ C [⟨u,38,(l).flatMap ar⟩] [] [fun C=>SlO 1 ar 0 C D y,fun C=>SlO 1 ar 0 C A x]/\i<=x.length/\l.length=x.length+y.length/\Wd l/\aA l=ai 18446744073709551616 (x.take i)*aA y/\(∀ k,i+y.length<=k->l.getD k 0=0)) _ ⟨0,zY (x.length+y.length) 0,h3,rfl,rfl,e.to _ _,My _,hl4,Wd.rep _,(by show ai _ _=_;rw[dN];simp[ai]),fun k _=>eg⟩ ?_);rintro _ _ w5 ⟨i,l,h6,hm7,rfl,e,hi,L,hW,hv,hz⟩;refine ax ?_;cases I:(decide ((i:Int)<(x.length:Int)))
 .
  have V:=oF I;refine lB 24 I (ag (dD (CG.exit ?_)))
  show CG _ _ _ _ _ _ _ _
  refine aa e aD (lN (kX ?_));have hix:i=x.length:=by omega
  rw[hix,yz] at hv
  obtain ⟨h9,e,X,bm,bz⟩:=e.pub 0;replace e:=(e.to [] []).aS (SlO.of_flat (sz:=1) (f:=ar) (d:=0) (b:=u) (o:=0) (l:=l) (fun _=>rfl) X);exact e.ret [] (qS (sB u) (x.length+y.length) (x.length+y.length)) (⟨sB u,_,l,by rw[L],by omega,L,hW,hv,e.f.1⟩)
 have V:=oT I;refine lB 24 I (ag (ct (cK (cQ (kZ (aa e ac (lX 26 A x.length c 1 (i:Nat) i ((e.f.2.1).ok oM) ?_)))))));refine lH 27 (mV (x.getD i 0)) e ((e.f.2.1).el i oM) (lL e aD (aG (lL e ac (ag (aa e [.c,.v (nV y.length),.c] (aZ ?_))))));refine bH _ (CG.loop (fun O Γ w_=>∃ (j:Nat)(l2:List Nat)(H:Nat)(C:Hp),O=y.length-j/\Γ=[(1,qS D y.length d),(4,sZ),(5,qS (sB u) (x.length+y.length) (x.length+y.length)),(21,qS A x.length c),(22,nV x.length),(23,nV i),(6,nV i),(7,mV (x.getD i 0)),(28,qS D y.length d),(29,nV y.length),(30,nV j),(8,mV H)]/\SS w h w_ C [⟨u,38,(l2).flatMap ar⟩] [] [fun C=>SlO 1 ar 0 C D y,fun C=>SlO 1 ar 0 C A x]/\j<=y.length/\l2.length=x.length+y.length/\Wd l2/\H<18446744073709551616/\ai 18446744073709551616 l2+18446744073709551616^(i+j)*H=aA l+18446744073709551616^i*(x.getD i 0*ai 18446744073709551616 (y.take j))/\(∀ k,i+y.length<=k->l2.getD k 0=0)) _ ⟨0,l,0,h6,rfl,rfl,e.to _ _,My _,L,hW,by omega,(by show ai _ l+_=ai _ l+_;simp[ai]),hz⟩ ?_);rintro _ _ _ ⟨j,l2,H,zi,br,rfl,e,hj,K,M,hc,inv,Q⟩;have hlk:=M.get (i+j);refine ax ?_;cases Y:(decide ((j:Int)<(y.length:Int)))
 .
  have zd:=oF Y;refine lB 31 Y (ag (dD (CG.exit ?_)))
  show CG _ _ _ _ _ _ _ _
  refine kQ (lL e [.c,.c,.c,.v (nV y.length)] (bp 75 ((i:Nat)+(y.length:Nat)) (i+y.length) ?_));refine lL e ac (lX 77 (sB u) (x.length+y.length) (x.length+y.length) 1 (i+y.length:Nat) (i+y.length) rfl ?_);refine lW 0 l2 ar 1 (i+y.length) H e oM (fun _ e=>?_);have zf:((l2).set (i+y.length) H).length=(x.length+y.length):=by rw[Mg];exact K
  replace e:=e.to [⟨u,38,((l2).set (i+y.length) H).flatMap ar⟩] [];refine lN (kQ (bp 78 ((i:Nat)+1) (i+1) ?_));refine lL e ac (lD ?_);intro a_ ka;refine ⟨_,_,?_,⟨i+1,(l2).set (i+y.length) H,zi,rfl,rfl,e.to _ _,oM,zf,(M.set _ hc),(by have hjy:j=y.length:=oM;rw[hjy] at inv;exact (tL oM inv (Q _ oM)).trans (vd hv)),(rx oM (fun k hk=>Q k oM) oM)⟩,ka.to _ kR⟩
  omega
 have zd:=oT Y;refine lB 31 Y (ag (ct (cK (cQ (kZ (aa e ac (lX 33 D y.length d 1 (j:Nat) j ((e.f.1).ok oM) ?_)))))));refine lH 34 (mV (y.getD j 0)) e ((e.f.1).el j oM) (lL e aD (aG (lL e aD (lC 38 e (pi (x.getD i 0) (y.getD j 0) wM wM _ _ e.g) ?_))));rintro _ _ zj e ⟨p,ze,rfl,bf,b0,bn,bk⟩;have Z:=jT (a:=(x.getD i 0)) (b:=(y.getD j 0)) wM wM;refine lL e [.c,.v (mV p),.v (mV ze),.c,.c] (aG (lL e oz (bp 46 ((i:Nat)+(j:Nat)) (i+j) ?_)));refine lX 47 (sB u) (x.length+y.length) (x.length+y.length) 1 (i+j:Nat) (i+j) rfl (lQ 48 0 l2 ar 1 0 (i+j) (mV ((l2).getD (i+j) 0)) e oM ?_);obtain ⟨J,F,bt,bl,bx,U⟩:=fa ze ((l2).getD (i+j) 0) 0 wM wM oM;refine lV 49 (.tuple #[mV J,mV F]) ?_ (hr:=ef kR (U _));refine lL e [.c,.v (mV J),.v (mV F),.c,.c] (aG (lL e aD (lV 54 (mV (p+F)) ?_ (hr:=rU (((p:Int)+(F:Int))) kR (eA p F oM)))));refine lL e ac (lN (bH [(1,qS D y.length d),(4,sZ),(5,qS (sB u) (x.length+y.length) (x.length+y.length)),(21,qS A x.length c),(22,nV x.length),(23,nV i),(6,nV i),(7,mV (x.getD i 0)),(28,qS D y.length d),(29,nV y.length),(30,nV j),(8,mV H),(9,nV j),(11,mV (p+F)),(13,mV J),(14,mV F)] ?_));refine aa e aD ?_;obtain ⟨B,S,bb,bd,bq,W⟩:=fa J H 0 wM wM oM;refine lV 58 (.tuple #[mV B,mV S]) ?_ (hr:=ef kR (W _));refine lL e [.c,.v (mV B),.v (mV S),.c,.c] (lN (kQ (lL e dl (bp 64 ((i:Nat)+(j:Nat)) (i+j) ?_))));refine lL e dl (lV 68 (mV ((p+F)+S)) ?_ (hr:=rU ((((p+F:Nat):Int)+(S:Int))) kR (eA (p+F) S oM)));refine lX 69 (sB u) (x.length+y.length) (x.length+y.length) 1 (i+j:Nat) (i+j) rfl (lW 0 l2 ar 1 (i+j) B e oM (fun _ e=>?_));have zg:((l2).set (i+j) B).length=(x.length+y.length):=by rw[Mg];exact K
 replace e:=e.to [⟨u,38,((l2).set (i+j) B).flatMap ar⟩] [];refine lL e ac (lN (kQ (bp 70 ((j:Nat)+1) (j+1) ?_)));refine lL e ac (lD ?_);intro a_ ka;refine ⟨_,_,?_,⟨j+1,(l2).set (i+j) B,((p+F)+S),zj,rfl,rfl,e.to _ _,oM,zg,(M.set _ oM),oM,(mt oM inv oM),(rx oM Q oM)⟩,ka.to _ kR⟩
 omega
theorem DG {x:List Nat}(a:Wd x){n:Nat}(h:x.length<=n/64):aA x<2^n:=by
 have h1:=bM a;have b:(18446744073709551616:Nat)^x.length=2^(64*x.length):=by rw[LH]
 have c:(2:Nat)^(64*x.length)<=2^n:=LA oM oM
 show ai _ x<_
 omega
theorem nu {l:List Nat}{k x:Nat}(hk:k<l.length)(h:∀ i,k<=i->l.getD i 0=0):∀ i,k+1<=i->(l.set k x).getD i 0=0:=fun i hi=>by rw[bC hk,if_neg oM];exact h i oM
theorem wN (A:Z9)(c:Nat)(x:List Nat)(Y:Wd x)(hlx:x.length<=1000000000)(n:Nat)(hn:n<=1000000000)(w:World)(h:Hp)(g:G w h)(hA:SlO 1 ar 0 h A x):CR 188 #[.slice A x.length c,nV n] w h (fun v h1=>DL h1 v (x.length+n/64+1) (fun z=>aA z=aA x*2^n)):=by
 have e:=((sS g).aS hA);refine go Tryz.func188 [(0,qS A x.length c),(1,nV n)] rfl (aa e ac (aG (lL e ac (lV 11 (nV (n/64)) ?_ (hr:=aK (dB (t:=3) (u:=3) (x:=.tmp 10) (y:=.const (iV 64)) (k:=.i64) (a:=(n:Int)) (b:=(64:Int)) kR kR kR oM _) (dG n 64 oM))))));refine lL e ac (lV 13 (nV (n%64)) ?_ (hr:=aK (fj (t:=3) (u:=3) (x:=.tmp 12) (y:=.const (iV 64)) (k:=.i64) (a:=(n:Int)) (b:=(64:Int)) kR kR kR oM _) (dq n 64)));refine lV 14 (mV (n%64)) ?_ (hr:=rU (((n%64:Nat):Int)) kR (bc oM oM));refine lL e aD (aG (lL e [.c,.v (nV x.length),.c] (bp 18 ((x.length:Nat)+(n/64:Nat)) (x.length+(n/64)) ?_)));refine bp 19 ((x.length+(n/64):Nat)+1) ((x.length+(n/64))+1) (lK 20 38 ((x.length+(n/64))+1:Nat) 1 8 (uV 0) ar 0 e (fun j w2 h3 e=>?_));have K:(zY ((x.length+(n/64))+1:Nat) 0).length=((x.length+(n/64))+1:Nat):=by simp
 refine lL e ac (ag (aa e [.c,.v (nV x.length),.c] (aZ ?_)));refine bH _ (CG.loop (fun M Γ X=>∃ (i:Nat)(l:List Nat)(S:Hp),M=x.length-i/\Γ=[(4,sZ),(5,nV (n/64)),(6,mV (n%64)),(7,qS (sB j) ((x.length+(n/64))+1:Nat) ((x.length+(n/64))+1:Nat)),(21,qS A x.length c),(22,nV x.length),(23,nV i)]/\SS w h X S [⟨j,38,(l).flatMap ar⟩] [] [fun S=>SlO 1 ar 0 S A x]/\i<=x.length/\l.length=x.length+n/64+1/\Wd l/\aA l=2^(n%64)*(18446744073709551616^(n/64)*ai 18446744073709551616 (x.take i))/\l.getD (i+n/64) 0<2^(n%64)/\(∀ k,i+n/64+1<=k->l.getD k 0=0)) _ ⟨0,zY ((x.length+(n/64))+1:Nat) 0,h3,rfl,rfl,e.to _ _,My _,K,Wd.rep _,(by show ai _ _=_;rw[dN];simp[ai]),(by rw[eg];exact Lz _),fun k _=>eg⟩ ?_);rintro _ _ w5 ⟨i,l,Z,hm7,rfl,e,hi,C,J,hv,ho,hz⟩;refine ax ?_;cases B:(decide ((i:Int)<(x.length:Int)))
 .
  have F:=oF B;refine lB 24 B (ag (dD (CG.exit ?_)))
  show CG _ _ _ _ _ _ _ _
  refine aa e aD (lN (kX ?_));have L:i=x.length:=by omega
  rw[L,yz] at hv
  obtain ⟨h9,e,D,V,W⟩:=e.pub 0;replace e:=(e.to [] []).aS (SlO.of_flat (sz:=1) (f:=ar) (d:=0) (b:=j) (o:=0) (l:=l) (fun _=>rfl) D);exact e.ret [] (qS (sB j) ((x.length+(n/64))+1:Nat) ((x.length+(n/64))+1:Nat)) (⟨sB j,_,l,by rw[C],by omega,C,J,(by show aA l=_;rw[hv,xZ n];show _*(_*aA x)=_;ac_rfl),e.f.1⟩)
 have F:=oT B;refine lB 24 B (ag (ct (cK (cQ (kZ (aa e ac (lX 26 A x.length c 1 (i:Nat) i ((e.f.1).ok oM) ?_)))))));refine lH 27 (mV (x.getD i 0)) e ((e.f.1).el i oM) (lL e aD (aG (lL e dl (bp 31 ((i:Nat)+(n/64:Nat)) (i+(n/64)) ?_))));refine lX 32 (sB j) ((x.length+(n/64))+1:Nat) ((x.length+(n/64))+1:Nat) 1 (i+(n/64):Nat) (i+(n/64)) rfl (lQ 33 0 l ar 1 0 (i+(n/64)) (mV ((l).getD (i+(n/64)) 0)) e oM (lL e aD (lV 36 (mV ((x.getD i 0)*2^(n%64)%18446744073709551616)) ?_ (hr:=ie (t:=38) (u:=155) (x:=.tmp 34) (y:=.tmp 35) (ky:=.u64) (a:=(x.getD i 0)) (n:=(n%64)) kR kR kR _))));have H:=Y.get i;obtain ⟨O,I,Q,U⟩:=Ad (x:=x.getD i 0) (p:=n%64) (o:=l.getD (i+n/64) 0) oM H ho;have hlg:=J.get (i+n/64);refine lV 37 (mV (l.getD (i+n/64) 0+x.getD i 0*2^(n%64)%18446744073709551616)) ?_ (hr:=aK (iw (t:=38) (u:=38) (x:=.tmp 33) (y:=.tmp 36) (a:=((l).getD (i+(n/64)) 0:Nat)) (b:=((x.getD i 0)*2^(n%64)%18446744073709551616)) kR kR kR oM oM _) (by rw[O]));refine lX 38 (sB j) ((x.length+(n/64))+1:Nat) ((x.length+(n/64))+1:Nat) 1 (i+(n/64):Nat) (i+(n/64)) rfl (lW 0 l ar 1 (i+(n/64)) (l.getD (i+n/64) 0+x.getD i 0*2^(n%64)%18446744073709551616) e oM (fun _ e=>?_));have za:((l).set (i+(n/64)) (l.getD (i+n/64) 0+x.getD i 0*2^(n%64)%18446744073709551616)).length=((x.length+(n/64))+1:Nat):=by rw[Mg];exact C
 replace e:=e.to [⟨j,38,((l).set (i+(n/64)) (l.getD (i+n/64) 0+x.getD i 0*2^(n%64)%18446744073709551616)).flatMap ar⟩] [];refine lN (kQ (lL e dl (bp 42 ((i:Nat)+(n/64:Nat)) (i+(n/64)) ?_)));refine bp 43 ((i+(n/64):Nat)+1) ((i+(n/64))+1) (lL e aD (lV 46 (mV (64-(n%64))) ?_ (hr:=rU (((64:Int)-((n%64:Nat):Int))) kR (fA 64 (n%64) oM oM))));refine lV 47 (mV ((x.getD i 0)/2^(64-(n%64)))) ?_ (hr:=gL (t:=38) (u:=155) (x:=.tmp 44) (y:=.tmp 46) (ky:=.u64) (a:=(x.getD i 0)) (n:=(64-(n%64))) kR kR kR oM _);refine lX 48 (sB j) ((x.length+(n/64))+1:Nat) ((x.length+(n/64))+1:Nat) 1 ((i+(n/64))+1:Nat) ((i+(n/64))+1:Nat) rfl (lW 0 ((l).set (i+(n/64)) (l.getD (i+n/64) 0+x.getD i 0*2^(n%64)%18446744073709551616)) ar 1 ((i+(n/64))+1:Nat) ((x.getD i 0)/2^(64-(n%64)):Nat) e oM (fun _ e=>?_));have zb:(((l).set (i+(n/64)) (l.getD (i+n/64) 0+x.getD i 0*2^(n%64)%18446744073709551616)).set ((i+(n/64))+1:Nat) ((x.getD i 0)/2^(64-(n%64)):Nat)).length=((x.length+(n/64))+1:Nat):=by rw[Mg];exact za
 replace e:=e.to [⟨j,38,(((l).set (i+(n/64)) (l.getD (i+n/64) 0+x.getD i 0*2^(n%64)%18446744073709551616)).set ((i+(n/64))+1:Nat) ((x.getD i 0)/2^(64-(n%64)):Nat)).flatMap ar⟩] [];refine lN (kQ (bp 49 ((i:Nat)+1) (i+1) ?_));refine lL e ac (lD ?_);intro a_ ka;refine ⟨_,_,?_,⟨i+1,((l).set (i+(n/64)) (l.getD (i+n/64) 0+x.getD i 0*2^(n%64)%18446744073709551616)).set ((i+(n/64))+1:Nat) ((x.getD i 0)/2^(64-(n%64)):Nat),Z,rfl,rfl,e.to _ _,oM,zb,((J.set _ I).set _ (by have:=Gb (x.getD i 0) (2^(64-n%64));omega)),(x3 oM hv (hz _ oM) Q rfl rfl),(by rw[show i+1+n/64=i+n/64+1 by omega,bC (by rw[Mg];omega),if_pos rfl];exact U),(fun k hk=>by rw[bC (by rw[Mg];omega),if_neg oM,bC oM,if_neg oM];exact hz k oM)⟩,ka.to _ kR⟩
 omega
theorem Jb (A:Z9)(c:Nat)(x:List Nat)(Q:Wd x)(hlx:x.length<=1000000000)(n:Nat)(hn:n<=1000000000)(w:World)(h:Hp)(g:G w h)(hA:SlO 1 ar 0 h A x):CR 190 #[.slice A x.length c,nV n] w h (fun v h1=>DL h1 v (x.length-n/64) (fun z=>aA z=aA x/2^n)):=by
 have e:=((sS g).aS hA);refine go Tryz.func190 [(0,qS A x.length c),(1,nV n)] rfl (aa e ac (aG (lL e ac (lV 10 (nV (n/64)) ?_ (hr:=aK (dB (t:=3) (u:=3) (x:=.tmp 9) (y:=.const (iV 64)) (k:=.i64) (a:=(n:Int)) (b:=(64:Int)) kR kR kR oM _) (dG n 64 oM))))));refine lL e ac (lV 12 (nV (n%64)) ?_ (hr:=aK (fj (t:=3) (u:=3) (x:=.tmp 11) (y:=.const (iV 64)) (k:=.i64) (a:=(n:Int)) (b:=(64:Int)) kR kR kR oM _) (dq n 64)));refine lV 13 (mV (n%64)) ?_ (hr:=rU (((n%64:Nat):Int)) kR (bc oM oM));refine lL e aD (ag (aa e [.c,.c,.v (nV x.length)] ?_));cases C:(decide ((x.length:Int)<=((n/64:Nat):Int)))
 .
  have I:=oF C;refine lB 17 C (ah (cK (aa e [.c,.v (nV x.length),.c] (bp 21 ((x.length:Nat)-(n/64:Nat)) (x.length-(n/64)) ?_))));refine lK 22 38 (x.length-(n/64)) 1 8 (uV 0) ar 0 e (fun B w3 h4 e=>?_);have V:(zY (x.length-(n/64)) 0).length=(x.length-(n/64)):=by simp
  refine lL e ac (ag (aa e [.c,.v (nV (x.length-(n/64))),.c] (aZ ?_)));refine bH _ (CG.loop (fun U Γ w_=>∃ (i:Nat)(l:List Nat)(Z:Hp),U=x.length-n/64-i/\Γ=[(0,qS A x.length c),(4,sZ),(5,nV (n/64)),(6,mV (n%64)),(7,qS (sB B) (x.length-(n/64)) (x.length-(n/64))),(24,nV (x.length-(n/64))),(25,nV i)]/\SS w h w_ Z [⟨B,38,(l).flatMap ar⟩] [] [fun Z=>SlO 1 ar 0 Z A x]/\i<=x.length-n/64/\l.length=x.length-n/64/\Wd l/\2^(n%64)*ai 18446744073709551616 l+(x.drop (n/64)).getD 0 0%2^(n%64)=ai 18446744073709551616 ((x.drop (n/64)).take i)+18446744073709551616^i*((x.drop (n/64)).getD i 0%2^(n%64))/\(∀ k,i<=k->l.getD k 0=0)) _ ⟨0,zY (x.length-(n/64)) 0,h4,rfl,rfl,e.to _ _,My _,V,Wd.rep _,(by rw[dN];simp[ai]),fun k _=>eg⟩ ?_);rintro _ _ w6 ⟨i,l,h7,hm8,rfl,e,hi,J,S,inv,hz⟩;refine ax ?_;cases D:(decide ((i:Int)<(((x.length-(n/64)):Nat):Int)))
  .
   have H:=oF D;refine lB 26 D (ag (dD (CG.exit ?_)))
   show CG _ _ _ _ _ _ _ _
   refine aa e aD (lN (kX ?_));have hix:i=x.length-n/64:=by omega
   have hE:=Dp (W:=x.drop (n/64)) (m:=i) (by rw[LZ];omega) inv;rw[nH Q oM,Nat.div_div_eq_div_mul,<-xZ n] at hE
   obtain ⟨_,e,F,bb,bd⟩:=e.pub 0;replace e:=(e.to [] []).aS (SlO.of_flat (sz:=1) (f:=ar) (d:=0) (b:=B) (o:=0) (l:=l) (fun _=>rfl) F);exact e.ret [] (qS (sB B) (x.length-(n/64)) (x.length-(n/64))) (⟨sB B,_,l,by rw[J],by omega,by omega,S,hE,e.f.1⟩)
  have H:=oT D;refine lB 26 D (ag (ct (cK (cQ (kZ (aa e aD (aG (lL e IL (bp 33 ((i:Nat)+(n/64:Nat)) (i+(n/64)) ?_)))))))));refine lX 34 A x.length c 1 (i+(n/64):Nat) (i+(n/64)) ((e.f.1).ok oM) (lH 35 (mV (x.getD (i+(n/64)) 0)) e ((e.f.1).el (i+(n/64)) oM) (lL e ac ?_));have M:=Q.get (i+n/64);refine lV 37 (mV ((x.getD (i+(n/64)) 0:Nat)/2^(n%64))) ?_ (hr:=gL (t:=38) (u:=155) (x:=.tmp 35) (y:=.tmp 36) (ky:=.u64) (a:=(x.getD (i+(n/64)) 0:Nat)) (n:=(n%64)) kR kR kR oM _);refine lX 38 (sB B) (x.length-(n/64)) (x.length-(n/64)) 1 (i:Nat) i rfl (lW 0 l ar 1 i ((x.getD (i+(n/64)) 0:Nat)/2^(n%64):Nat) e oM (fun _ e=>?_));have zb:((l).set i ((x.getD (i+(n/64)) 0:Nat)/2^(n%64):Nat)).length=(x.length-(n/64)):=by rw[Mg];exact J
  replace e:=e.to [⟨B,38,((l).set i ((x.getD (i+(n/64)) 0:Nat)/2^(n%64):Nat)).flatMap ar⟩] [];refine aG (lL e aD (bp 41 ((i:Nat)+(n/64:Nat)) (i+(n/64)) ?_));refine bp 42 ((i+(n/64):Nat)+1) ((i+(n/64))+1) (lL e [.c,.v (nV x.length)] ?_);cases L:(decide ((((i+(n/64))+1:Nat):Int)<(x.length:Int)))
  .
   have zc:=oF L;refine lB 45 L (ah (cK (kQ (bp 62 ((i:Nat)+1) (i+1) ?_))));refine lL e ac (lD ?_);intro a_ ka;refine ⟨_,_,?_,⟨i+1,(l).set i ((x.getD (i+(n/64)) 0:Nat)/2^(n%64):Nat),h7,rfl,rfl,e.to _ _,oM,zb,(S.set _ (by have:=Gb (x.getD (i+n/64) 0) (2^(n%64));omega)),(pV oM inv (hz _ (nR _)) (by rw[bE,bE,show n/64+i=i+n/64 by omega,cn (show x.length<=n/64+(i+1) by omega),Nat.zero_mod,Lw,wj];exact LX _ _)),(nu oM hz)⟩,ka.to _ kR⟩
   omega
  have zc:=oT L;refine lB 45 L (am (cR 15 [] mixed e ao ?_));refine eV 0 46 (qS (sB B) (x.length-(n/64)) (x.length-(n/64))) (eV 1 47 (nV i) (eX 2 48 (sB B) (x.length-(n/64)) (x.length-(n/64)) 1 (i:Nat) i rfl (eQ 3 49 0 ((l).set i ((x.getD (i+(n/64)) 0:Nat)/2^(n%64):Nat)) ar 1 0 i (mV (((l).set i ((x.getD (i+(n/64)) 0:Nat)/2^(n%64):Nat)).getD i 0)) e oM (eV 4 50 (qS A x.length c) (eV 5 51 (nV i) (eV 6 52 (nV (n/64)) (jG 7 53 ((i:Nat)+(n/64:Nat)) (i+(n/64)) (jG 8 54 ((i+(n/64):Nat)+1) ((i+(n/64))+1) (eX 9 55 A x.length c 1 ((i+(n/64))+1:Nat) ((i+(n/64))+1:Nat) ((e.f.1).ok oM) (eH 10 56 (mV (x.getD ((i+(n/64))+1:Nat) 0)) e ((e.f.1).el ((i+(n/64))+1:Nat) oM) (eV 11 57 (mV (n%64)) (eV 12 58 (mV (64-(n%64))) ?_ (hv:=fun _=>rU (((64:Int)-((n%64:Nat):Int))) kR (fA 64 (n%64) oM oM))))))))))))));refine eV 13 59 (mV ((x.getD ((i+(n/64))+1:Nat) 0:Nat)*2^(64-(n%64))%18446744073709551616)) ?_ (hv:=fun _=>ie (t:=38) (u:=155) (x:=.tmp 56) (y:=.tmp 58) (ky:=.u64) (a:=(x.getD ((i+(n/64))+1:Nat) 0:Nat)) (n:=(64-(n%64))) kR kR kR _);obtain ⟨X,O,Y⟩:=pM (x:=x.getD (i+n/64) 0) (y:=x.getD (i+n/64+1) 0) (p:=n%64) oM M;have hdv:=Gb (x.getD (i+n/64) 0) (2^(n%64));have K:=bC (l:=l) (k:=i) (j:=i) (x:=x.getD (i+n/64) 0/2^(n%64)) oM;rw[if_pos rfl] at K
  refine eV 14 60 (mV (x.getD (i+n/64) 0/2^(n%64)+x.getD (i+n/64+1) 0*2^(64-n%64)%18446744073709551616)) ?_ (hv:=fun _=>aK (iw (t:=38) (u:=38) (x:=.tmp 49) (y:=.tmp 59) (a:=(((l).set i ((x.getD (i+(n/64)) 0:Nat)/2^(n%64):Nat)).getD i 0:Nat)) (b:=((x.getD ((i+(n/64))+1:Nat) 0:Nat)*2^(64-(n%64))%18446744073709551616:Nat)) kR kR kR oM oM _) (by rw[K,X]));refine bU e (fun _ ze e=>tX 15 61 (sB B) (x.length-(n/64)) (x.length-(n/64)) 1 (i:Nat) i rfl (tW 16 0 ((l).set i ((x.getD (i+(n/64)) 0:Nat)/2^(n%64):Nat)) ar 1 i (x.getD (i+n/64) 0/2^(n%64)+x.getD (i+n/64+1) 0*2^(64-n%64)%18446744073709551616) e oM (fun _ e=>?_)));have zd:(((l).set i ((x.getD (i+(n/64)) 0:Nat)/2^(n%64):Nat)).set i (x.getD (i+n/64) 0/2^(n%64)+x.getD (i+n/64+1) 0*2^(64-n%64)%18446744073709551616)).length=(x.length-(n/64)):=by rw[Mg];exact zb
  replace e:=e.to [⟨B,38,(((l).set i ((x.getD (i+(n/64)) 0:Nat)/2^(n%64):Nat)).set i (x.getD (i+n/64) 0/2^(n%64)+x.getD (i+n/64+1) 0*2^(64-n%64)%18446744073709551616)).flatMap ar⟩] [];refine tN (bH [(0,qS A x.length c),(4,sZ),(5,nV (n/64)),(6,mV (n%64)),(7,qS (sB B) (x.length-(n/64)) (x.length-(n/64))),(24,nV (x.length-(n/64))),(25,nV i)] ?_);refine kQ (bp 62 ((i:Nat)+1) (i+1) ?_);refine lL e ac (lD ?_);intro a_ ka;refine ⟨_,_,?_,⟨i+1,((l).set i ((x.getD (i+(n/64)) 0:Nat)/2^(n%64):Nat)).set i (x.getD (i+n/64) 0/2^(n%64)+x.getD (i+n/64+1) 0*2^(64-n%64)%18446744073709551616),ze,rfl,rfl,e.to _ _,oM,zd,((S.set _ oM).set _ O),(by rw[ME];exact pV oM inv (hz _ (nR _)) (by rw[bE,bE,show n/64+i=i+n/64 by omega,show n/64+(i+1)=i+n/64+1 by omega];exact Y)),(by rw[ME];exact nu oM hz)⟩,ka.to _ kR⟩
  omega
 have I:=oT C;exact lB 17 C (am (aa e ac (ae e [] (sZ) (⟨none,0,[],rfl,by simp,by simp;omega,Dg.nil,(by show 0=_;exact (G3 (DG Q oM)).symm),SlO.nil⟩))))
theorem KK {a b:Nat}(ha:a<18446744073709551616)(d:b<18446744073709551616):a*b<=340282366920938463426481119284349108225:=by
 have h1:a<=18446744073709551615:=by omega
 have c:b<=18446744073709551615:=by omega
 exact Nat.mul_le_mul h1 c
def w3 (u2 u1 u0:Nat):Nat:=18446744073709551616*(18446744073709551616*u2+u1)+u0
def w2 (v1 v0:Nat):Nat:=18446744073709551616*v1+v0
structure Gss (u2 u1 u0 v1 v0 g r o:Nat):Prop where
  e:g*v1+(r+18446744073709551616*o)=18446744073709551616*u2+u1
  lt:g+1=18446744073709551616\/w3 u2 u1 u0<(g+1)*w2 v1 v0
  gb:g<18446744073709551616
def EA (u2 u1 u0 v1 v0 g:Nat):Prop:=g*w2 v1 v0<=w3 u2 u1 u0/\(g+1=18446744073709551616\/w3 u2 u1 u0<(g+1)*w2 v1 v0)/\g<18446744073709551616
theorem gv {g b a:Nat}:g*w2 b a=18446744073709551616*(g*b)+g*a:=by unfold w2;rw[Lr,Nat.mul_left_comm]
theorem Gss.fin {d u1 a c b g r o:Nat}(h:Gss d u1 a c b g r o)(f:g*b<=18446744073709551616*(r+18446744073709551616*o)+a):EA d u1 a c b g:=by
 refine ⟨?_,h.lt,h.gb⟩;rw[gv]
 unfold w3
 rw[<-h.e,Lr]
 omega
theorem Gss.over {c u1 d b a g r o:Nat}(h:Gss c u1 d b a g r o)(e:0<o)(h0:a<18446744073709551616):EA c u1 d b a g:=by
 refine h.fin ?_;have h1:=KK h.gb h0
 omega
theorem Gss.dec {d u1 b a c g r f o':Nat}(h:Gss d u1 b a c g r 0)(j:18446744073709551616*r+b<g*c)(e:f+18446744073709551616*o'=r+a):0<g/\Gss d u1 b a c (g-1) f o':=by
 have i:0<g:=dV j;obtain ⟨p,rfl⟩:∃ p,g=p+1:=⟨g-1,by omega⟩;have e1:=h.e;rw[Lw,wj] at e1
 have h1:w3 d u1 b<(p+1)*w2 a c:=by
  rw[gv]
  unfold w3
  rw[<-e1,Lr]
  omega
 have e2:(p+1)*a=p*a+a:=by rw[LS,LW]
 rw[L8];exact ⟨i,⟨by omega,Or.inr h1,by have:=h.gb;omega⟩⟩
theorem B8 {b u1 c a d r o:Nat}(h:b=a)(e:r+18446744073709551616*o=u1+a):Gss b u1 c a d 18446744073709551615 r o:=by
 subst h;exact ⟨by omega,.inl rfl,by decide⟩
theorem CY {b u1 c a d q r:Nat}(e:b*18446744073709551616+u1=a*q+r)(hr:r<a)(h0:c<18446744073709551616)(f:q<18446744073709551616):Gss b u1 c a d q r 0:=by
 rw[HA b] at e
 refine ⟨by rw[HA q];omega,.inr ?_,f⟩;rw[gv,LS q 1 a,LW,HA q a]
 unfold w3
 rw[e]
 have h1:18446744073709551616*(a*q+r)+18446744073709551616<=18446744073709551616*(a*q+a):=by
  rw[<-Nat.mul_succ];exact LD _ oM
 have h:0<=(q+1)*d:=My _
 omega
theorem FJ (p u1 j f i:Nat)(h0:p<18446744073709551616)(h1:u1<18446744073709551616)(h2:j<18446744073709551616)(h3:f<18446744073709551616)(h4:i<18446744073709551616)(hle:p<=f)(hv:0<f)(w:World)(h:Hp)(g:G w h):CR 189 #[mV p,mV u1,mV j,mV f,mV i] w h (fun v _=>∃ g:Nat,v=mV g/\EA p u1 j f i g):=by
 have d:=sS g;refine go Tryz.func189 [(0,mV p),(1,mV u1),(2,mV j),(3,mV f),(4,mV i)] rfl ?_;refine aa d ac (aG (lL d dl (lN (CG.join (fun Γ Z=>∃ (V:Nat)(K:Nat)(F:Nat)(h_:Hp),Γ=[(2,mV j),(3,mV f),(4,mV i),(10,uV 0),(11,mV V),(12,mV K),(13,mV F)]/\SS w h Z h_ [] [] []/\Gss p u1 j f i V K F/\K<18446744073709551616/\F<=1) ?_ ?_))))
 .
  refine aa d aD ?_;cases u:((p:Int) == (f:Int))
  .
   have D:=aj u;refine lB 18 u (ah (kQ (lL d dl (lC 29 d (wL p u1 f oM wM wM _ _ d.g) ?_))));rintro _ w7 h8 d ⟨q2,r3,rfl,he4,hl5,hm6⟩;refine lL d [.c,.v (mV q2),.v (mV r3),.c,.c] (lD ?_);intro a_ y;exact ⟨_,⟨q2,r3,0,h8,rfl,d.to _ _,(CY oM oM h2 oM),oM,oM⟩,y.to _ kR⟩
  have D:=eq_of_beq u;refine lB 18 u (am (aa d ac (lN (kQ (lL d aD ?_)))));obtain ⟨z,ze,bl,bx,bz,H⟩:=fa u1 f 0 wM wM oM;refine lV 22 (.tuple #[mV z,mV ze]) ?_ (hr:=ef kR (H _));refine lL d [.c,.v (mV z),.v (mV ze),.c,.c] (lD ?_);intro a_ y;exact ⟨_,⟨18446744073709551615,z,ze,h,rfl,d.to _ _,(B8 oM oM),oM,oM⟩,y.to _ kR⟩
 rintro _ _ ⟨V,K,F,zo,rfl,d,hG0,hr0,J⟩;refine cQ (kZ ?_);refine bH _ (CG.loop (fun μ_ Γ Z=>∃ (g:Nat)(r:Nat)(o:Nat)(h_:Hp),μ_=g/\Γ=[(2,mV j),(3,mV f),(4,mV i),(10,uV 0),(11,mV g),(12,mV r),(13,mV o)]/\SS w h Z h_ [] [] []/\Gss p u1 j f i g r o/\r<18446744073709551616/\o<=1) _ ⟨V,K,F,zo,rfl,rfl,d.to _ _,hG0,hr0,J⟩ ?_);rintro _ _ _ ⟨g,r,o,_,bd,rfl,d,e,hr,hov⟩;have hgl:=e.gb;refine cQ (aa d ac ?_);cases S:((o:Int) == (0:Int))
 .
  have zi:=aj S;refine lB 33 S (ah (CG.exit ?_))
  show CG _ _ _ _ _ _ _ _
  exact aa d aD (ae d [] (mV g) (⟨g,rfl,(by first|exact e.over oM h4|(rw[show o=0 by omega] at e;exact e.fin oM))⟩))
 have zi:=eq_of_beq S;refine lB 33 S (am (cK (kZ (aa d aD (lC 37 d (pi g i wM wM _ _ d.g) ?_)))));rintro _ _ zm d ⟨C,zn,rfl,bm,bk,bn,bf⟩;have O:=jT (a:=g) (b:=i) wM wM;refine lL d [.c,.v (mV C),.v (mV zn),.c,.c] (ag (aa d aD ?_));cases U:(decide ((C:Int)<(r:Int)))
 .
  have zj:=oF U;refine lB 42 U (lL d dl ?_);cases Q:((C:Int) == (r:Int))
  .
   have zk:=aj Q;refine lB 46 Q (lL d ac (lG 48 ?_));refine lG 49 (lG 50 (lL d [.v qF,.v qF] (ah (cK (ax ?_)))));have l:18446744073709551616*r+j<g*i:=by omega
   rw[show o=0 by omega] at e
   have Y:=dV l;have W:=e.gb;refine lL d ac (lV 54 (mV (g-1)) ?_ (hr:=rU (((g:Int)-(1:Int))) kR (fA g 1 oM oM)));refine lL d ac (lN (kQ (lL d aD ?_)));obtain ⟨x,zf,br,bb,bq,I⟩:=fa r f 0 wM wM oM;refine lV 58 (.tuple #[mV x,mV zf]) ?_ (hr:=ef kR (I _));refine lL d [.c,.v (mV x),.v (mV zf),.c,.c] (lD ?_);intro a_ y;refine ⟨_,_,?_,⟨g-1,x,zf,zm,rfl,rfl,d.to _ _,((e.dec l oM).2),oM,oM⟩,y.to _ kR⟩
   omega
  have zk:=eq_of_beq Q;refine lB 46 Q (lL d dl ?_);cases M:(decide ((zn:Int)<=(j:Int)))
  .
   have zl:=oF M;refine lB 50 M (lL d [.v qF,.v qF] (ah (cK (ax ?_))));have l:18446744073709551616*r+j<g*i:=by omega
   rw[show o=0 by omega] at e
   have Y:=dV l;have W:=e.gb;refine lL d ac (lV 54 (mV (g-1)) ?_ (hr:=rU (((g:Int)-(1:Int))) kR (fA g 1 oM oM)));refine lL d ac (lN (kQ (lL d aD ?_)));obtain ⟨B,X,b1,bt,b0,L⟩:=fa r f 0 wM wM oM;refine lV 58 (.tuple #[mV B,mV X]) ?_ (hr:=ef kR (L _));refine lL d [.c,.v (mV B),.v (mV X),.c,.c] (lD ?_);intro a_ y;refine ⟨_,_,?_,⟨g-1,B,X,zm,rfl,rfl,d.to _ _,((e.dec l oM).2),oM,oM⟩,y.to _ kR⟩
   omega
  have zl:=oT M;refine lB 50 M (lL d [.v qT,.v qT] (am (CG.exit ?_)))
  show CG _ _ _ _ _ _ _ _
  exact aa d aD (ae d [] (mV g) (⟨g,rfl,(by first|exact e.over oM h4|(rw[show o=0 by omega] at e;exact e.fin oM))⟩))
 have zj:=oT U;refine lB 42 U (lL d ac (lG 44 ?_));refine lG 45 (lG 46 (lG 47 (lG 48 (lG 49 (lG 50 (lG 51 (lL d [.v qT] (am (CG.exit ?_)))))))))
 show CG _ _ _ _ _ _ _ _
 exact aa d aD (ae d [] (mV g) (⟨g,rfl,(by first|exact e.over oM h4|(rw[show o=0 by omega] at e;exact e.fin oM))⟩))
theorem Fn (A:Z9)(c:Nat)(l:List Nat)(n:Nat)(hn:l.length=n)(d:l.length<=1099511627776)(b:l.length<=c)(w:World)(h:Hp)(g:G w h)(a:SlO 1 ar 0 h A l):CV 170 #[.slice A n c] w h (.slice A (tl l n) c):=by
 subst hn;exact Fe A c l d b w h g a
theorem IT (rb:Nat)(l:List Nat)(c d:Nat)(S:0<d)(O:d<18446744073709551616)(Q:Wd l)(hl:l.length<=1000000000)(hc:l.length<=c)(w:World)(h:Hp)(g:G w h)(V:Own w rb 38 (l.flatMap ar))(W:h[rb]?=some be):Calls Tryz.prog 161 #[.slice (sB rb) l.length c,mV d] w (eW rb w h fun v w' _=>∃ z:List Nat,∃ r:Nat,v=.tuple #[.slice (sB rb) (tl z z.length) c,uV r]/\z.length=l.length/\Wd z/\aA l=d*aA z+r/\r<d/\Own w' rb 38 (z.flatMap ar)):=by
 have e:UpM [rb] w h w h:=UpM.refl g;obtain ⟨wz,hz,a⟩:=SS.at_ g V W;have Y:l.length=l.length:=rfl;refine go Tryz.func161 [(0,qS (sB rb) l.length c),(1,mV d)] rfl (aa a aD (aG (lL a ac (ag (aa a [.c,.v (nV l.length)] (lV 10 (iV ((l.length:Int)-1)) ?_ (hr:=rS (((l.length:Nat)-1)) kR ((gK oM oM).trans oM))))))));refine lL a ac (aZ ?_);refine bH _ (CG.loop (fun C Γ H=>∃ (m:Nat)(z:List Nat)(r:Nat)(h_:Hp),C=m/\Γ=[(0,qS (sB rb) l.length c),(1,mV d),(4,sZ),(5,uV 0),(7,iV ((m:Int)-1)),(6,mV r)]/\SS wz hz H h_ [⟨rb,38,(z).flatMap ar⟩] [] []/\m<=l.length/\z.length=l.length/\Wd z/\aA l=d*(18446744073709551616^m*ai 18446744073709551616 (z.drop m))+(18446744073709551616^m*r+ai 18446744073709551616 (z.take m))/\r<d/\UpM [rb] w h H h_) _ ⟨l.length,l,0,h,rfl,rfl,a.to _ _,nR _,rfl,Q,(by show ai _ l=_;simp[ai,Mq]),S,e⟩ ?_);rintro _ _ w1 ⟨m,z,r,h2,X,rfl,a,hm,i,y,inv,B,e⟩;refine cQ (aa a ac ?_);cases j:(decide ((0:Int)<=((m:Int)-1:Int)))
 .
  have u:=oF j;refine lB 12 j (ah (CG.exit ?_))
  show CG _ _ _ _ _ _ _ _
  refine aa a ac (Dh 29 0 a (fun _ M f_ F=>Fn (sB rb) c (z) (l.length) i oM oM _ _ M (SlO.of_flat (sz:=1) (f:=ar) (d:=0) (b:=rb) (o:=0) (l:=z) (fun _=>rfl) F)) ?_);rintro _ w5 h6 U a rfl;replace e:=e.trans (U.m _);refine lL a dl (lN (kX ?_));have D:m=0:=by omega
  rw[D] at inv
  exact a.retM e [] (.tuple #[qS (sB rb) (tl (z) l.length) c,mV r]) ⟨z,r,by rw[i],i,y,(by simp only[MA,LW,yh,List.take_zero,ai] at inv;exact inv),B,a.own 0⟩
 have u:=oT j;refine lB 12 j (am (cK (cQ (kZ (kQ (lL a IL (lX 21 (sB rb) l.length c 1 ((m:Int)-1) (m-1) rfl ?_)))))));have Z:=y.get (m-1);refine lQ 22 0 z ar 1 0 (m-1) (mV ((z).getD (m-1) 0)) a oM (lL a ac (kd 24 (wL r ((z).getD (m-1) 0) d oM wM wM _ _ a.g) ?_));rintro _ _ zb p ⟨x,I,rfl,K,J,L⟩;replace e:=e.trans (p.m _);replace a:=a.step p;refine lL a [.c,.v (mV x),.v (mV I)] (lX 27 (sB rb) l.length c 1 ((m:Int)-1) (m-1) rfl ?_);refine JV 0 z ar 1 (m-1) x a oM (fun _ pu a=>?_);replace e:=e.put pu (sy.2 rfl) a.g;have za:((z).set (m-1) x).length=l.length:=by rw[Mg];exact i
 replace a:=a.to [⟨rb,38,((z).set (m-1) x).flatMap ar⟩] [];refine lL a ac (lN (kQ (lL a ac (lV 14 (iV (((m-1:Nat):Int)-1)) ?_ (hr:=rS ((((m:Int)-1)-1)) kR ((gK oM oM).trans oM))))));refine lL a ac (lD ?_);intro a_ ka;refine ⟨_,_,?_,⟨m-1,(z).set (m-1) x,I,zb,rfl,rfl,a.to _ _,oM,za,(y.set _ oM),(Dk oM (by rw[show m-1+1=m by omega];exact inv) oM),oM,e⟩,ka.to _ kR⟩
 omega
theorem G2 {u:List Nat}{k:Nat}(hk:2<=k):w3 (u.getD k 0) (u.getD (k-1) 0) (u.getD (k-2) 0)=u.getD k 0*18446744073709551616*18446744073709551616+u.getD (k-1) 0*18446744073709551616+u.getD (k-2) 0:=by
 unfold w3
 rw[HA (u.getD k 0) 18446744073709551616,HA (18446744073709551616*u.getD k 0) 18446744073709551616,HA (u.getD (k-1) 0),Lr]
theorem Hw {b a:Nat}:w2 b a=b*18446744073709551616+a:=by unfold w2;rw[HA]
section
variable {n j G:Nat}{u v:List Nat}
theorem G5 (hn:2<=n)(p:v.length=n)(a:Wd v)(d:Wd u)(i:j+n<u.length)(hR:aA u<18446744073709551616^(j+1)*aA v):u.getD (j+n) 0<=v.getD (n-1) 0:=by
 rcases dS (v.getD (n-1) 0) (u.getD (j+n) 0) with h|h
 ·exfalso
  have e1:=aN 18446744073709551616 (l:=v) (k:=n-1) oM;rw[show n-1+1=v.length by omega,yz] at e1
  have h1:=bM (Dg.take a (n-1));rw[Lu,Lv oM] at h1
  have e2:=aN 18446744073709551616 (l:=u) (k:=j+n) oM;have c:=bP 18446744073709551616 (l:=u) (k:=j+n+1) oM;have f:18446744073709551616^(j+n)*(v.getD (n-1) 0+1)<=18446744073709551616^(j+n)*u.getD (j+n) 0:=LD _ h
  have b:18446744073709551616^(j+1)*aA v<18446744073709551616^(j+1)*(18446744073709551616^(n-1)*(v.getD (n-1) 0+1)):=by
   refine LO ?_ (Nat.pow_pos kD)
   show ai _ v<_
   rw[e1,Lr,LP];omega
  rw[<-Ls,<-LC,show j+1+(n-1)=j+n by omega] at b
  have o:aA u=ai 18446744073709551616 (u.take (j+n))+18446744073709551616^(j+n)*u.getD (j+n) 0+18446744073709551616^(j+n+1)*ai 18446744073709551616 (u.drop (j+n+1)):=by
   show ai _ u=_
   rw[c,e2]
  have e:=My (18446744073709551616^(j+n+1)*ai 18446744073709551616 (u.drop (j+n+1)))
  omega
 ·exact h
theorem AY (hn:2<=n)(i:v.length=n)(c:Wd v)(b:Wd u)(f:j+n<u.length)(a:v.getD (n-1) 0≠0)(hR:aA u<18446744073709551616^(j+1)*aA v)(h:EA (u.getD (j+n) 0) (u.getD (j+n-1) 0) (u.getD (j+n-2) 0) (v.getD (n-1) 0) (v.getD (n-2) 0) G) :
  aA u/(18446744073709551616^j*aA v)<=G/\G<=aA u/(18446744073709551616^j*aA v)+1:=by
 obtain ⟨h1,d,e⟩:=h;rw[G2 oM,Hw] at h1 d
 exact nZ kD hn i c b f a hR h1 d e
theorem AR (hn:2<=n)(d:v.length=n)(a:Wd v)(c:v.getD (n-1) 0≠0):18446744073709551616^(n-1)<=aA v/\aA v<18446744073709551616^n:=by
 have b:=bM a;rw[d] at b
 refine ⟨?_,b⟩;have e1:=aN 18446744073709551616 (l:=v) (k:=n-1) oM;rw[show n-1+1=v.length by omega,yz] at e1
 have e:18446744073709551616^(n-1)*1<=18446744073709551616^(n-1)*v.getD (n-1) 0:=LD _ oM
 show _<=ai _ v
 omega
theorem Ao (hn:2<=n)(c:v.length=n)(a:Wd v)(hR:aA u<18446744073709551616^(j+1)*aA v):aA u<18446744073709551616^(j+n+1):=by
 have b:=bM a;rw[c] at b
 have h1:18446744073709551616^(j+1)*aA v<18446744073709551616^(j+1)*18446744073709551616^n:=LO b (Nat.pow_pos kD);rw[<-LC,show j+1+n=j+n+1 by omega] at h1
 omega
theorem C3 {u1:List Nat}(hn:2<=n)(i:v.length=n)(c:Wd v)(f:Wd u)(h:Wd u1)(y:j+n<u.length)(a:v.getD (n-1) 0≠0)(hR:aA u<18446744073709551616^(j+1)*aA v)
  (p:aA u/(18446744073709551616^j*aA v)<=G/\G<=aA u/(18446744073709551616^j*aA v)+1)(d:Above u1 u (j+n+1))(e:aA u1+18446744073709551616^j*(G*aA v)=aA u+18446744073709551616^(j+n+1)*0) :
  aA u1<18446744073709551616^j*aA v/\aA u1+18446744073709551616^j*(G*aA v)=aA u:=by
 obtain ⟨o,l⟩:=AR hn i c a;have x:=fr (b:=18446744073709551616) kD d h f (by rw[d.1];omega) (Ao hn i c hR);have:=(fR (b:=18446744073709551616) kD hn o l hR x e (My 1) p).1 rfl;rw[Lw,wj] at e
 exact ⟨this.2.2.1,e⟩
theorem Hy {b a W K T c:Nat}(e2:a+T*c=b+W)(i:b+W=K+T)(j:a<T)(f:K<W)(l:W<=T):a=K:=by
 have d:c=1:=by
  rcases Nat.lt_trichotomy c 1 with h|h|h
  ·have:c=0:=by omega
   subst this;omega
  ·exact h
  ·have e:T*2<=T*c:=LD _ h
   omega
 subst d
 omega
theorem GO {u1 d:List Nat}{c:Nat}(hn:2<=n)(C:v.length=n)(p:Wd v)(f:Wd u)(x:Wd u1)(z:Wd d)(O:j+n<u.length)(l:v.getD (n-1) 0≠0)(hR:aA u<18446744073709551616^(j+1)*aA v)
  (M:aA u/(18446744073709551616^j*aA v)<=G/\G<=aA u/(18446744073709551616^j*aA v)+1)(h:Above u1 u (j+n+1))(a:Above d u (j+n+1))(e:aA u1+18446744073709551616^j*(G*aA v)=aA u+18446744073709551616^(j+n+1)*1)
  (e2:aA d+18446744073709551616^(j+n+1)*c=aA u1+18446744073709551616^j*aA v) :
  aA d<18446744073709551616^j*aA v/\aA d+18446744073709551616^j*((G-1)*aA v)=aA u/\0<G:=by
 obtain ⟨L,D⟩:=AR hn C p l;have i:=Ao hn C p hR;have J:=fr (b:=18446744073709551616) kD h x f (by rw[h.1];omega) i;have y:=fr (b:=18446744073709551616) kD a z f (by rw[a.1];omega) i;obtain ⟨H,I,B,K⟩:=(fR (b:=18446744073709551616) kD hn L D hR J e oM M).2 rfl
 have o:18446744073709551616^j*aA v<=18446744073709551616^(j+n+1):=by
  have h1:18446744073709551616^j*aA v<=18446744073709551616^j*18446744073709551616^n:=LD _ (Nat.le_of_lt D);rw[<-LC] at h1
  have F:(18446744073709551616:Nat)^(j+n)<=18446744073709551616^(j+n+1):=LA kD oM;exact ep h1 F
 have hk:aA d=aA u-18446744073709551616^j*((G-1)*aA v):=Hy e2 I y B o;exact ⟨by rw[hk];exact B,by rw[hk];exact Nat.sub_add_cancel K,by rw[H];exact MB _⟩
theorem Hv {u1:List Nat}(hn:2<=n)(i:v.length=n)(c:Wd v)(f:Wd u)(h:Wd u1)(z:j+n<u.length)(a:v.getD (n-1) 0≠0)(hR:aA u<18446744073709551616^(j+1)*aA v)
  (x:aA u/(18446744073709551616^j*aA v)<=G/\G<=aA u/(18446744073709551616^j*aA v)+1)(d:Above u1 u (j+n+1))(e:aA u1+18446744073709551616^j*(G*aA v)=aA u+18446744073709551616^(j+n+1)*1):0<G:=by
 obtain ⟨o,l⟩:=AR hn i c a;have y:=fr (b:=18446744073709551616) kD d h f (by rw[d.1];omega) (Ao hn i c hR);obtain ⟨p,_⟩:=(fR (b:=18446744073709551616) kD hn o l hR y e (Nat.le_refl 1) x).2 rfl;rw[p];exact MB _
theorem CK (hn:n<=u.length)(h:v.length=n)(b:Wd v)(a:Wd u)(hR:aA u<aA v):aA (u.take n)=aA u:=by
 have c:=bM b;rw[h] at c
 have d:ai 18446744073709551616 u<18446744073709551616^(n+0):=Nat.lt_trans hR c;have hz:=(iO 18446744073709551616 (l:=u) (k:=n) (m:=0) oM kD a d).2;have e:=bP 18446744073709551616 (l:=u) (k:=n) hn;have f:ai 18446744073709551616 (u.drop n)=0:=ij _ (fun i=>by rw[bE];exact hz _ oM);rw[f,Lw,wj] at e
 exact e.symm
end
theorem AA {q:List Nat}{j Q X V R R':Nat}(b:j<q.length)(h0:q.getD j 0=0)(inv:X=aA q*V+R)(e:R'+18446744073709551616^j*(Q*V)=R):X=aA (q.set j Q)*V+R':=by
 have a:=cI 18446744073709551616 (l:=q) (k:=j) Q b;rw[h0,Lw,wj] at a
 have c:aA (q.set j Q)=aA q+18446744073709551616^j*Q:=a;rw[c,LS,inv,<-e,Ls];omega
theorem Fm {X V R q a b s:Nat}(c:V=b*2^s)(f:X=a*2^s)(inv:X=q*V+R)(hR:R<V):q=a/b/\R/2^s=a%b:=by
 have l:=Lz s;have i:0<V:=by omega
 have j:0<b:=by
  rcases Au b with h|h
  ·rw[h,y5] at c;omega
  ·exact h
 have e1:a*2^s=V*q+R:=by rw[<-f,inv,HA]
 obtain ⟨h1,d⟩:=ku (A:=a) (y:=b) (Q:=q) c e1 hR;have e:a=R/2^s+b*q:=by omega
 constructor
 ·rw[e,Nat.add_mul_div_left _ _ j,G3 d,y8]
 ·rw[e,Nat.add_mul_mod_self_left,z1 d]
theorem xN {a s:Nat}(c:s<=64)(h:a*2^s<18446744073709551616):a*2^s+2^s<=18446744073709551616:=by
 have e:=Bk c;rw[e] at h ⊢
 have h1:a<2^(64-s):=Nat.lt_of_mul_lt_mul_right h;have b:(a+1)*2^s<=2^(64-s)*2^s:=y9 _ h1;rw[LS,LW] at b
 exact b
theorem wJ {x y:List Nat}{s:Nat}(c:Wd x)(h:Wd y)(hn:1<=y.length)(b:y.getD (y.length-1) 0≠0)(f:y.length<=x.length):aA x*2^s<18446744073709551616^(x.length-y.length+1)*(aA y*2^s):=by
 have e1:=aN 18446744073709551616 (l:=y) (k:=y.length-1) oM;rw[show y.length-1+1=y.length by omega,yz] at e1
 have i:18446744073709551616^(y.length-1)*1<=18446744073709551616^(y.length-1)*y.getD (y.length-1) 0:=LD _ oM;have e:18446744073709551616^(y.length-1)<=aA y:=by show _<=ai _ y;omega
 have a:18446744073709551616^(x.length-y.length+1)*18446744073709551616^(y.length-1)<=18446744073709551616^(x.length-y.length+1)*aA y:=LD _ e;rw[<-LC,show x.length-y.length+1+(y.length-1)=x.length by omega] at a
 have d:aA x<18446744073709551616^x.length:=bM c;rw[<-Ls];exact Mb (e4 d a) (Lz s)
theorem Gh (A:Z9)(c:Nat)(x:List Nat)(m:Nat)(e:x.length=m)(d:Wd x)(a:x.length<=1000000000)(n:Nat)(hn:n<=1000000000)(w:World)(h:Hp)(g:G w h)(b:SlO 1 ar 0 h A x):CR 190 #[.slice A m c,nV n] w h (fun v h1=>DL h1 v (x.length-n/64) (fun z=>aA z=aA x/2^n)):=by
 subst e;exact Jb A c x d a n hn w h g b
theorem HB {y z:List Nat}{s:Nat}(a:s<=64)(j:Wd y)(hz:Wd z)(f:aA z=aA y*2^s)(hn:1<=y.length)(x:y.getD (y.length-1) 0*2^s<18446744073709551616)(h:y.length<=z.length):aA (z.take y.length)=aA y*2^s:=by
 have d:aA z<18446744073709551616^(y.length+0):=by
  rw[f,wj];have e1:=aN 18446744073709551616 (l:=y) (k:=y.length-1) oM;rw[show y.length-1+1=y.length by omega,yz] at e1
  have h1:=bM (Dg.take j (y.length-1));rw[Lu,Lv oM] at h1
  have p:aA y<18446744073709551616^(y.length-1)*(y.getD (y.length-1) 0+1):=by
   show ai _ y<_
   rw[e1,Lr,LP];omega
  have u:aA y*2^s<18446744073709551616^(y.length-1)*(y.getD (y.length-1) 0+1)*2^s:=Mb p (Lz s)
  have b:18446744073709551616^(y.length-1)*(y.getD (y.length-1) 0+1)*2^s<=18446744073709551616^y.length:=by
   have o:(18446744073709551616:Nat)^y.length=18446744073709551616^(y.length-1)*18446744073709551616:=by rw[<-Hj];congr 1;omega
   rw[o,Ls];refine LD _ ?_;rw[LS,LW];exact xN a x
  exact e4 u b
 have c:=(iO 18446744073709551616 (l:=z) (k:=y.length) (m:=0) oM kD hz d).2;have e:=bP 18446744073709551616 (l:=z) (k:=y.length) oM;have b:ai 18446744073709551616 (z.drop y.length)=0:=ij _ (fun i=>by rw[bE];exact c _ oM);rw[b,Lw,wj] at e
 rw[<-f];exact e.symm
theorem DT {y v:List Nat}{s:Nat}(e:Wd y)(hv:Wd v)(c:v.length=y.length)(f:aA v=aA y*2^s)(hn:1<=y.length)(h:9223372036854775808<=y.getD (y.length-1) 0*2^s):v.getD (v.length-1) 0≠0:=by
 intro h0;have e1:=aN 18446744073709551616 (l:=v) (k:=v.length-1) oM;rw[show v.length-1+1=v.length by omega,yz,h0,Lw,wj] at e1
 have h1:=bM (Dg.take hv (v.length-1));rw[Lu,Lv oM] at h1
 have e2:=aN 18446744073709551616 (l:=y) (k:=y.length-1) oM;rw[show y.length-1+1=y.length by omega,yz] at e2
 have a:18446744073709551616^(y.length-1)*y.getD (y.length-1) 0<=aA y:=by show _<=ai _ y;omega
 have b:18446744073709551616^(y.length-1)*y.getD (y.length-1) 0*2^s<=aA y*2^s:=y9 _ a;rw[Ls] at b
 have i:18446744073709551616^(y.length-1)*1<=18446744073709551616^(y.length-1)*(y.getD (y.length-1) 0*2^s):=LD _ oM
 have d:aA v<18446744073709551616^(y.length-1):=by
  show ai _ v<_
  rw[e1,<-c];exact h1
 omega
theorem Gd (A:Z9)(c:Nat)(x:List Nat)(D:Z9)(d:Nat)(y:List Nat)(hx:Wd x)(hy:Wd y)(hlx:x.length<=1000000000)(hny:2<=y.length)(hxy:y.length<=x.length)(bz:y.getD (y.length-1) 0≠0)(w:World)(h:Hp)(g:G w h)(hA:SlO 1 ar 0 h A x)(hD:SlO 1 ar 0 h D y):CR 162 #[.slice A x.length c,.slice D y.length d] w h (fun v h1=>∃ Aq cq,∃ q:List Nat,∃ Ar cr,∃ r:List Nat,v=.tuple #[.slice Aq q.length cq,.slice Ar r.length cr]/\q.length<=cq/\r.length<=cr/\Wd q/\Wd r/\aA q=aA x/aA y/\aA r=aA x%aA y/\q.length<=x.length/\r.length<=y.length/\SlO 1 ar 0 h1 Aq q/\SlO 1 ar 0 h1 Ar r):=by
 have e:=(((sS g).aS hA).aS hD);refine go Tryz.func162 [(0,qS A x.length c),(1,qS D y.length d)] rfl (aa e aD (aG (lL e [.c,.v (nV y.length),.c] (aG (lL e aD (bp 25 ((y.length:Nat)-1) (y.length-1) ?_))))));refine lX 26 D y.length d 1 (y.length-1:Nat) (y.length-1) ((e.f.1).ok oM) (lH 27 (mV (y.getD (y.length-1) 0)) e ((e.f.1).el (y.length-1) oM) ?_);have hyt:=hy.get (y.length-1);refine aq 28 e (Fh (y.getD (y.length-1) 0) wM _ _ e.g) (fun w1 h2 e=>lL e ac (aG (lL e aD (lC 31 e (wN D d y hy oM (64-nb (y.getD (y.length-1) 0)) oM _ _ e.g e.f.1) ?_))));rintro _ w3 h4 e ⟨V,vc,zv,rfl,hvc,dm,hWv,hVv,hFv⟩;replace e:=e.aS hFv;refine lL e ac (lT 33 V zv.length vc 1 (y.length:Nat) y.length ?_);obtain ⟨p,hvl_⟩:∃ p,p=zv.take y.length:=⟨_,rfl⟩;have bn:p.length=y.length:=by rw[hvl_,Lu];omega
 have B:Wd p:=by rw[hvl_];exact Dg.take hWv _
 have dc:=(cB (n:=y.getD (y.length-1) 0) oM).2.2;have bd:=uR (y:=y.getD (y.length-1) 0) oM (hy.get _);have Y:aA p=aA y*2^(64-nb (y.getD (y.length-1) 0)):=by rw[hvl_];exact HB oM hy hWv hVv oM bd.2 oM
 have O:p.getD (p.length-1) 0≠0:=DT hy B bn Y oM bd.1;replace e:=e.aS ((e.f.1).take y.length);rw[<-hvl_] at e
 refine lL e ac (aG (lL e [.c,.v (nV x.length)] (bp 36 ((x.length:Nat)+1) (x.length+1) ?_)));refine lK 37 38 (x.length+1) 1 8 (uV 0) ar 0 e (fun u w6 h7 e=>?_);have hl8:(zY (x.length+1) 0).length=(x.length+1):=by simp
 refine lL e ac (aG (lL e dl (lC 41 e (wN A c x hx hlx (64-nb (y.getD (y.length-1) 0)) oM _ _ e.g e.f.r.2.1) ?_)));rintro _ w9 _ e ⟨Uo,uc,zu,rfl,huc,cj,bt,hVu,hFu⟩;replace e:=e.aS hFu;have bq:zu.length=x.length+1:=by omega
 refine Lb 42 0 (.tmp 38) (.tmp 41) 204 38 ar 0 Uo zu (x.length+1) zu.length uc (x.length+1) e e.f.1 rfl oM oM (by show ((zY (x.length+1) 0).flatMap ar).length=_;rw[bX (sz:=1) (fun _=>rfl)];simp) (fun _ e=>?_);replace e:=e.to [⟨u,38,(zu).flatMap ar⟩] [];refine aG (lL e [.c,.v (nV x.length),.c] (bp 46 ((x.length:Nat)-(y.length:Nat)) (x.length-y.length) ?_));refine bp 47 ((x.length-y.length:Nat)+1) ((x.length-y.length)+1) (lK 48 38 ((x.length-y.length)+1) 1 8 (uV 0) ar 0 e (fun M _ zD e=>?_));have zt:(zY ((x.length-y.length)+1) 0).length=((x.length-y.length)+1):=by simp
 refine lL e ac (ag (aa e [.c,.v (nV x.length),.c] (lV 52 (iV (((x.length-y.length+1:Nat):Int)-1)) ?_ (hr:=rS (((x.length:Nat)-(y.length:Nat))) kR ((gK oM oM).trans oM)))));refine lL e ac (lN (bH [(4,qS (sB M) ((x.length-y.length)+1) ((x.length-y.length)+1)),(5,sZ),(6,nV y.length),(7,nV (64-nb (y.getD (y.length-1) 0))),(8,qS V y.length vc),(9,qS (sB u) (x.length+1) (x.length+1)),(10,iV (((x.length-y.length+1:Nat):Int)-1))] ?_));refine kZ ?_;refine bH _ (CG.loop (fun Z Γ w_=>∃ (m:Nat)(H:List Nat)(K:List Nat)(C:Hp),Z=m/\Γ=[(4,qS (sB M) ((x.length-y.length)+1) ((x.length-y.length)+1)),(5,sZ),(6,nV y.length),(7,nV (64-nb (y.getD (y.length-1) 0))),(8,qS V y.length vc),(9,qS (sB u) (x.length+1) (x.length+1)),(10,iV ((m:Int)-1))]/\SS w h w_ C [⟨M,38,(K).flatMap ar⟩,⟨u,38,(H).flatMap ar⟩] [] [fun C=>SlO 1 ar 0 C Uo zu,fun C=>SlO 1 ar 0 C V p,fun C=>SlO 1 ar 0 C V zv,fun C=>SlO 1 ar 0 C D y,fun C=>SlO 1 ar 0 C A x]/\m<=x.length-y.length+1/\H.length=x.length+1/\Wd H/\K.length=x.length-y.length+1/\Wd K/\aA H<18446744073709551616^m*aA p/\aA zu=aA K*aA p+aA H/\(∀ k,k<m->K.getD k 0=0)) _ ⟨x.length-y.length+1,zu,zY ((x.length-y.length)+1) 0,zD,rfl,rfl,e.to _ _,nR _,bq,bt,zt,Wd.rep _,(by rw[hVu,Y];exact wJ hx hy oM bz oM),(by show _=ai _ _*_+_;rw[dN,y5,y8]),fun k _=>eg⟩ ?_);rintro _ _ _ ⟨m,H,K,_,cx,rfl,e,hm,hul,J,hql,hWq,hR,inv,hq0⟩;refine cQ (aa e ac ?_);cases zd:(decide ((0:Int)<=((m:Int)-1:Int)))
 .
  have zl:=oF zd;refine lB 54 zd (ah (CG.exit ?_))
  show CG _ _ _ _ _ _ _ _
  refine ax ?_;have hm0:m=0:=by omega
  obtain ⟨_,e,b0,dn,c7⟩:=e.pub 0;replace e:=(e.to [⟨u,38,(H).flatMap ar⟩] []).aS (SlO.of_flat (sz:=1) (f:=ar) (d:=0) (b:=M) (o:=0) (l:=K) (fun _=>rfl) b0);obtain ⟨_,e,br,cm,c8⟩:=e.pub 0;replace e:=(e.to [] []).aS (SlO.of_flat (sz:=1) (f:=ar) (d:=0) (b:=u) (o:=0) (l:=H) (fun _=>rfl) br);refine lL e dl (lT 190 (sB u) (x.length+1) (x.length+1) 1 (y.length:Nat) y.length ?_);refine lL e ac (lC 192 e (Gh (sB u) (x.length+1) (H.take y.length) y.length (by rw[Lu];omega) (Dg.take J _) (by rw[Lu];omega) (64-nb (y.getD (y.length-1) 0)) oM _ _ e.g ((e.f.1).take y.length)) ?_);rintro _ _ _ e ⟨Ar,cr,zr,rfl,hcr,hlr,hWr,hVr,hFr⟩;replace e:=e.aS hFr;refine lL e aD (lN (kX ?_));rw[hm0,MA,LW] at hR
  obtain ⟨hQ,hRm⟩:=Fm Y hVu inv hR;rw[CK (v:=p) oM oM B J hR] at hVr
  exact e.ret [] (.tuple #[qS (sB M) ((x.length-y.length)+1) ((x.length-y.length)+1),qS Ar zr.length cr]) (⟨_,_,K,Ar,cr,zr,by rw[hql],by omega,hcr,hWq,hWr,hQ,hVr.trans hRm,by omega,(by have:=List.length_take_le y.length H;omega),e.f.r.1,e.f.1⟩)
 have zl:=oT zd;refine lB 54 zd (am (cK (cQ (kZ (cQ (cR 31 [] mixed e ao ?_))))));have hm1:0<m:=by omega
 have hn2:2<=p.length:=by omega
 have W:m-1+p.length<H.length:=by omega
 have hR1:aA H<18446744073709551616^(m-1+1)*aA p:=by rw[show m-1+1=m by omega];exact hR
 have hle:=G5 (n:=p.length) (j:=m-1) hn2 rfl B J W hR1;refine eV 0 57 (qS (sB u) (x.length+1) (x.length+1)) (eV 1 58 (iV ((m:Int)-1)) (eV 2 59 (nV y.length) (jG 3 60 (((m:Int)-1)+(y.length:Nat)) (m-1+p.length) (eX 4 61 (sB u) (x.length+1) (x.length+1) 1 (m-1+p.length:Nat) (m-1+p.length) rfl (eQ 5 62 1 H ar 1 0 (m-1+p.length) (mV ((H).getD (m-1+p.length) 0)) e oM (eV 6 63 (qS (sB u) (x.length+1) (x.length+1)) (eV 7 64 (iV ((m:Int)-1)) (eV 8 65 (nV y.length) (jG 9 66 (((m:Int)-1)+(y.length:Nat)) (m-1+p.length) (jG 10 67 ((m-1+p.length:Nat)-1) (m-1+p.length-1) (eX 11 68 (sB u) (x.length+1) (x.length+1) 1 (m-1+p.length-1:Nat) (m-1+p.length-1) rfl (eQ 12 69 1 H ar 1 0 (m-1+p.length-1) (mV ((H).getD (m-1+p.length-1) 0)) e oM (eV 13 70 (qS (sB u) (x.length+1) (x.length+1)) (eV 14 71 (iV ((m:Int)-1)) (eV 15 72 (nV y.length) (jG 16 73 (((m:Int)-1)+(y.length:Nat)) (m-1+p.length) (jG 17 74 ((m-1+p.length:Nat)-2) (m-1+p.length-2) (eX 18 75 (sB u) (x.length+1) (x.length+1) 1 (m-1+p.length-2:Nat) (m-1+p.length-2) rfl (eQ 19 76 1 H ar 1 0 (m-1+p.length-2) (mV ((H).getD (m-1+p.length-2) 0)) e oM (eV 20 77 (qS V y.length vc) (eV 21 78 (nV y.length) (jG 22 79 ((y.length:Nat)-1) (p.length-1) (eX 23 80 V y.length vc 1 (p.length-1:Nat) (p.length-1) ((e.f.2.1).ok oM) (eH 24 81 (mV (p.getD (p.length-1) 0)) e ((e.f.2.1).el (p.length-1) oM) (eV 25 82 (qS V y.length vc) (eV 26 83 (nV y.length) (jG 27 84 ((y.length:Nat)-2) (p.length-2) (eX 28 85 V y.length vc 1 (p.length-2:Nat) (p.length-2) ((e.f.2.1).ok oM) (eH 29 86 (mV (p.getD (p.length-2) 0)) e ((e.f.2.1).el (p.length-2) oM) (eC 30 87 e (fun _ _ e=>FJ (((H).getD (m-1+p.length) 0)) (((H).getD (m-1+p.length-1) 0)) (((H).getD (m-1+p.length-2) 0)) ((p.getD (p.length-1) 0)) ((p.getD (p.length-2) 0)) (J.get _) (J.get _) (J.get _) (B.get _) (B.get _) hle oM _ _ e.g) ?_))))))))))))))))))))))))))))));rintro _ _ _ _ _ e ⟨g,rfl,hG0⟩;have hG:=AY (n:=p.length) (j:=m-1) hn2 rfl B J W O hR1 hG0;have hgb:=hG0.2.2;refine bU e (fun _ zE e=>tV 31 11 (mV g) (tN (bH [(4,qS (sB M) ((x.length-y.length)+1) ((x.length-y.length)+1)),(5,sZ),(6,nV y.length),(7,nV (64-nb (y.getD (y.length-1) 0))),(8,qS V y.length vc),(9,qS (sB u) (x.length+1) (x.length+1)),(10,iV ((m:Int)-1)),(11,mV g)] ?_)));refine aa e aD (ag (aa e aD (aZ ?_)));refine bH _ (CG.loop (fun Z Γ w_=>∃ (i:Nat)(u1:List Nat)(cy:Nat)(bo:Nat)(C:Hp),Z=y.length-i/\Γ=[(4,qS (sB M) ((x.length-y.length)+1) ((x.length-y.length)+1)),(5,sZ),(6,nV y.length),(7,nV (64-nb (y.getD (y.length-1) 0))),(8,qS V y.length vc),(9,qS (sB u) (x.length+1) (x.length+1)),(10,iV ((m:Int)-1)),(11,mV g),(88,nV y.length),(89,nV i),(12,mV cy),(13,mV bo)]/\SS w h w_ C [⟨M,38,(K).flatMap ar⟩,⟨u,38,(u1).flatMap ar⟩] [] [fun C=>SlO 1 ar 0 C Uo zu,fun C=>SlO 1 ar 0 C V p,fun C=>SlO 1 ar 0 C V zv,fun C=>SlO 1 ar 0 C D y,fun C=>SlO 1 ar 0 C A x]/\i<=y.length/\u1.length=x.length+1/\Wd u1/\cy<18446744073709551616/\bo<=1/\ai 18446744073709551616 u1+18446744073709551616^(m-1)*(g*ai 18446744073709551616 (p.take i))=aA H+18446744073709551616^(m-1+i)*(cy+bo)/\Above u1 H (m-1+p.length+1)) _ ⟨0,H,0,0,zE,rfl,rfl,e.to _ _,My _,hul,J,oM,oM,(by show ai _ H+_=ai _ H+_;simp[ai]),Above.refl _ _⟩ ?_);rintro _ _ _ ⟨i,u1,cy,bo,zq,c5,rfl,e,hi,hu1,hW1,hcy,hbo,X,bk⟩;have ch:=hW1.get (m-1+i);have hvk:=B.get i;refine ax ?_;cases ze:(decide ((i:Int)<(y.length:Int)))
 .
  have zm:=oF ze;refine lB 90 ze (ag (dD (CG.exit ?_)))
  show CG _ _ _ _ _ _ _ _
  refine ax ?_;rw[show i=p.length by omega] at X
  have c3:=hW1.get (m-1+p.length);refine lL e dl (bp 132 (((m:Int)-1)+(y.length:Nat)) (m-1+p.length) ?_);refine lL e dl (bp 136 (((m:Int)-1)+(y.length:Nat)) (m-1+p.length) ?_);refine lX 137 (sB u) (x.length+1) (x.length+1) 1 (m-1+p.length:Nat) (m-1+p.length) rfl (lQ 138 1 u1 ar 1 0 (m-1+p.length) (mV ((u1).getD (m-1+p.length) 0)) e oM (lL e aD ?_));obtain ⟨I,zc,cz,cw,cv,b1⟩:=jw ((u1).getD (m-1+p.length) 0) cy bo wM wM oM;refine lV 141 (.tuple #[mV I,mV zc]) ?_ (hr:=ef kR (b1 _));refine lL e [.c,.v (mV I),.v (mV zc)] (lX 144 (sB u) (x.length+1) (x.length+1) 1 (m-1+p.length:Nat) (m-1+p.length) rfl ?_);refine lW 1 u1 ar 1 (m-1+p.length) I e oM (fun _ e=>?_);have zk:((u1).set (m-1+p.length) I).length=(x.length+1):=by rw[Mg];exact hu1
  replace e:=e.to [⟨M,38,(K).flatMap ar⟩,⟨u,38,((u1).set (m-1+p.length) I).flatMap ar⟩] [];refine lL e ac (ag (ax ?_));have hE:=xt oM X (s:=I) (bo':=zc) oM;have hW4:Wd ((u1).set (m-1+p.length) I):=hW1.set _ oM;have S:=bk.set (x:=I) (show m-1+p.length<m-1+p.length+1 by omega) oM;refine lL e ac ?_;cases zf:((zc:Int) != (0:Int))
  .
   have zn:=aJ zf;refine lB 146 zf (ah (cK (kQ ?_)));have hD_:=C3 hn2 rfl B J hW4 W O hR1 hG S (by rw[show zc=0 by omega] at hE;exact hE);have hDw:=hW4;have hDg:=hgb;have hDu:=hD_.1;have hDe:=hD_.2;refine lL e dl (lX 186 (sB M) ((x.length-y.length)+1) ((x.length-y.length)+1) 1 ((m:Int)-1) (m-1) rfl ?_);refine lW 0 K ar 1 (m-1) g e oM (fun _ e=>?_);have zw:((K).set (m-1) g).length=((x.length-y.length)+1):=by rw[Mg];exact hql
   replace e:=e.to [⟨M,38,((K).set (m-1) g).flatMap ar⟩,⟨u,38,((u1).set (m-1+p.length) I).flatMap ar⟩] [];refine lN (kQ (lL e ac (lV 56 (iV (((m-1:Nat):Int)-1)) ?_ (hr:=rS ((((m:Int)-1)-1)) kR ((gK oM oM).trans oM)))));refine lL e ac (lD ?_);intro a_ ka;refine ⟨_,_,?_,⟨m-1,(u1).set (m-1+p.length) I,(K).set (m-1) g,zq,rfl,rfl,e.to _ _,oM,zk,hDw,zw,(hWq.set _ hDg),hDu,(AA oM (hq0 _ oM) inv hDe),(fun k hk=>by rw[bC oM,if_neg oM];exact hq0 k oM)⟩,ka.to _ kR⟩
   omega
  have zn:=aI zf;refine lB 146 zf (am (aa e ac ?_));have hE1:=hE;rw[show zc=1 by omega] at hE1
  have hgp:=Hv hn2 rfl B J hW4 W O hR1 hG S hE1;refine lV 148 (mV (g-1)) ?_ (hr:=rU (((g:Int)-(1:Int))) kR (fA g 1 oM oM));refine lL e ac (aG (lL e ac (ag (aa e aD (aZ ?_)))));refine bH _ (CG.loop (fun Z Γ w_=>∃ (z:Nat)(F:List Nat)(c2:Nat)(C:Hp),Z=y.length-z/\Γ=[(4,qS (sB M) ((x.length-y.length)+1) ((x.length-y.length)+1)),(5,sZ),(6,nV y.length),(7,nV (64-nb (y.getD (y.length-1) 0))),(8,qS V y.length vc),(9,qS (sB u) (x.length+1) (x.length+1)),(10,iV ((m:Int)-1)),(11,mV (g-1)),(149,nV y.length),(150,nV z),(19,mV c2)]/\SS w h w_ C [⟨M,38,(K).flatMap ar⟩,⟨u,38,(F).flatMap ar⟩] [] [fun C=>SlO 1 ar 0 C Uo zu,fun C=>SlO 1 ar 0 C V p,fun C=>SlO 1 ar 0 C V zv,fun C=>SlO 1 ar 0 C D y,fun C=>SlO 1 ar 0 C A x]/\z<=y.length/\F.length=x.length+1/\Wd F/\c2<=1/\ai 18446744073709551616 F+18446744073709551616^(m-1+z)*c2=ai 18446744073709551616 ((u1).set (m-1+p.length) I)+18446744073709551616^(m-1)*ai 18446744073709551616 (p.take z)/\Above F H (m-1+p.length+1)) _ ⟨0,(u1).set (m-1+p.length) I,0,zq,rfl,rfl,e.to _ _,My _,zk,hW4,oM,(by simp[ai]),S⟩ ?_);rintro _ _ _ ⟨z,F,c2,zG,c6,rfl,e,hi2,hu2,hW2,hc2,bb,bf⟩;have b2:=hW2.get (m-1+z);have dv:=B.get z;refine ax ?_;cases zg:(decide ((z:Int)<(y.length:Int)))
  .
   have zo:=oF zg;refine lB 151 zg (ag (dD (CG.exit ?_)))
   show CG _ _ _ _ _ _ _ _
   refine kQ (lL e dl (bp 177 (((m:Int)-1)+(y.length:Nat)) (m-1+p.length) ?_));refine lX 178 (sB u) (x.length+1) (x.length+1) 1 (m-1+p.length:Nat) (m-1+p.length) rfl (lQ 179 1 F ar 1 0 (m-1+p.length) (mV ((F).getD (m-1+p.length) 0)) e oM (lL e ac (lV 181 (mV ((((F).getD (m-1+p.length) 0)+c2)%18446744073709551616)) ?_ (hr:=rU (((((F).getD (m-1+p.length) 0:Nat):Int)+(c2:Int))) kR (xg ((F).getD (m-1+p.length) 0) c2)))));refine lX 182 (sB u) (x.length+1) (x.length+1) 1 (m-1+p.length:Nat) (m-1+p.length) rfl (lW 1 F ar 1 (m-1+p.length) ((((F).getD (m-1+p.length) 0)+c2)%18446744073709551616:Nat) e oM (fun _ e=>?_));have zx:((F).set (m-1+p.length) ((((F).getD (m-1+p.length) 0)+c2)%18446744073709551616:Nat)).length=(x.length+1):=by rw[Mg];exact hu2
   replace e:=e.to [⟨M,38,(K).flatMap ar⟩,⟨u,38,((F).set (m-1+p.length) ((((F).getD (m-1+p.length) 0)+c2)%18446744073709551616:Nat)).flatMap ar⟩] [];refine lN (kQ ?_);have bx:z=p.length:=by omega
   rw[bx] at bb
   have b2:=hW2.get (m-1+p.length);have hE3:=A3 (s:=(F.getD (m-1+p.length) 0+c2)%18446744073709551616) (c':=(F.getD (m-1+p.length) 0+c2)/18446744073709551616) oM bb (Nat.mod_add_div _ _);have hDw:Wd ((F).set (m-1+p.length) ((((F).getD (m-1+p.length) 0)+c2)%18446744073709551616:Nat)):=hW2.set _ (z2 _ kD);obtain ⟨hDu,hDe,hDp⟩:=GO hn2 rfl B J hW4 hDw W O hR1 hG S (bf.set oM oM) hE1 hE3;have hDg:g-1<18446744073709551616:=by omega
   refine lL e dl (lX 186 (sB M) ((x.length-y.length)+1) ((x.length-y.length)+1) 1 ((m:Int)-1) (m-1) rfl ?_);refine lW 0 K ar 1 (m-1) (g-1) e oM (fun _ e=>?_);have zA:((K).set (m-1) (g-1)).length=((x.length-y.length)+1):=by rw[Mg];exact hql
   replace e:=e.to [⟨M,38,((K).set (m-1) (g-1)).flatMap ar⟩,⟨u,38,((F).set (m-1+p.length) ((((F).getD (m-1+p.length) 0)+c2)%18446744073709551616:Nat)).flatMap ar⟩] [];refine lN (kQ (lL e ac (lV 56 (iV (((m-1:Nat):Int)-1)) ?_ (hr:=rS ((((m:Int)-1)-1)) kR ((gK oM oM).trans oM)))));refine lL e ac (lD ?_);intro a_ ka;refine ⟨_,_,?_,⟨m-1,(F).set (m-1+p.length) ((((F).getD (m-1+p.length) 0)+c2)%18446744073709551616:Nat),(K).set (m-1) (g-1),zG,rfl,rfl,e.to _ _,oM,zx,hDw,zA,(hWq.set _ hDg),hDu,(AA oM (hq0 _ oM) inv hDe),(fun k hk=>by rw[bC oM,if_neg oM];exact hq0 k oM)⟩,ka.to _ kR⟩
   omega
  have zo:=oT zg;refine lB 151 zg (ag (ct (cK (cQ (kZ (aa e aD (lN (cR 19 [] mixed e ao ?_))))))));refine eV 0 154 (qS (sB u) (x.length+1) (x.length+1)) (eV 1 155 (iV ((m:Int)-1)) (eV 2 156 (nV z) (jG 3 157 (((m:Int)-1)+(z:Nat)) (m-1+z) (eV 4 158 (qS (sB u) (x.length+1) (x.length+1)) (eV 5 159 (iV ((m:Int)-1)) (eV 6 160 (nV z) (jG 7 161 (((m:Int)-1)+(z:Nat)) (m-1+z) (eX 8 162 (sB u) (x.length+1) (x.length+1) 1 (m-1+z:Nat) (m-1+z) rfl (eQ 9 163 1 F ar 1 0 (m-1+z) (mV ((F).getD (m-1+z) 0)) e oM (eV 10 164 (qS V y.length vc) (eV 11 165 (nV z) (eX 12 166 V y.length vc 1 (z:Nat) z ((e.f.2.1).ok oM) (eH 13 167 (mV (p.getD z 0)) e ((e.f.2.1).el z oM) (eV 14 168 (mV c2) ?_))))))))))))));obtain ⟨Q,zj,ds,cp,c4,b3⟩:=fa ((F).getD (m-1+z) 0) (p.getD z 0) c2 wM wM oM;refine eV 15 169 (.tuple #[mV Q,mV zj]) ?_ (hv:=fun _=>ef kR (b3 _));refine eV 16 153 (.tuple #[mV Q,mV zj]) (eV 17 170 (mV Q) (eV 18 171 (mV zj) (bU e (fun _ zH e=>tX 19 172 (sB u) (x.length+1) (x.length+1) 1 (m-1+z:Nat) (m-1+z) rfl (tW 20 1 F ar 1 (m-1+z) Q e oM (fun _ e=>?_))))));have zB:((F).set (m-1+z) Q).length=(x.length+1):=by rw[Mg];exact hu2
  replace e:=e.to [⟨M,38,(K).flatMap ar⟩,⟨u,38,((F).set (m-1+z) Q).flatMap ar⟩] [];refine tV 21 19 (mV zj) (tN (kQ (bp 173 ((z:Nat)+1) (z+1) ?_)));refine lL e ac (lD ?_);intro a_ ka;refine ⟨_,_,?_,⟨z+1,(F).set (m-1+z) Q,zj,zH,rfl,rfl,e.to _ _,oM,zB,(hW2.set _ oM),oM,(t6 oM bb oM),(bf.set oM oM)⟩,ka.to _ kR⟩
  omega
 have zm:=oT ze;refine lB 90 ze (ag (ct (cK (cQ (kZ (aa e aD (aG (lL e dl (lX 96 V y.length vc 1 (i:Nat) i ((e.f.2.1).ok oM) ?_)))))))));refine lH 97 (mV (p.getD i 0)) e ((e.f.2.1).el i oM) (lC 98 e (pi g (p.getD i 0) wM wM _ _ e.g) ?_);rintro _ _ zI e ⟨U,zs,rfl,dp,df,c9,dd⟩;have b4:=jT (a:=g) (b:=(p.getD i 0)) wM wM;refine lL e [.c,.v (mV U),.v (mV zs),.c,.c] (aG (lL e aD ?_));obtain ⟨s99,zb,b7,cf,b6,bl⟩:=fa zs cy 0 wM wM oM;refine lV 104 (.tuple #[mV s99,mV zb]) ?_ (hr:=ef kR (bl _));refine lL e [.c,.v (mV s99),.v (mV zb),.c,.c] (aG (lL e aD (lV 109 (mV (U+zb)) ?_ (hr:=rU (((U:Int)+(zb:Int))) kR (eA U zb oM)))));refine lL e ac (lN (kQ (lL e dl (bp 114 (((m:Int)-1)+(i:Nat)) (m-1+i) ?_))));refine lL e dl (bp 118 (((m:Int)-1)+(i:Nat)) (m-1+i) ?_);refine lX 119 (sB u) (x.length+1) (x.length+1) 1 (m-1+i:Nat) (m-1+i) rfl (lQ 120 1 u1 ar 1 0 (m-1+i) (mV ((u1).getD (m-1+i) 0)) e oM (lL e aD ?_));obtain ⟨L,zi,cb,cd,b9,bm⟩:=jw ((u1).getD (m-1+i) 0) s99 bo wM wM oM;refine lV 123 (.tuple #[mV L,mV zi]) ?_ (hr:=ef kR (bm _));refine lL e [.c,.v (mV L),.v (mV zi)] (lX 126 (sB u) (x.length+1) (x.length+1) 1 (m-1+i:Nat) (m-1+i) rfl ?_);refine lW 1 u1 ar 1 (m-1+i) L e oM (fun _ e=>?_);have zp:((u1).set (m-1+i) L).length=(x.length+1):=by rw[Mg];exact hu1
 replace e:=e.to [⟨M,38,(K).flatMap ar⟩,⟨u,38,((u1).set (m-1+i) L).flatMap ar⟩] [];refine lL e ac (lN (bH [(4,qS (sB M) ((x.length-y.length)+1) ((x.length-y.length)+1)),(5,sZ),(6,nV y.length),(7,nV (64-nb (y.getD (y.length-1) 0))),(8,qS V y.length vc),(9,qS (sB u) (x.length+1) (x.length+1)),(10,iV ((m:Int)-1)),(11,mV g),(88,nV y.length),(89,nV i),(12,mV (U+zb)),(13,mV zi)] ?_));refine kQ (bp 127 ((i:Nat)+1) (i+1) ?_);refine lL e ac (lD ?_);intro a_ ka;refine ⟨_,_,?_,⟨i+1,(u1).set (m-1+i) L,(U+zb),zi,zI,rfl,rfl,e.to _ _,oM,zp,(hW1.set _ oM),oM,oM,(uP (t:=s99) oM X oM oM),(bk.set oM oM)⟩,ka.to _ kR⟩
 omega
theorem dI (A:Z9)(c:Nat)(l:List Nat)(m x:Nat)(e:l.length=m)(b:Wd l)(hv:aA l=x)(f:l.length<=1099511627776)(d:l.length<=c)(w:World)(h:Hp)(g:G w h)(a:SlO 1 ar 0 h A l):CV 131 #[.slice A m c] w h (nv x):=by
 subst e hv;exact Fa A c l b f d w h g a
theorem HX (a b:Nat)(K:(wds a).length<=1000000000)(F:(wds b).length<=1000000000)(has:a<18446744073709551616)(u:b<18446744073709551616)(w:World)(h:Hp)(g:G w h):CV 125 #[nv a,nv b] w h (nv (a+b)):=by
 have e:=sS g;have H:=z1 has;have L:=z1 u;refine go Tryz.func125 [(0,nv a),(1,nv b)] rfl (ax (lA 2 40 (nc a) e (fun z w2 S e=>lA 3 40 (nc b) e (fun B Q M e=>lA 4 40 ([uV 0,eS]) e (fun O U V e=>ag (aa e [.v (qP z 1),.o (.string (hi a)) 2 1 1] (lV 14 qT ?_ (hr:=rb kR (jN (fg has))))))))));refine lL e [.c,.v (qP B 1),.o (.string (hi b)) 1 1 1] (lV 18 qT ?_ (hr:=rb kR (jN (fg u))));refine lL e [.v qT] (am (aa e [.v (pB z),.o (mV (a%18446744073709551616)) 2 0 1,.v (pB B),.o (mV (b%18446744073709551616)) 1 0 1] ?_));obtain ⟨i,j,C,y,D,p⟩:=fa (a%18446744073709551616) (b%18446744073709551616) 0 wM wM oM;refine lV 25 (.tuple #[mV i,mV j]) ?_ (hr:=ef kR (p _));refine lL e [.c,.v (mV i),.v (mV j),.c,.c] (ag (aa e ac ?_));cases x:((j:Int) == (0:Int))
 .
  have J:=aj x;refine lB 29 x (ah (cK (aa e aD (lR 34 38 2 ([mV i,mV j]) e (fun I _ _ e=>?_)))));replace e:=e.aS (SlO.of_flat (sz:=1) (f:=ar) (d:=0) (l:=[i,j]) (fun _=>rfl) e.f.1);exact aq 35 e (dI (sB I) 2 ([i,j]) 2 ((a+b)) (by first|rfl|assumption|(simp;done)|(simp;omega)|omega) (Dg.cons oM (Dg.one oM)) (by show i+18446744073709551616*(j+18446744073709551616*0)=a+b;omega) sM sM _ _ e.g e.f.1) (fun _ _ e=>lP 0 0 (nc (a+b)) e (fun _ e=>ae e [(0,0,2)] (nv (a+b)) rfl))
 have J:=eq_of_beq x;exact lB 29 x (am (aa e [.c,.v (.agg #[mV i,eS])] (lP 0 0 ([mV i,eS]) e (fun _ e=>ae e [(0,0,2)] (.agg #[mV i,eS]) (by rw[show i=a+b by omega];exact js oM)))))
theorem IX (a b:Nat)(hla:(wds a).length<=1000000000)(hlb:(wds b).length<=1000000000)(has:18446744073709551616<=a)(hb0:0<b)(hle:(wds b).length<=(wds a).length)(w:World)(h:Hp)(g:G w h):CV 125 #[nv a,nv b] w h (nv (a+b)):=by
 have e:=sS g;refine go Tryz.func125 [(0,nv a),(1,nv b)] rfl (ax (lA 2 40 (nc a) e (fun D w2 h3 e=>lA 3 40 (nc b) e (fun F w5 h6 e=>lA 4 40 ([uV 0,eS]) e (fun C w8 h9 e=>ag (aa e [.v (qP D 1),.o (.string (hi a)) 2 1 1] (lV 14 qF ?_ (hr:=rb kR (jf (fE has))))))))));refine lL e ac (lG 16 ?_);refine lG 17 (lG 18 (lL e [.v qF] (ah (cK (cQ ?_)))));obtain ⟨K,hK_⟩:∃ K,K=w8.heap.size:=⟨_,rfl⟩;have bb:C<K:=by rw[hK_];exact ff e 0
 have J:F<K:=by rw[hK_];exact ff e 1
 have I:D<K:=by rw[hK_];exact ff e 2
 refine vk ⟨[],some (K,[])⟩ 0 mixed ?_;have b3:=e.g.size;replace e:=e.drew;have B:=MF hK_;refine zO 0 36 [(2,0,2)] (nv a) rfl B e (fun p hp=>by obtain rfl:=sy.1 hp;exact I) (zO 2 38 [(1,0,2)] (nv b) rfl B e (fun p hp=>by obtain rfl:=sy.1 hp;exact J) (sH 1 37 (fY a oM oM _ _ e.g) rfl B ?_));rintro _ _ _ u12 B ⟨j,rfl,X,V,br⟩;obtain ⟨_,e,-,-⟩:=e.take u12 X V;replace e:=e.to [⟨j,38,(wds a).flatMap ar⟩,⟨C,40,[uV 0,eS]⟩,⟨F,40,nc b⟩,⟨D,40,nc a⟩] [];refine sH 3 39 (fY b oM oM _ _ e.g) rfl B ?_;rintro _ _ _ u16 B ⟨u,rfl,U,L,bq⟩;obtain ⟨zn,e,-,-⟩:=e.take u16 U L;replace e:=e.to [⟨u,38,(wds b).flatMap ar⟩,⟨j,38,(wds a).flatMap ar⟩,⟨C,40,[uV 0,eS]⟩,⟨F,40,nc b⟩,⟨D,40,nc a⟩] [];refine zV 4 7 (qS (sB j) ((wds a).length) ((wds a).length)) (zV 5 8 (qS (sB u) ((wds b).length) ((wds b).length)) (tN (cQ (aa e [.c,.v (nV ((wds a).length)),.c,.v (nV ((wds b).length))] ?_))));have ⟨zk,bf⟩:=dF (p:=(((wds a).length:Nat):Int)<(((wds b).length:Nat):Int)) oM;refine lB 44 zk (ah (cK (aa e ac (ag (aa e [.c,.v (nV ((wds a).length)),.c] (aZ ?_))))));refine bH _ (CG.loop (fun μ_ Γ w_=>∃ (i:Nat)(l:List Nat)(x:Nat)(h_:Hp),μ_=(wds a).length-i/\Γ=[(4,pB C),(7,qS (sB j) ((wds a).length) ((wds a).length)),(8,qS (sB u) ((wds b).length) ((wds b).length)),(48,nV ((wds a).length)),(49,nV i),(9,mV x)]/\SS w h w_ h_ [⟨u,38,(wds b).flatMap ar⟩,⟨j,38,(l).flatMap ar⟩,⟨C,40,[uV 0,eS]⟩,⟨F,40,nc b⟩,⟨D,40,nc a⟩] [] []/\i<=(wds a).length/\l.length=(wds a).length/\Wd l/\x<=1/\ai 18446744073709551616 l+18446744073709551616^i*x=a+ai 18446744073709551616 ((wds b:List Nat).take i)) _ ⟨0,wds a,0,zn,rfl,rfl,e.to _ _,My _,rfl,Wd.wds _,oM,(by have hx_:ai 18446744073709551616 (wds a)=a:=ay _;rw[hx_];simp[ai])⟩ ?_);rintro _ _ _ ⟨i,l,x,zj,bt,rfl,e,hi,O,M,hcy,inv⟩;have hlk:=M.get i;have hyk:=(Wd.wds b).get i;refine ax ?_;cases Z:(decide ((i:Int)<(((wds a).length:Nat):Int)))
 .
  have zf:=oF Z;refine lB 50 Z (ag (dD (CG.exit ?_)))
  show CG _ _ _ _ _ _ _ _
  refine cQ (ax ?_);have H:=inv;rw[LU (show (wds b).length<=i by first|omega|(simp;done)|(simp;omega))] at H
  rw[show i=l.length by omega] at H
  have hE_:ai 18446744073709551616 (wds b)=b:=ay _;replace H:ai 18446744073709551616 l+18446744073709551616^l.length*x=(a+b):=by rw[H,hE_];first|done|omega
  refine lL e ac ?_;cases zb:((x:Int) != (0:Int))
  .
   have zg:=aJ zb;refine lB 75 zb (ah (cK (ax ?_)));obtain ⟨_,e,S,bm,b0⟩:=e.pub 1;replace e:=(e.to [⟨u,38,(wds b).flatMap ar⟩,⟨C,40,[uV 0,eS]⟩,⟨F,40,nc b⟩,⟨D,40,nc a⟩] []).aS (SlO.of_flat (sz:=1) (f:=ar) (d:=0) (b:=j) (o:=0) (l:=l) (fun _=>rfl) S);exact lL e ac (aq 81 e (dI (sB j) ((wds a).length) (l) ((wds a).length) ((a+b)) (by first|rfl|assumption|(simp;done)|(simp;omega)|omega) (M) (by rw[show x=0 by omega,Lw,wj] at H;exact H) sM sM _ _ e.g e.f.1) (fun _ _ e=>lP 1 0 (nc (a+b)) e (fun _ e=>ae e [(1,0,2)] (nv (a+b)) rfl)))
  have zg:=aI zb;refine lB 75 zb (am (kQ (lL e aD (lR 78 38 1 ([mV x]) e (fun zo _ _ e=>JQ 79 1 ((wds a).length) zo l ar 0 x 8 (uV 0) e e.f.1 oM oM (fun zp zq _ _ e bd=>?_))))));replace e:=e.to [⟨u,38,(wds b).flatMap ar⟩,⟨C,40,[uV 0,eS]⟩,⟨F,40,nc b⟩,⟨D,40,nc a⟩] [];exact lL e ac (aG (lL e ac (aq 81 e (dI zp zq (l++[x]) ((wds a).length+1) ((a+b)) (by first|rfl|assumption|(simp;done)|(simp;omega)|omega) (Dg.append M (Dg.one oM)) (by show ai _ (l++[x])=_;rw[cV];show _+_*(x+_*0)=_;rw[Lw,wj];exact H) sM sM _ _ e.g e.f.1) (fun _ _ e=>lP 1 0 (nc (a+b)) e (fun _ e=>ae e [(1,0,2)] (nv (a+b)) rfl)))))
 have zf:=oT Z;refine lB 50 Z (ag (ct (cK (cQ (kZ (aa e aD (aG (lL e ac (ag (aa e [.c,.c,.v (nV ((wds b).length))] ?_))))))))));cases Y:(decide ((i:Int)<(((wds b).length:Nat):Int)))
 .
  have zi:=oF Y;refine lB 55 Y (ah (cK (kQ (lL e oz (lX 65 (sB j) ((wds a).length) ((wds a).length) 1 (i:Nat) i rfl ?_)))));refine lQ 66 1 l ar 1 0 i (mV ((l).getD i 0)) e oM (lL e aD ?_);obtain ⟨z,zd,b2,bn,bl,W⟩:=fa ((l).getD i 0) 0 x wM wM oM;refine lV 69 (.tuple #[mV z,mV zd]) ?_ (hr:=ef kR (W _));refine lL e [.c,.v (mV z),.v (mV zd)] (lX 72 (sB j) ((wds a).length) ((wds a).length) 1 (i:Nat) i rfl ?_);refine lW 1 l ar 1 i z e oM (fun _ e=>?_);have zl:((l).set i z).length=(wds a).length:=by rw[Mg];exact O
  replace e:=e.to [⟨u,38,(wds b).flatMap ar⟩,⟨j,38,((l).set i z).flatMap ar⟩,⟨C,40,[uV 0,eS]⟩,⟨F,40,nc b⟩,⟨D,40,nc a⟩] [];refine lL e ac (lN (kQ (bp 73 ((i:Nat)+1) (i+1) ?_)));refine lL e ac (lD ?_);intro a_ ka;refine ⟨_,_,?_,⟨i+1,(l).set i z,zd,zj,rfl,rfl,e.to _ _,oM,zl,(M.set _ oM),oM,(gU oM inv (by first|omega|(have hy0:=cn (l:=(wds b:List Nat)) (k:=i) (by first|omega|(simp;done));omega)))⟩,ka.to _ kR⟩
  omega
 have zi:=oT Y;refine lB 55 Y (am (kQ (lL e aD (lX 58 (sB u) ((wds b).length) ((wds b).length) 1 (i:Nat) i rfl ?_))));refine lQ 59 0 (wds b) ar 1 0 i (mV ((wds b).getD i 0)) e oM (lL e ac (lN (kQ (lL e oz (lX 65 (sB j) ((wds a).length) ((wds a).length) 1 (i:Nat) i rfl ?_)))));refine lQ 66 1 l ar 1 0 i (mV ((l).getD i 0)) e oM (lL e aD ?_);obtain ⟨y,ze,bx,bz,bk,Q⟩:=fa ((l).getD i 0) ((wds b).getD i 0) x wM wM oM;refine lV 69 (.tuple #[mV y,mV ze]) ?_ (hr:=ef kR (Q _));refine lL e [.c,.v (mV y),.v (mV ze)] (lX 72 (sB j) ((wds a).length) ((wds a).length) 1 (i:Nat) i rfl ?_);refine lW 1 l ar 1 i y e oM (fun _ e=>?_);have zm:((l).set i y).length=(wds a).length:=by rw[Mg];exact O
 replace e:=e.to [⟨u,38,(wds b).flatMap ar⟩,⟨j,38,((l).set i y).flatMap ar⟩,⟨C,40,[uV 0,eS]⟩,⟨F,40,nc b⟩,⟨D,40,nc a⟩] [];refine lL e ac (lN (kQ (bp 73 ((i:Nat)+1) (i+1) ?_)));refine lL e ac (lD ?_);intro a_ ka;refine ⟨_,_,?_,⟨i+1,(l).set i y,ze,zj,rfl,rfl,e.to _ _,oM,zm,(M.set _ oM),oM,(gU oM inv (by first|omega|(have hy0:=cn (l:=(wds b:List Nat)) (k:=i) (by first|omega|(simp;done));omega)))⟩,ka.to _ kR⟩
 omega
theorem E6 (a b:Nat)(hla:(wds a).length<=1000000000)(hlb:(wds b).length<=1000000000)(ha0:0<a)(hbs:18446744073709551616<=b)(hlt:(wds a).length<(wds b).length)(w:World)(h:Hp)(g:G w h):CV 125 #[nv a,nv b] w h (nv (a+b)):=by
 have e:=sS g;refine go Tryz.func125 [(0,nv a),(1,nv b)] rfl (ax (lA 2 40 (nc a) e (fun D w2 h3 e=>lA 3 40 (nc b) e (fun F w5 h6 e=>lA 4 40 ([uV 0,eS]) e (fun C w8 h9 e=>?_)))));refine lN (CG.join (fun Γ w_=>∃  (h_:Hp),Γ=[(2,pB D),(3,pB F),(4,pB C)]/\SS w h w_ h_ [⟨C,40,[uV 0,eS]⟩,⟨F,40,nc b⟩,⟨D,40,nc a⟩] [] []) ?_ ?_)
 .
  refine aa e [.v (qP D 1),.o (.string (hi a)) 2 1 1] ?_;cases za:(kf (hi a) (⟨#[]⟩))
  .
   have zg:=hJ za;refine lB 14 za (lL e ac (lG 16 ?_));refine lG 17 (lG 18 (lL e [.v qF] (ah (CG.skip ?_))));intro a_ K;exact ⟨_,⟨h9,rfl,e.to _ _⟩,K.to _ kR⟩
  have zg:=g8 za;refine lB 14 za (lL e [.c,.v (qP F 1),.o (.string (hi b)) 1 1 1] (lV 18 qF ?_ (hr:=rb kR (jf (fE hbs)))));refine lL e [.v qF] (ah (CG.skip ?_));intro a_ K;exact ⟨_,⟨h9,rfl,e.to _ _⟩,K.to _ kR⟩
 rintro _ zp ⟨_,rfl,e⟩;refine cQ ?_;obtain ⟨L,hK_⟩:∃ L,L=zp.heap.size:=⟨_,rfl⟩;have bb:C<L:=by rw[hK_];exact ff e 0
 have J:F<L:=by rw[hK_];exact ff e 1
 have I:D<L:=by rw[hK_];exact ff e 2
 refine vk ⟨[],some (L,[])⟩ 0 mixed ?_;have bq:=e.g.size;replace e:=e.drew;have B:=MF hK_;refine zO 0 36 [(2,0,2)] (nv a) rfl B e (fun p hp=>by obtain rfl:=sy.1 hp;exact I) (zO 2 38 [(1,0,2)] (nv b) rfl B e (fun p hp=>by obtain rfl:=sy.1 hp;exact J) (sH 1 37 (fY a oM oM _ _ e.g) rfl B ?_));rintro _ _ _ u15 B ⟨u,rfl,Y,V,bn⟩;obtain ⟨_,e,-,-⟩:=e.take u15 Y V;replace e:=e.to [⟨u,38,(wds a).flatMap ar⟩,⟨C,40,[uV 0,eS]⟩,⟨F,40,nc b⟩,⟨D,40,nc a⟩] [];refine sH 3 39 (fY b oM oM _ _ e.g) rfl B ?_;rintro _ _ _ u19 B ⟨j,rfl,U,M,bm⟩;obtain ⟨zq,e,-,-⟩:=e.take u19 U M;replace e:=e.to [⟨j,38,(wds b).flatMap ar⟩,⟨u,38,(wds a).flatMap ar⟩,⟨C,40,[uV 0,eS]⟩,⟨F,40,nc b⟩,⟨D,40,nc a⟩] [];refine zV 4 7 (qS (sB u) ((wds a).length) ((wds a).length)) (zV 5 8 (qS (sB j) ((wds b).length) ((wds b).length)) (tN (cQ (aa e [.c,.v (nV ((wds a).length)),.c,.v (nV ((wds b).length))] ?_))));have ⟨zm,bd⟩:=dT (p:=(((wds a).length:Nat):Int)<(((wds b).length:Nat):Int)) oM;refine lB 44 zm (am (kQ (lL e oz (aG (lL e ac (ag (aa e [.c,.v (nV ((wds b).length)),.c] (aZ ?_))))))));refine bH _ (CG.loop (fun μ_ Γ w_=>∃ (i:Nat)(l:List Nat)(x:Nat)(h_:Hp),μ_=(wds b).length-i/\Γ=[(4,pB C),(7,qS (sB j) ((wds b).length) ((wds b).length)),(8,qS (sB u) ((wds a).length) ((wds a).length)),(48,nV ((wds b).length)),(49,nV i),(9,mV x)]/\SS w h w_ h_ [⟨j,38,(l).flatMap ar⟩,⟨u,38,(wds a).flatMap ar⟩,⟨C,40,[uV 0,eS]⟩,⟨F,40,nc b⟩,⟨D,40,nc a⟩] [] []/\i<=(wds b).length/\l.length=(wds b).length/\Wd l/\x<=1/\ai 18446744073709551616 l+18446744073709551616^i*x=b+ai 18446744073709551616 ((wds a:List Nat).take i)) _ ⟨0,wds b,0,zq,rfl,rfl,e.to _ _,My _,rfl,Wd.wds _,oM,(by have hx_:ai 18446744073709551616 (wds b)=b:=ay _;rw[hx_];simp[ai])⟩ ?_);rintro _ _ _ ⟨i,l,x,zl,b0,rfl,e,hi,Q,O,hcy,inv⟩;have hlk:=O.get i;have hyk:=(Wd.wds a).get i;refine ax ?_;cases zb:(decide ((i:Int)<(((wds b).length:Nat):Int)))
 .
  have zi:=oF zb;refine lB 50 zb (ag (dD (CG.exit ?_)))
  show CG _ _ _ _ _ _ _ _
  refine cQ (ax ?_);have H:=inv;rw[LU (show (wds a).length<=i by first|omega|(simp;done)|(simp;omega))] at H
  rw[show i=l.length by omega] at H
  have hE_:ai 18446744073709551616 (wds a)=a:=ay _;replace H:ai 18446744073709551616 l+18446744073709551616^l.length*x=(a+b):=by rw[H,hE_];first|done|omega
  refine lL e ac ?_;cases zc:((x:Int) != (0:Int))
  .
   have zj:=aJ zc;refine lB 75 zc (ah (cK (ax ?_)));obtain ⟨_,e,W,br,bk⟩:=e.pub 0;replace e:=(e.to [⟨u,38,(wds a).flatMap ar⟩,⟨C,40,[uV 0,eS]⟩,⟨F,40,nc b⟩,⟨D,40,nc a⟩] []).aS (SlO.of_flat (sz:=1) (f:=ar) (d:=0) (b:=j) (o:=0) (l:=l) (fun _=>rfl) W);exact lL e ac (aq 81 e (dI (sB j) ((wds b).length) (l) ((wds b).length) ((a+b)) (by first|rfl|assumption|(simp;done)|(simp;omega)|omega) (O) (by rw[show x=0 by omega,Lw,wj] at H;exact H) sM sM _ _ e.g e.f.1) (fun _ _ e=>lP 1 0 (nc (a+b)) e (fun _ e=>ae e [(1,0,2)] (nv (a+b)) rfl)))
  have zj:=aI zc;refine lB 75 zc (am (kQ (lL e aD (lR 78 38 1 ([mV x]) e (fun zr _ _ e=>JQ 79 0 ((wds b).length) zr l ar 0 x 8 (uV 0) e e.f.1 oM oM (fun zs zt _ _ e bf=>?_))))));replace e:=e.to [⟨u,38,(wds a).flatMap ar⟩,⟨C,40,[uV 0,eS]⟩,⟨F,40,nc b⟩,⟨D,40,nc a⟩] [];exact lL e ac (aG (lL e ac (aq 81 e (dI zs zt (l++[x]) ((wds b).length+1) ((a+b)) (by first|rfl|assumption|(simp;done)|(simp;omega)|omega) (Dg.append O (Dg.one oM)) (by show ai _ (l++[x])=_;rw[cV];show _+_*(x+_*0)=_;rw[Lw,wj];exact H) sM sM _ _ e.g e.f.1) (fun _ _ e=>lP 1 0 (nc (a+b)) e (fun _ e=>ae e [(1,0,2)] (nv (a+b)) rfl)))))
 have zi:=oT zb;refine lB 50 zb (ag (ct (cK (cQ (kZ (aa e aD (aG (lL e ac (ag (aa e [.c,.c,.v (nV ((wds a).length))] ?_))))))))));cases Z:(decide ((i:Int)<(((wds a).length:Nat):Int)))
 .
  have zk:=oF Z;refine lB 55 Z (ah (cK (kQ (lL e oz (lX 65 (sB j) ((wds b).length) ((wds b).length) 1 (i:Nat) i rfl ?_)))));refine lQ 66 0 l ar 1 0 i (mV ((l).getD i 0)) e oM (lL e aD ?_);obtain ⟨y,ze,bx,bz,b2,X⟩:=fa ((l).getD i 0) 0 x wM wM oM;refine lV 69 (.tuple #[mV y,mV ze]) ?_ (hr:=ef kR (X _));refine lL e [.c,.v (mV y),.v (mV ze)] (lX 72 (sB j) ((wds b).length) ((wds b).length) 1 (i:Nat) i rfl ?_);refine lW 0 l ar 1 i y e oM (fun _ e=>?_);have zn:((l).set i y).length=(wds b).length:=by rw[Mg];exact Q
  replace e:=e.to [⟨j,38,((l).set i y).flatMap ar⟩,⟨u,38,(wds a).flatMap ar⟩,⟨C,40,[uV 0,eS]⟩,⟨F,40,nc b⟩,⟨D,40,nc a⟩] [];refine lL e ac (lN (kQ (bp 73 ((i:Nat)+1) (i+1) ?_)));refine lL e ac (lD ?_);intro a_ K;refine ⟨_,_,?_,⟨i+1,(l).set i y,ze,zl,rfl,rfl,e.to _ _,oM,zn,(O.set _ oM),oM,(gU oM inv (by first|omega|(have hy0:=cn (l:=(wds a:List Nat)) (k:=i) (by first|omega|(simp;done));omega)))⟩,K.to _ kR⟩
  omega
 have zk:=oT Z;refine lB 55 Z (am (kQ (lL e aD (lX 58 (sB u) ((wds a).length) ((wds a).length) 1 (i:Nat) i rfl ?_))));refine lQ 59 1 (wds a) ar 1 0 i (mV ((wds a).getD i 0)) e oM (lL e ac (lN (kQ (lL e oz (lX 65 (sB j) ((wds b).length) ((wds b).length) 1 (i:Nat) i rfl ?_)))));refine lQ 66 0 l ar 1 0 i (mV ((l).getD i 0)) e oM (lL e aD ?_);obtain ⟨z,zf,bt,b3,bl,S⟩:=fa ((l).getD i 0) ((wds a).getD i 0) x wM wM oM;refine lV 69 (.tuple #[mV z,mV zf]) ?_ (hr:=ef kR (S _));refine lL e [.c,.v (mV z),.v (mV zf)] (lX 72 (sB j) ((wds b).length) ((wds b).length) 1 (i:Nat) i rfl ?_);refine lW 0 l ar 1 i z e oM (fun _ e=>?_);have zo:((l).set i z).length=(wds b).length:=by rw[Mg];exact Q
 replace e:=e.to [⟨j,38,((l).set i z).flatMap ar⟩,⟨u,38,(wds a).flatMap ar⟩,⟨C,40,[uV 0,eS]⟩,⟨F,40,nc b⟩,⟨D,40,nc a⟩] [];refine lL e ac (lN (kQ (bp 73 ((i:Nat)+1) (i+1) ?_)));refine lL e ac (lD ?_);intro a_ K;refine ⟨_,_,?_,⟨i+1,(l).set i z,zf,zl,rfl,rfl,e.to _ _,oM,zo,(O.set _ oM),oM,(gU oM inv (by first|omega|(have hy0:=cn (l:=(wds a:List Nat)) (k:=i) (by first|omega|(simp;done));omega)))⟩,K.to _ kR⟩
 omega
theorem FW (b:Nat)(hl:(wds b).length<=1000000000)(I:18446744073709551616<=b)(w:World)(h:Hp)(g:G w h):CV 125 #[nv 0,nv b] w h (nv (0+b)):=by
 have a:=sS g;have h2l:=de I;refine go Tryz.func125 [(0,nv 0),(1,nv b)] rfl (ax (lA 2 40 (nc 0) a (fun B w2 h3 a=>lA 3 40 (nc b) a (fun C w5 h6 a=>lA 4 40 ([uV 0,eS]) a (fun z w8 h9 a=>ag (aa a [.v (qP B 1),.o (.string (hi 0)) 2 1 1] (lV 14 qT ?_ (hr:=rb kR (jN rfl)))))))));refine lL a [.c,.v (qP C 1),.o (.string (hi b)) 1 1 1] (lV 18 qF ?_ (hr:=rb kR (jf (fE I))));refine lL a [.v qF] (ah (cK (cQ ?_)));obtain ⟨H,hK_⟩:∃ H,H=w8.heap.size:=⟨_,rfl⟩;have bd:z<H:=by rw[hK_];exact ff a 0
 have F:C<H:=by rw[hK_];exact ff a 1
 have D:B<H:=by rw[hK_];exact ff a 2
 refine vk ⟨[],some (H,[])⟩ 0 mixed ?_;have bf:=a.g.size;replace a:=a.drew;have u:=MF hK_;refine zO 0 36 [(2,0,2)] (nv 0) rfl u a (fun p hp=>by obtain rfl:=sy.1 hp;exact D) (zO 2 38 [(1,0,2)] (nv b) rfl u a (fun p hp=>by obtain rfl:=sy.1 hp;exact F) (sH 1 37 (k8 _ _ a.g) rfl u ?_));rintro _ _ _ Z u rfl;replace a:=a.step Z;refine sH 3 39 (fY b oM oM _ _ a.g) rfl u ?_;rintro _ _ _ U u ⟨e,rfl,J,K,br⟩;obtain ⟨zj,a,-,-⟩:=a.take U J K;replace a:=a.to [⟨e,38,(wds b).flatMap ar⟩,⟨z,40,[uV 0,eS]⟩,⟨C,40,nc b⟩,⟨B,40,nc 0⟩] [];refine zV 4 7 (sZ) (zV 5 8 (qS (sB e) ((wds b).length) ((wds b).length)) (tN (cQ (aa a [.c,.v (iV 0),.c,.v (nV ((wds b).length))] ?_))));have ⟨zf,bb⟩:=dT (p:=(0:Int)<(((wds b).length:Nat):Int)) oM;refine lB 44 zf (am (kQ (lL a oz (aG (lL a ac (ag (aa a [.c,.v (nV ((wds b).length)),.c] (aZ ?_))))))));refine bH _ (CG.loop (fun W Γ w_=>∃ (i:Nat)(l:List Nat)(x:Nat)(h_:Hp),W=(wds b).length-i/\Γ=[(4,pB z),(7,qS (sB e) ((wds b).length) ((wds b).length)),(8,sZ),(48,nV ((wds b).length)),(49,nV i),(9,mV x)]/\SS w h w_ h_ [⟨e,38,(l).flatMap ar⟩,⟨z,40,[uV 0,eS]⟩,⟨C,40,nc b⟩,⟨B,40,nc 0⟩] [] []/\i<=(wds b).length/\l.length=(wds b).length/\Wd l/\x<=1/\ai 18446744073709551616 l+18446744073709551616^i*x=b+ai 18446744073709551616 (([]:List Nat).take i)) _ ⟨0,wds b,0,zj,rfl,rfl,a.to _ _,My _,rfl,Wd.wds _,oM,(by have X:ai 18446744073709551616 (wds b)=b:=ay _;rw[X];simp[ai])⟩ ?_);rintro _ _ _ ⟨i,l,x,zk,bt,rfl,a,hi,hll,O,hcy,inv⟩;have hlk:=O.get i;have hyk:=Wd.get (l:=[]) Dg.nil i;refine ax ?_;cases Q:(decide ((i:Int)<(((wds b).length:Nat):Int)))
 .
  have zd:=oF Q;refine lB 50 Q (ag (dD (CG.exit ?_)))
  show CG _ _ _ _ _ _ _ _
  refine cQ (ax ?_);have y:=inv;rw[LU (show ([]).length<=i by first|omega|(simp;done)|(simp;omega))] at y
  rw[show i=l.length by omega] at y
  have hE_:([]:List Nat)=[]:=rfl;replace y:ai 18446744073709551616 l+18446744073709551616^l.length*x=(0+b):=by rw[y];simp[ai]
  refine lL a ac ?_;cases S:((x:Int) != (0:Int))
  .
   have ze:=aJ S;refine lB 75 S (ah (cK (ax ?_)));obtain ⟨_,a,M,bn,bq⟩:=a.pub 0;replace a:=(a.to [⟨z,40,[uV 0,eS]⟩,⟨C,40,nc b⟩,⟨B,40,nc 0⟩] []).aS (SlO.of_flat (sz:=1) (f:=ar) (d:=0) (b:=e) (o:=0) (l:=l) (fun _=>rfl) M);exact lL a ac (aq 81 a (dI (sB e) ((wds b).length) (l) ((wds b).length) ((0+b)) (by first|rfl|assumption|(simp;done)|(simp;omega)|omega) (O) (by rw[show x=0 by omega,Lw,wj] at y;exact y) sM sM _ _ a.g a.f.1) (fun _ _ a=>lP 0 0 (nc (0+b)) a (fun _ a=>ae a [(0,0,2)] (nv (0+b)) rfl)))
  have ze:=aI S;refine lB 75 S (am (kQ (lL a aD (lR 78 38 1 ([mV x]) a (fun zl _ _ a=>JQ 79 0 ((wds b).length) zl l ar 0 x 8 (uV 0) a a.f.1 oM oM (fun zm zn _ _ a Y=>?_))))));replace a:=a.to [⟨z,40,[uV 0,eS]⟩,⟨C,40,nc b⟩,⟨B,40,nc 0⟩] [];exact lL a ac (aG (lL a ac (aq 81 a (dI zm zn (l++[x]) ((wds b).length+1) ((0+b)) (by first|rfl|assumption|(simp;done)|(simp;omega)|omega) (Dg.append O (Dg.one oM)) (by show ai _ (l++[x])=_;rw[cV];show _+_*(x+_*0)=_;rw[Lw,wj];exact y) sM sM _ _ a.g a.f.1) (fun _ _ a=>lP 0 0 (nc (0+b)) a (fun _ a=>ae a [(0,0,2)] (nv (0+b)) rfl)))))
 have zd:=oT Q;refine lB 50 Q (ag (ct (cK (cQ (kZ (aa a aD (aG (lL a ac (ag (aa a [.c,.c,.v (iV 0)] ?_))))))))));have ⟨zg,V⟩:=dF (p:=(i:Int)<(0:Int)) oM;refine lB 55 zg (ah (cK (kQ (lL a oz (lX 65 (sB e) ((wds b).length) ((wds b).length) 1 (i:Nat) i rfl ?_)))));refine lQ 66 0 l ar 1 0 i (mV ((l).getD i 0)) a oM (lL a aD ?_);obtain ⟨j,zc,bk,bm,bl,L⟩:=fa ((l).getD i 0) 0 x wM wM oM;refine lV 69 (.tuple #[mV j,mV zc]) ?_ (hr:=ef kR (L _));refine lL a [.c,.v (mV j),.v (mV zc)] (lX 72 (sB e) ((wds b).length) ((wds b).length) 1 (i:Nat) i rfl ?_);refine lW 0 l ar 1 i j a oM (fun _ a=>?_);have zi:((l).set i j).length=(wds b).length:=by rw[Mg];exact hll
 replace a:=a.to [⟨e,38,((l).set i j).flatMap ar⟩,⟨z,40,[uV 0,eS]⟩,⟨C,40,nc b⟩,⟨B,40,nc 0⟩] [];refine lL a ac (lN (kQ (bp 73 ((i:Nat)+1) (i+1) ?_)));refine lL a ac (lD ?_);intro a_ ka;refine ⟨_,_,?_,⟨i+1,(l).set i j,zc,zk,rfl,rfl,a.to _ _,oM,zi,(O.set _ oM),oM,(gU oM inv (by first|omega|(have hy0:=cn (l:=([]:List Nat)) (k:=i) (by first|omega|(simp;done));omega)))⟩,ka.to _ kR⟩
 omega
theorem FT (a:Nat)(hl:(wds a).length<=1000000000)(has:18446744073709551616<=a)(w:World)(h:Hp)(g:G w h):CV 125 #[nv a,nv 0] w h (nv (a+0)):=by
 have e:=sS g;have h2l:=de has;refine go Tryz.func125 [(0,nv a),(1,nv 0)] rfl (ax (lA 2 40 (nc a) e (fun C w2 h3 e=>lA 3 40 (nc 0) e (fun H w5 h6 e=>lA 4 40 ([uV 0,eS]) e (fun B w8 h9 e=>ag (aa e [.v (qP C 1),.o (.string (hi a)) 2 1 1] (lV 14 qF ?_ (hr:=rb kR (jf (fE has))))))))));refine lL e ac (lG 16 ?_);refine lG 17 (lG 18 (lL e [.v qF] (ah (cK (cQ ?_)))));obtain ⟨I,hK_⟩:∃ I,I=w8.heap.size:=⟨_,rfl⟩;have bd:B<I:=by rw[hK_];exact ff e 0
 have F:H<I:=by rw[hK_];exact ff e 1
 have D:C<I:=by rw[hK_];exact ff e 2
 refine vk ⟨[],some (I,[])⟩ 0 mixed ?_;have bf:=e.g.size;replace e:=e.drew;have x:=MF hK_;refine zO 0 36 [(2,0,2)] (nv a) rfl x e (fun p Z=>by obtain rfl:=sy.1 Z;exact D) (zO 2 38 [(1,0,2)] (nv 0) rfl x e (fun p Z=>by obtain rfl:=sy.1 Z;exact F) (sH 1 37 (fY a oM oM _ _ e.g) rfl x ?_));rintro _ _ _ Y x ⟨j,rfl,J,K,br⟩;obtain ⟨_,e,-,-⟩:=e.take Y J K;replace e:=e.to [⟨j,38,(wds a).flatMap ar⟩,⟨B,40,[uV 0,eS]⟩,⟨H,40,nc 0⟩,⟨C,40,nc a⟩] [];refine sH 3 39 (k8 _ _ e.g) rfl x ?_;rintro _ _ zj u16 x rfl;replace e:=e.step u16;refine zV 4 7 (qS (sB j) ((wds a).length) ((wds a).length)) (zV 5 8 (sZ) (tN (cQ (aa e [.c,.v (nV ((wds a).length)),.c,.v (iV 0)] ?_))));have ⟨zf,bb⟩:=dF (p:=(((wds a).length:Nat):Int)<(0:Int)) oM;refine lB 44 zf (ah (cK (aa e ac (ag (aa e [.c,.v (nV ((wds a).length)),.c] (aZ ?_))))));refine bH _ (CG.loop (fun V Γ w_=>∃ (i:Nat)(l:List Nat)(y:Nat)(h_:Hp),V=(wds a).length-i/\Γ=[(4,pB B),(7,qS (sB j) ((wds a).length) ((wds a).length)),(8,sZ),(48,nV ((wds a).length)),(49,nV i),(9,mV y)]/\SS w h w_ h_ [⟨j,38,(l).flatMap ar⟩,⟨B,40,[uV 0,eS]⟩,⟨H,40,nc 0⟩,⟨C,40,nc a⟩] [] []/\i<=(wds a).length/\l.length=(wds a).length/\Wd l/\y<=1/\ai 18446744073709551616 l+18446744073709551616^i*y=a+ai 18446744073709551616 (([]:List Nat).take i)) _ ⟨0,wds a,0,zj,rfl,rfl,e.to _ _,My _,rfl,Wd.wds _,oM,(by have W:ai 18446744073709551616 (wds a)=a:=ay _;rw[W];simp[ai])⟩ ?_);rintro _ _ _ ⟨i,l,y,zk,bt,rfl,e,hi,hll,O,hcy,inv⟩;have hlk:=O.get i;have hyk:=Wd.get (l:=[]) Dg.nil i;refine ax ?_;cases Q:(decide ((i:Int)<(((wds a).length:Nat):Int)))
 .
  have zd:=oF Q;refine lB 50 Q (ag (dD (CG.exit ?_)))
  show CG _ _ _ _ _ _ _ _
  refine cQ (ax ?_);have z:=inv;rw[LU (show ([]).length<=i by first|omega|(simp;done)|(simp;omega))] at z
  rw[show i=l.length by omega] at z
  have hE_:([]:List Nat)=[]:=rfl;replace z:ai 18446744073709551616 l+18446744073709551616^l.length*y=(a+0):=by rw[z];simp[ai]
  refine lL e ac ?_;cases S:((y:Int) != (0:Int))
  .
   have ze:=aJ S;refine lB 75 S (ah (cK (ax ?_)));obtain ⟨_,e,M,bn,bq⟩:=e.pub 0;replace e:=(e.to [⟨B,40,[uV 0,eS]⟩,⟨H,40,nc 0⟩,⟨C,40,nc a⟩] []).aS (SlO.of_flat (sz:=1) (f:=ar) (d:=0) (b:=j) (o:=0) (l:=l) (fun _=>rfl) M);exact lL e ac (aq 81 e (dI (sB j) ((wds a).length) (l) ((wds a).length) ((a+0)) (by first|rfl|assumption|(simp;done)|(simp;omega)|omega) (O) (by rw[show y=0 by omega,Lw,wj] at z;exact z) sM sM _ _ e.g e.f.1) (fun _ _ e=>lP 0 0 (nc (a+0)) e (fun _ e=>ae e [(0,0,2)] (nv (a+0)) rfl)))
  have ze:=aI S;refine lB 75 S (am (kQ (lL e aD (lR 78 38 1 ([mV y]) e (fun zl _ _ e=>JQ 79 0 ((wds a).length) zl l ar 0 y 8 (uV 0) e e.f.1 oM oM (fun zm zn _ _ e X=>?_))))));replace e:=e.to [⟨B,40,[uV 0,eS]⟩,⟨H,40,nc 0⟩,⟨C,40,nc a⟩] [];exact lL e ac (aG (lL e ac (aq 81 e (dI zm zn (l++[y]) ((wds a).length+1) ((a+0)) (by first|rfl|assumption|(simp;done)|(simp;omega)|omega) (Dg.append O (Dg.one oM)) (by show ai _ (l++[y])=_;rw[cV];show _+_*(y+_*0)=_;rw[Lw,wj];exact z) sM sM _ _ e.g e.f.1) (fun _ _ e=>lP 0 0 (nc (a+0)) e (fun _ e=>ae e [(0,0,2)] (nv (a+0)) rfl)))))
 have zd:=oT Q;refine lB 50 Q (ag (ct (cK (cQ (kZ (aa e aD (aG (lL e ac (ag (aa e [.c,.c,.v (iV 0)] ?_))))))))));have ⟨zg,U⟩:=dF (p:=(i:Int)<(0:Int)) oM;refine lB 55 zg (ah (cK (kQ (lL e oz (lX 65 (sB j) ((wds a).length) ((wds a).length) 1 (i:Nat) i rfl ?_)))));refine lQ 66 0 l ar 1 0 i (mV ((l).getD i 0)) e oM (lL e aD ?_);obtain ⟨u,zc,bk,bm,bl,L⟩:=fa ((l).getD i 0) 0 y wM wM oM;refine lV 69 (.tuple #[mV u,mV zc]) ?_ (hr:=ef kR (L _));refine lL e [.c,.v (mV u),.v (mV zc)] (lX 72 (sB j) ((wds a).length) ((wds a).length) 1 (i:Nat) i rfl ?_);refine lW 0 l ar 1 i u e oM (fun _ e=>?_);have zi:((l).set i u).length=(wds a).length:=by rw[Mg];exact hll
 replace e:=e.to [⟨j,38,((l).set i u).flatMap ar⟩,⟨B,40,[uV 0,eS]⟩,⟨H,40,nc 0⟩,⟨C,40,nc a⟩] [];refine lL e ac (lN (kQ (bp 73 ((i:Nat)+1) (i+1) ?_)));refine lL e ac (lD ?_);intro a_ ka;refine ⟨_,_,?_,⟨i+1,(l).set i u,zc,zk,rfl,rfl,e.to _ _,oM,zi,(O.set _ oM),oM,(gU oM inv (by first|omega|(have hy0:=cn (l:=([]:List Nat)) (k:=i) (by first|omega|(simp;done));omega)))⟩,ka.to _ kR⟩
 omega
theorem IH (a b:Nat)(d:(wds a).length<=1000000000)(c:(wds b).length<=1000000000)(w:World)(h:Hp)(g:G w h):CV 125 #[nv a,nv b] w h (nv (a+b)):=by
 rcases dS a 18446744073709551616 with h1|h1
 ·rcases dS b 18446744073709551616 with h2|h2
  ·exact HX a b d c h1 h2 w h g
  ·rcases Au a with h3|h3
   ·subst h3;exact FW b c h2 w h g
   ·exact E6 a b d c h3 h2 (by have:=de h2;have:=(eE (n:=a)).2 h1;omega) w h g
 ·rcases Au b with h3|h3
  ·subst h3;exact FT a d h1 w h g
  ·rcases dS (wds a).length (wds b).length with h4|h4
   ·exact E6 a b d c oM (by have:=de h1;rcases dS b 18446744073709551616 with h5|h5;(have:=(eE (n:=b)).2 h5;omega);exact h5) h4 w h g
   ·exact IX a b d c h1 h3 h4 w h g
theorem oS {l:List Nat}{a b c:Nat}(f:Wd l)(inv:ai 18446744073709551616 l+b=a+18446744073709551616^l.length*c)(e:b<=a)(d:c<=1):aA l=a-b:=by
 have h1:=bM f
 have:c=0:=by
  rcases Au c with h|h
  ·exact h
  ·have:c=1:=by omega
   subst this;rw[LP] at inv
   omega
 subst this;rw[Lw,wj] at inv
 show ai _ l=_
 omega
theorem DR {a b q r:Nat}(h:a=b*q+r)(hr:r<b):q=a/b/\r=a%b:=by
 subst h;rw[Nat.mul_add_div oM,G3 hr,Nat.mul_add_mod,z1 hr];simp
theorem gn (n:Nat)(e:(wds n).length<=1000000000)(w:World)(h:Hp)(g:G w h):CR 133 #[nv n] w h (fun v h1=>∃ A c,v=.slice A (wds n).length c/\(wds n).length<=c/\SlO 1 ar 0 h1 A (wds n)):=by
 rcases Au n with h0|h0
 ·subst h0
  refine (k8 w h g).mono ?_;rintro _ w' ⟨_,a,rfl,u,rfl⟩;exact ⟨_,a,rfl,u,none,0,rfl,nR _,SlO.nil⟩
 ·refine (fY n h0 e w h g).mono ?_
  rintro _ w' ⟨_,a,rfl,u,b,rfl,_,_,d⟩;exact ⟨_,a,rfl,u,_,_,rfl,nR _,d⟩
theorem E4 (a b:Nat)(d:a<b)(e:(wds a).length<=1000000000)(i:(wds b).length<=1000000000)(w:World)(h:Hp)(g:G w h):CV 126 #[nv a,nv b] w h (.tuple #[nv 0,.bool false]):=by
 have c:=sS g;have l:=dZ d;refine go Tryz.func126 [(0,nv a),(1,nv b)] rfl (ax (lA 2 40 (nc a) c (fun z w2 B c=>lA 3 40 (nc b) c (fun C y u c=>lA 4 40 ([uV 0,eS]) c (fun x D F c=>lL c ac (ag (aa c [.o (nv a) 2 0 2,.o (nv b) 1 0 2] (aq 13 c (mi a b e i _ _ c.g) (fun _ _ c=>?_)))))))));have ⟨j,f⟩:=dT (p:=(bZ a b:Int)<(0:Int)) oM;exact lB 14 j (am (aa c [.v (.agg #[uV 0,eS])] (lP 0 0 ([uV 0,eS]) c (fun _ c=>lL c ac (ae c [(0,0,2)] (.tuple #[.agg #[uV 0,eS],qF]) rfl)))))
theorem IJ (a b:Nat)(e:(wds a).length<=1000000000)(i:(wds b).length<=1000000000)(d:b<=a)(has:a<18446744073709551616)(w:World)(h:Hp)(g:G w h):CV 126 #[nv a,nv b] w h (.tuple #[nv (a-b),.bool true]):=by
 have c:=sS g;have x:=fF d;refine go Tryz.func126 [(0,nv a),(1,nv b)] rfl (ax (lA 2 40 (nc a) c (fun j w2 C c=>lA 3 40 (nc b) c (fun l B y c=>lA 4 40 ([uV 0,eS]) c (fun z D F c=>lL c ac (ag (aa c [.o (nv a) 2 0 2,.o (nv b) 1 0 2] (aq 13 c (mi a b e i _ _ c.g) (fun _ _ c=>?_)))))))));have ⟨u,f⟩:=dF (p:=(bZ a b:Int)<(0:Int)) oM;refine lB 14 u (ah (cK (cQ (aa c [.v (qP j 1),.o (.string (hi a)) 2 1 1] (lV 18 qT ?_ (hr:=rb kR (jN (fg has))))))));refine am (aa c [.v (pB j),.o (mV (a%18446744073709551616)) 2 0 1,.v (pB l),.o (mV (b%18446744073709551616)) 1 0 1] (lV 23 (mV ((a%18446744073709551616)-(b%18446744073709551616))) ?_ (hr:=rU ((((a%18446744073709551616:Nat):Int)-((b%18446744073709551616:Nat):Int))) kR (fA (a%18446744073709551616) (b%18446744073709551616) oM oM))));exact lL c [.v (.agg #[mV ((a%18446744073709551616)-(b%18446744073709551616)),eS])] (lP 0 0 ([mV ((a%18446744073709551616)-(b%18446744073709551616)),eS]) c (fun _ c=>lL c ac (ae c [(0,0,2)] (.tuple #[.agg #[mV ((a%18446744073709551616)-(b%18446744073709551616)),eS],qT]) (by rw[z1 has,z1 (show b<18446744073709551616 by omega),js oM]))))
theorem Ic (a b:Nat)(hla:(wds a).length<=1000000000)(hlb:(wds b).length<=1000000000)(W:b<=a)(has:18446744073709551616<=a)(hb0:0<b)(w:World)(h:Hp)(g:G w h):CV 126 #[nv a,nv b] w h (.tuple #[nv (a-b),.bool true]):=by
 have e:=sS g;have hcl:=fF W;have hlm:=dg W;refine go Tryz.func126 [(0,nv a),(1,nv b)] rfl (ax (lA 2 40 (nc a) e (fun C w2 h3 e=>lA 3 40 (nc b) e (fun H w5 h6 e=>lA 4 40 ([uV 0,eS]) e (fun B w8 h9 e=>lL e ac (ag (aa e [.o (nv a) 2 0 2,.o (nv b) 1 0 2] (aq 13 e (mi a b hla hlb _ _ e.g) (fun zl _ e=>?_)))))))));have ⟨zi,bd⟩:=dF (p:=(bZ a b:Int)<(0:Int)) oM;refine lB 14 zi (ah (cK (cQ (aa e [.v (qP C 1),.o (.string (hi a)) 2 1 1] (lV 18 qF ?_ (hr:=rb kR (jf (fE has))))))));refine ah (cK (cQ ?_));obtain ⟨I,hK_⟩:∃ I,I=zl.heap.size:=⟨_,rfl⟩;have bb:B<I:=by rw[hK_];exact ff e 0
 have F:H<I:=by rw[hK_];exact ff e 1
 have D:C<I:=by rw[hK_];exact ff e 2
 refine vk ⟨[],some (I,[])⟩ 0 mixed ?_;have bx:=e.g.size;replace e:=e.drew;have y:=MF hK_;refine zO 0 25 [(2,0,2)] (nv a) rfl y e (fun p hp=>by obtain rfl:=sy.1 hp;exact D) (zO 2 27 [(1,0,2)] (nv b) rfl y e (fun p hp=>by obtain rfl:=sy.1 hp;exact F) (sH 1 26 (fY a oM oM _ _ e.g) rfl y ?_));rintro _ _ _ u15 y ⟨j,rfl,X,V,br⟩;obtain ⟨_,e,-,-⟩:=e.take u15 X V;replace e:=e.to [⟨j,38,(wds a).flatMap ar⟩,⟨B,40,[uV 0,eS]⟩,⟨H,40,nc b⟩,⟨C,40,nc a⟩] [];refine sH 3 28 (fY b oM oM _ _ e.g) rfl y ?_;rintro _ _ _ u19 y ⟨u,rfl,S,K,bq⟩;obtain ⟨zm,e,-,-⟩:=e.take u19 S K;replace e:=e.to [⟨u,38,(wds b).flatMap ar⟩,⟨j,38,(wds a).flatMap ar⟩,⟨B,40,[uV 0,eS]⟩,⟨H,40,nc b⟩,⟨C,40,nc a⟩] [];refine zV 4 6 (qS (sB j) ((wds a).length) ((wds a).length)) (zV 5 7 (qS (sB u) ((wds b).length) ((wds b).length)) (qy (lL e ac (ag (aa e [.c,.v (nV ((wds a).length)),.c] (aZ ?_))))));refine bH _ (CG.loop (fun μ_ Γ w_=>∃ (i:Nat)(l:List Nat)(J:Nat)(h_:Hp),μ_=(wds a).length-i/\Γ=[(4,pB B),(5,qF),(6,qS (sB j) ((wds a).length) ((wds a).length)),(7,qS (sB u) ((wds b).length) ((wds b).length)),(30,nV ((wds a).length)),(31,nV i),(8,mV J)]/\SS w h w_ h_ [⟨u,38,(wds b).flatMap ar⟩,⟨j,38,(l).flatMap ar⟩,⟨B,40,[uV 0,eS]⟩,⟨H,40,nc b⟩,⟨C,40,nc a⟩] [] []/\i<=(wds a).length/\l.length=(wds a).length/\Wd l/\J<=1/\ai 18446744073709551616 l+ai 18446744073709551616 ((wds b:List Nat).take i)=a+18446744073709551616^i*J) _ ⟨0,wds a,0,zm,rfl,rfl,e.to _ _,My _,rfl,Wd.wds _,oM,(by have hx_:ai 18446744073709551616 (wds a)=a:=ay _;rw[hx_];simp[ai])⟩ ?_);rintro _ _ _ ⟨i,l,J,zg,bk,rfl,e,hi,O,L,hbo,inv⟩;have hlk:=L.get i;have hyk:=(Wd.wds b).get i;refine ax ?_;cases Y:(decide ((i:Int)<(((wds a).length:Nat):Int)))
 .
  have ze:=oF Y;refine lB 32 Y (ag (dD (CG.exit ?_)))
  show CG _ _ _ _ _ _ _ _
  refine ax ?_;rw[LU (show (wds b).length<=i by first|omega|(simp;done)|(simp;omega)),show i=l.length by omega] at inv
  have hE:aA l=a-b:=oS L (by have hb_:ai 18446744073709551616 (wds b)=b:=ay b;rw[<-hb_];exact inv) oM hbo;obtain ⟨_,e,M,bl,bt⟩:=e.pub 1;replace e:=(e.to [⟨u,38,(wds b).flatMap ar⟩,⟨B,40,[uV 0,eS]⟩,⟨H,40,nc b⟩,⟨C,40,nc a⟩] []).aS (SlO.of_flat (sz:=1) (f:=ar) (d:=0) (b:=j) (o:=0) (l:=l) (fun _=>rfl) M);exact lL e ac (aq 57 e (dI (sB j) ((wds a).length) (l) ((wds a).length) ((a-b)) (by first|rfl|assumption|(simp;done)|(simp;omega)|omega) (L) (hE) sM sM _ _ e.g e.f.1) (fun _ _ e=>lP 1 0 (nc (a-b)) e (fun _ e=>lL e ac (ae e [(1,0,2)] (.tuple #[nv (a-b),qT]) rfl))))
 have ze:=oT Y;refine lB 32 Y (ag (ct (cK (cQ (kZ (aa e aD (aG (lL e ac (ag (aa e [.c,.c,.v (nV ((wds b).length))] ?_))))))))));cases Z:(decide ((i:Int)<(((wds b).length:Nat):Int)))
 .
  have zf:=oF Z;refine lB 37 Z (ah (cK (kQ (lL e oz (lX 47 (sB j) ((wds a).length) ((wds a).length) 1 (i:Nat) i rfl ?_)))));refine lQ 48 1 l ar 1 0 i (mV ((l).getD i 0)) e oM (lL e aD ?_);obtain ⟨x,zc,bf,bm,bn,Q⟩:=jw ((l).getD i 0) 0 J wM wM oM;refine lV 51 (.tuple #[mV x,mV zc]) ?_ (hr:=ef kR (Q _));refine lL e [.c,.v (mV x),.v (mV zc)] (lX 54 (sB j) ((wds a).length) ((wds a).length) 1 (i:Nat) i rfl ?_);refine lW 1 l ar 1 i x e oM (fun _ e=>?_);have zj:((l).set i x).length=(wds a).length:=by rw[Mg];exact O
  replace e:=e.to [⟨u,38,(wds b).flatMap ar⟩,⟨j,38,((l).set i x).flatMap ar⟩,⟨B,40,[uV 0,eS]⟩,⟨H,40,nc b⟩,⟨C,40,nc a⟩] [];refine lL e ac (lN (kQ (bp 55 ((i:Nat)+1) (i+1) ?_)));refine lL e ac (lD ?_);intro a_ ka;refine ⟨_,_,?_,⟨i+1,(l).set i x,zc,zg,rfl,rfl,e.to _ _,oM,zj,(L.set _ oM),oM,(iR oM inv (by first|omega|(have hy0:=cn (l:=(wds b:List Nat)) (k:=i) (by first|omega|(simp;done));omega)))⟩,ka.to _ kR⟩
  omega
 have zf:=oT Z;refine lB 37 Z (am (kQ (lL e aD (lX 40 (sB u) ((wds b).length) ((wds b).length) 1 (i:Nat) i rfl ?_))));refine lQ 41 0 (wds b) ar 1 0 i (mV ((wds b).getD i 0)) e oM (lL e ac (lN (kQ (lL e oz (lX 47 (sB j) ((wds a).length) ((wds a).length) 1 (i:Nat) i rfl ?_)))));refine lQ 48 1 l ar 1 0 i (mV ((l).getD i 0)) e oM (lL e aD ?_);obtain ⟨z,zd,b2,bz,b0,U⟩:=jw ((l).getD i 0) ((wds b).getD i 0) J wM wM oM;refine lV 51 (.tuple #[mV z,mV zd]) ?_ (hr:=ef kR (U _));refine lL e [.c,.v (mV z),.v (mV zd)] (lX 54 (sB j) ((wds a).length) ((wds a).length) 1 (i:Nat) i rfl ?_);refine lW 1 l ar 1 i z e oM (fun _ e=>?_);have zk:((l).set i z).length=(wds a).length:=by rw[Mg];exact O
 replace e:=e.to [⟨u,38,(wds b).flatMap ar⟩,⟨j,38,((l).set i z).flatMap ar⟩,⟨B,40,[uV 0,eS]⟩,⟨H,40,nc b⟩,⟨C,40,nc a⟩] [];refine lL e ac (lN (kQ (bp 55 ((i:Nat)+1) (i+1) ?_)));refine lL e ac (lD ?_);intro a_ ka;refine ⟨_,_,?_,⟨i+1,(l).set i z,zd,zg,rfl,rfl,e.to _ _,oM,zk,(L.set _ oM),oM,(iR oM inv (by first|omega|(have hy0:=cn (l:=(wds b:List Nat)) (k:=i) (by first|omega|(simp;done));omega)))⟩,ka.to _ kR⟩
 omega
theorem Jq (a:Nat)(hla:(wds a).length<=1000000000)(has:18446744073709551616<=a)(w:World)(h:Hp)(g:G w h):CV 126 #[nv a,nv 0] w h (.tuple #[nv a,.bool true]):=by
 have e:=sS g;have hcl:=fF (show 0<=a by omega);refine go Tryz.func126 [(0,nv a),(1,nv 0)] rfl (ax (lA 2 40 (nc a) e (fun C w2 h3 e=>lA 3 40 (nc 0) e (fun H w5 h6 e=>lA 4 40 ([uV 0,eS]) e (fun B w8 h9 e=>lL e ac (ag (aa e [.o (nv a) 2 0 2,.o (nv 0) 1 0 2] (aq 13 e (mi a 0 hla (by simp[mr]) _ _ e.g) (fun zg _ e=>?_)))))))));have ⟨zd,Z⟩:=dF (p:=(bZ a 0:Int)<(0:Int)) oM;refine lB 14 zd (ah (cK (cQ (aa e [.v (qP C 1),.o (.string (hi a)) 2 1 1] (lV 18 qF ?_ (hr:=rb kR (jf (fE has))))))));refine ah (cK (cQ ?_));obtain ⟨D,hK_⟩:∃ D,D=zg.heap.size:=⟨_,rfl⟩;have bb:B<D:=by rw[hK_];exact ff e 0
 have z:H<D:=by rw[hK_];exact ff e 1
 have y:C<D:=by rw[hK_];exact ff e 2
 refine vk ⟨[],some (D,[])⟩ 0 mixed ?_;have bf:=e.g.size;replace e:=e.drew;have x:=MF hK_;refine zO 0 25 [(2,0,2)] (nv a) rfl x e (fun p X=>by obtain rfl:=sy.1 X;exact y) (zO 2 27 [(1,0,2)] (nv 0) rfl x e (fun p X=>by obtain rfl:=sy.1 X;exact z) (sH 1 26 (fY a oM oM _ _ e.g) rfl x ?_));rintro _ _ _ Q x ⟨j,rfl,I,K,br⟩;obtain ⟨_,e,-,-⟩:=e.take Q I K;replace e:=e.to [⟨j,38,(wds a).flatMap ar⟩,⟨B,40,[uV 0,eS]⟩,⟨H,40,nc 0⟩,⟨C,40,nc a⟩] [];refine sH 3 28 (k8 _ _ e.g) rfl x ?_;rintro _ _ zi u19 x rfl;replace e:=e.step u19;refine zV 4 6 (qS (sB j) ((wds a).length) ((wds a).length)) (zV 5 7 (sZ) (qy (lL e ac (ag (aa e [.c,.v (nV ((wds a).length)),.c] (aZ ?_))))));refine bH _ (CG.loop (fun V Γ w_=>∃ (i:Nat)(l:List Nat)(L:Nat)(h_:Hp),V=(wds a).length-i/\Γ=[(4,pB B),(5,qF),(6,qS (sB j) ((wds a).length) ((wds a).length)),(7,sZ),(30,nV ((wds a).length)),(31,nV i),(8,mV L)]/\SS w h w_ h_ [⟨j,38,(l).flatMap ar⟩,⟨B,40,[uV 0,eS]⟩,⟨H,40,nc 0⟩,⟨C,40,nc a⟩] [] []/\i<=(wds a).length/\l.length=(wds a).length/\Wd l/\L<=1/\ai 18446744073709551616 l+ai 18446744073709551616 (([]:List Nat).take i)=a+18446744073709551616^i*L) _ ⟨0,wds a,0,zi,rfl,rfl,e.to _ _,My _,rfl,Wd.wds _,oM,(by have W:ai 18446744073709551616 (wds a)=a:=ay _;rw[W];simp[ai])⟩ ?_);rintro _ _ _ ⟨i,l,L,zj,bq,rfl,e,hi,Y,M,U,inv⟩;have hlk:=M.get i;have hyk:=Wd.get (l:=[]) Dg.nil i;refine ax ?_;cases O:(decide ((i:Int)<(((wds a).length:Nat):Int)))
 .
  have zc:=oF O;refine lB 32 O (ag (dD (CG.exit ?_)))
  show CG _ _ _ _ _ _ _ _
  refine ax ?_;rw[List.take_nil,show i=l.length by omega] at inv
  have hE:aA l=a:=oS (b:=0) M inv oM U;obtain ⟨_,e,J,bm,bl⟩:=e.pub 0;replace e:=(e.to [⟨B,40,[uV 0,eS]⟩,⟨H,40,nc 0⟩,⟨C,40,nc a⟩] []).aS (SlO.of_flat (sz:=1) (f:=ar) (d:=0) (b:=j) (o:=0) (l:=l) (fun _=>rfl) J);exact lL e ac (aq 57 e (dI (sB j) ((wds a).length) (l) ((wds a).length) (a) (by first|rfl|assumption|(simp;done)|(simp;omega)|omega) (M) (hE) sM sM _ _ e.g e.f.1) (fun _ _ e=>lP 0 0 (nc a) e (fun _ e=>lL e ac (ae e [(0,0,2)] (.tuple #[nv a,qT]) rfl))))
 have zc:=oT O;refine lB 32 O (ag (ct (cK (cQ (kZ (aa e aD (aG (lL e ac (ag (aa e [.c,.c,.v (iV 0)] ?_))))))))));have ⟨ze,S⟩:=dF (p:=(i:Int)<(0:Int)) oM;refine lB 37 ze (ah (cK (kQ (lL e oz (lX 47 (sB j) ((wds a).length) ((wds a).length) 1 (i:Nat) i rfl ?_)))));refine lQ 48 0 l ar 1 0 i (mV ((l).getD i 0)) e oM (lL e aD ?_);obtain ⟨u,zb,bd,bk,bn,F⟩:=jw ((l).getD i 0) 0 L wM wM oM;refine lV 51 (.tuple #[mV u,mV zb]) ?_ (hr:=ef kR (F _));refine lL e [.c,.v (mV u),.v (mV zb)] (lX 54 (sB j) ((wds a).length) ((wds a).length) 1 (i:Nat) i rfl ?_);refine lW 0 l ar 1 i u e oM (fun _ e=>?_);have zf:((l).set i u).length=(wds a).length:=by rw[Mg];exact Y
 replace e:=e.to [⟨j,38,((l).set i u).flatMap ar⟩,⟨B,40,[uV 0,eS]⟩,⟨H,40,nc 0⟩,⟨C,40,nc a⟩] [];refine lL e ac (lN (kQ (bp 55 ((i:Nat)+1) (i+1) ?_)));refine lL e ac (lD ?_);intro a_ ka;refine ⟨_,_,?_,⟨i+1,(l).set i u,zb,zj,rfl,rfl,e.to _ _,oM,zf,(M.set _ oM),oM,(iR oM inv (by first|omega|(have hy0:=cn (l:=([]:List Nat)) (k:=i) (by first|omega|(simp;done));omega)))⟩,ka.to _ kR⟩
 omega
theorem B7 (a b:Nat)(d:b<=a)(c:(wds a).length<=1000000000)(e:(wds b).length<=1000000000)(w:World)(h:Hp)(g:G w h):CV 126 #[nv a,nv b] w h (.tuple #[nv (a-b),.bool true]):=by
 rcases dS a 18446744073709551616 with h1|h1
 ·exact IJ a b c e d h1 w h g
 ·rcases Au b with h3|h3
  ·subst h3;exact Jq a c h1 w h g
  ·exact Ic a b c e d h1 h3 w h g
theorem H6 (a b:Nat)(M:(wds a).length<=1000000000)(J:(wds b).length<=1000000000)(has:a<18446744073709551616)(u:b<18446744073709551616)(w:World)(h:Hp)(g:G w h):CV 83 #[nv a,nv b] w h (nv (a*b)):=by
 have e:=sS g;have z:=z1 has;have B:=z1 u;refine go Tryz.func83 [(0,nv a),(1,nv b)] rfl (ax (lA 2 40 (nc a) e (fun F w2 U e=>lA 3 40 (nc b) e (fun H S O e=>lA 4 40 ([uV 0,eS]) e (fun Q V W e=>ag (aa e [.v (qP F 1),.o (.string (hi a)) 2 1 1] (lV 9 qT ?_ (hr:=rb kR (jN (fg has))))))))));refine lL e [.c,.v (qP H 1),.o (.string (hi b)) 1 1 1] (lV 13 qT ?_ (hr:=rb kR (jN (fg u))));refine lL e [.v qT] (am (aa e [.v (pB F),.o (mV (a%18446744073709551616)) 2 0 1,.v (pB H),.o (mV (b%18446744073709551616)) 1 0 1] (lC 20 e (pi (a%18446744073709551616) (b%18446744073709551616) wM wM _ _ e.g) ?_)));rintro _ _ _ e ⟨i,j,rfl,p,C,I,D⟩;have x:=jT (a:=(a%18446744073709551616)) (b:=(b%18446744073709551616)) wM wM;refine lL e [.c,.v (mV i),.v (mV j),.c,.c] (ag (ax ?_));rw[z,B] at p
 refine lL e ac ?_;cases y:((i:Int) == (0:Int))
 .
  have L:=aj y;refine lB 24 y (ah (cK (aa e aD (lR 29 38 2 ([mV j,mV i]) e (fun K _ _ e=>?_)))));replace e:=e.aS (SlO.of_flat (sz:=1) (f:=ar) (d:=0) (l:=[j,i]) (fun _=>rfl) e.f.1);exact aq 30 e (dI (sB K) 2 ([j,i]) 2 ((a*b)) (by first|rfl|assumption|(simp;done)|(simp;omega)|omega) (Dg.cons oM (Dg.one oM)) (by show j+18446744073709551616*(i+18446744073709551616*0)=a*b;omega) sM sM _ _ e.g e.f.1) (fun _ _ e=>lP 0 0 (nc (a*b)) e (fun _ e=>ae e [(0,0,2)] (nv (a*b)) rfl))
 have L:=eq_of_beq y;exact lB 24 y (am (aa e [.c,.v (.agg #[mV j,eS])] (lP 0 0 ([mV j,eS]) e (fun _ e=>ae e [(0,0,2)] (.agg #[mV j,eS]) (by rw[show j=a*b by omega];exact js oM)))))
theorem Ig (a b:Nat)(F:(wds a).length<=1000000000)(J:(wds b).length<=1000000000)(has:18446744073709551616<=a)(w:World)(h:Hp)(g:G w h):CV 83 #[nv a,nv b] w h (nv (a*b)):=by
 have c:=sS g;refine go Tryz.func83 [(0,nv a),(1,nv b)] rfl (ax (lA 2 40 (nc a) c (fun D w2 S c=>lA 3 40 (nc b) c (fun U Q M c=>lA 4 40 ([uV 0,eS]) c (fun O V W c=>ag (aa c [.v (qP D 1),.o (.string (hi a)) 2 1 1] (lV 9 qF ?_ (hr:=rb kR (jf (fE has))))))))));refine lL c ac (lG 11 ?_);refine lG 12 (lG 13 (lL c [.v qF] (ah (cK (cQ (cR 6 [] mixed c ao ?_))))));refine eO 0 31 [(2,0,2)] (nv a) c (eO 2 33 [(1,0,2)] (nv b) c (eC 1 32 c (fun _ _ c=>gn a oM _ _ c.g) ?_));rintro _ _ _ _ _ c ⟨x,u,rfl,z,i⟩;replace c:=c.aS i;refine eC 3 34 c (fun _ _ c=>gn b oM _ _ c.g) ?_;rintro _ _ _ _ _ c ⟨l,d,rfl,y,j⟩;replace c:=c.aS j;refine eC 4 35 c (fun _ _ c=>EQ x u (wds a) l d (wds b) (Wd.wds a) (Wd.wds b) oM oM _ _ c.g c.f.2.1 c.f.1) ?_;rintro _ _ _ _ _ c ⟨K,H,B,rfl,C,I,e,p,L⟩;replace c:=c.aS L;exact au 5 36 c (fun _ _ c=>dI K H (B) B.length ((a*b)) (by first|rfl|assumption|(simp;done)|(simp;omega)|omega) (e) (p.trans (by rw[ay,ay])) sM sM _ _ c.g c.f.1) (fun _ _ c=>bU c (fun _ _ c=>tP 6 0 0 (nc (a*b)) c (fun _ c=>tN (kX (c.ret [(0,0,2)] (nv (a*b)) rfl)))))
theorem JA (a b:Nat)(I:(wds a).length<=1000000000)(M:(wds b).length<=1000000000)(has:a<18446744073709551616)(z:18446744073709551616<=b)(w:World)(h:Hp)(g:G w h):CV 83 #[nv a,nv b] w h (nv (a*b)):=by
 have d:=sS g;refine go Tryz.func83 [(0,nv a),(1,nv b)] rfl (ax (lA 2 40 (nc a) d (fun H w2 W d=>lA 3 40 (nc b) d (fun J V S d=>lA 4 40 ([uV 0,eS]) d (fun U X Y d=>ag (aa d [.v (qP H 1),.o (.string (hi a)) 2 1 1] (lV 9 qT ?_ (hr:=rb kR (jN (fg has))))))))));refine lL d [.c,.v (qP J 1),.o (.string (hi b)) 1 1 1] (lV 13 qF ?_ (hr:=rb kR (jf (fE z))));refine lL d [.v qF] (ah (cK (cQ (cR 6 [] mixed d ao ?_))));refine eO 0 31 [(2,0,2)] (nv a) d (eO 2 33 [(1,0,2)] (nv b) d (eC 1 32 d (fun _ _ d=>gn a oM _ _ d.g) ?_));rintro _ _ _ _ _ d ⟨y,x,rfl,C,j⟩;replace d:=d.aS j;refine eC 3 34 d (fun _ _ d=>gn b oM _ _ d.g) ?_;rintro _ _ _ _ _ d ⟨p,e,rfl,B,l⟩;replace d:=d.aS l;refine eC 4 35 d (fun _ _ d=>EQ y x (wds a) p e (wds b) (Wd.wds a) (Wd.wds b) oM oM _ _ d.g d.f.2.1 d.f.1) ?_;rintro _ _ _ _ _ d ⟨O,K,D,rfl,F,L,i,u,Q⟩;replace d:=d.aS Q;exact au 5 36 d (fun _ _ d=>dI O K (D) D.length ((a*b)) (by first|rfl|assumption|(simp;done)|(simp;omega)|omega) (i) (u.trans (by rw[ay,ay])) sM sM _ _ d.g d.f.1) (fun _ _ d=>bU d (fun _ _ d=>tP 6 0 0 (nc (a*b)) d (fun _ d=>tN (kX (d.ret [(0,0,2)] (nv (a*b)) rfl)))))
theorem qJ (a b:Nat)(d:(wds a).length<=1000000000)(c:(wds b).length<=1000000000)(w:World)(h:Hp)(g:G w h):CV 83 #[nv a,nv b] w h (nv (a*b)):=by
 rcases dS a 18446744073709551616 with h1|h1
 ·rcases dS b 18446744073709551616 with h2|h2
  ·exact H6 a b d c h1 h2 w h g
  ·exact JA a b d c h1 h2 w h g
 ·exact Ig a b d c h1 w h g
theorem E2 (a b:Nat)(I:0<b)(O:(wds a).length<=1000000000)(H:(wds b).length<=1000000000)(has:a<18446744073709551616)(l:b<18446744073709551616)(w:World)(h:Hp)(g:G w h):CV 127 #[nv a,nv b] w h (.tuple #[nv (a/b),nv (a%b),.bool true]):=by
 have d:=sS g;have J:=(cB I).2.2;have K:=z1 l;refine go Tryz.func127 [(0,nv a),(1,nv b)] rfl (ax (lA 2 40 (nc a) d (fun B w2 V d=>lA 3 40 (nc b) d (fun C U S d=>lA 4 40 ([uV 0,eS]) d (fun M W X d=>lA 5 40 ([uV 0,eS]) d (fun Q _ _ d=>lL d ac (ag (aa d [.o (nv b) 2 0 2] (aq 12 d (fz b H _ _ d.g) (fun _ _ d=>?_))))))))));have L:(((nb b:Nat):Int) == (0:Int))=false:=eU oM;have D:=aj L;refine lB 13 L (ah (cK (cQ (aa d [.v (qP B 1),.o (.string (hi a)) 3 1 1] (lV 18 qT ?_ (hr:=rb kR (jN (fg has))))))));refine lL d [.c,.v (qP C 1),.o (.string (hi b)) 2 1 1] (lV 22 qT ?_ (hr:=rb kR (jN (fg l))));refine lL d [.v qT] (am (cQ ?_));have z:=d;refine Ci 12 [] [M,Q] mixed d ao (eV 0 24 (pB B) (eO 1 25 [(3,0,1)] (mV (a%18446744073709551616)) d (eV 2 26 (pB C) (eO 3 27 [(2,0,1)] (mV (b%18446744073709551616)) d (eV 4 28 (mV ((a%18446744073709551616)/(b%18446744073709551616))) ?_ (hv:=fun _=>aK (dB (t:=38) (u:=38) (x:=.tmp 25) (y:=.tmp 27) (k:=.u64) (a:=((a%18446744073709551616:Nat):Int)) (b:=((b%18446744073709551616:Nat):Int)) kR kR kR oM _) (kg (a%18446744073709551616) (b%18446744073709551616) oM)))))));refine eV 5 29 (.agg #[mV ((a%18446744073709551616)/(b%18446744073709551616)),eS]) (eV 6 30 (pB B) (By 7 31 [(3,0,1)] (mV (a%18446744073709551616)) z d ?_ (hM:=fun p F=>by obtain rfl:=sy.1 F;exact fun f=>by rcases g2.1 f with e|f;exact gC d.st (i:=3) (j:=1) kR kR kR e;rcases g2.1 f with e|f;exact gC d.st (i:=3) (j:=0) kR kR kR e;cases f)));refine eV 8 32 (pB C) (By 9 33 [(2,0,1)] (mV (b%18446744073709551616)) z d ?_ (hM:=fun p F=>by obtain rfl:=sy.1 F;exact fun f=>by rcases g2.1 f with e|f;exact gC d.st (i:=2) (j:=1) kR kR kR e;rcases g2.1 f with e|f;exact gC d.st (i:=2) (j:=0) kR kR kR e;cases f));refine eV 10 34 (mV ((a%18446744073709551616)%(b%18446744073709551616))) ?_ (hv:=fun _=>aK (fj (t:=38) (u:=38) (x:=.tmp 31) (y:=.tmp 33) (k:=.u64) (a:=((a%18446744073709551616:Nat):Int)) (b:=((b%18446744073709551616:Nat):Int)) kR kR kR oM _) (dq (a%18446744073709551616) (b%18446744073709551616)));refine eV 11 35 (.agg #[mV ((a%18446744073709551616)%(b%18446744073709551616)),eS]) (bU d (fun _ _ d=>tP 12 1 0 ([mV ((a%18446744073709551616)/(b%18446744073709551616)),eS]) d (fun _ d=>?_) (hz:=fi (MG))));refine tP 13 0 0 ([mV ((a%18446744073709551616)%(b%18446744073709551616)),eS]) d (fun _ d=>?_) (hz:=fi (MH _<|MG));exact tV 14 6 qT (tN (kX (d.ret [(1,0,2),(0,0,2)] (.tuple #[.agg #[mV ((a%18446744073709551616)/(b%18446744073709551616)),eS],.agg #[mV ((a%18446744073709551616)%(b%18446744073709551616)),eS],qT]) (by rw[z1 has,z1 l,js (show a/b<18446744073709551616 by have:=Gb a b;omega),js (show a%b<18446744073709551616 by have:=z2 a I;omega)]))))
theorem JB (a b:Nat)(hb:0<b)(I:(wds a).length<=1000000000)(M:(wds b).length<=1000000000)(has:18446744073709551616<=a)(C:b<18446744073709551616)(w:World)(h:Hp)(g:G w h):CV 127 #[nv a,nv b] w h (.tuple #[nv (a/b),nv (a%b),.bool true]):=by
 have i:=sS g;have bl:=(cB hb).2.2;have bn:=z1 C;have hcl:=fF (show b<=a by omega);refine go Tryz.func127 [(0,nv a),(1,nv b)] rfl (ax (lA 2 40 (nc a) i (fun J w2 h3 i=>lA 3 40 (nc b) i (fun D w5 h6 i=>lA 4 40 ([uV 0,eS]) i (fun S w8 h9 i=>lA 5 40 ([uV 0,eS]) i (fun V _ _ i=>lL i ac (ag (aa i [.o (nv b) 2 0 2] (aq 12 i (fz b M _ _ i.g) (fun _ _ i=>?_))))))))));have zb:(((nb b:Nat):Int) == (0:Int))=false:=eU oM;have Z:=aj zb;refine lB 13 zb (ah (cK (cQ (aa i [.v (qP J 1),.o (.string (hi a)) 3 1 1] (lV 18 qF ?_ (hr:=rb kR (jf (fE has))))))));refine lL i ac (lG 20 ?_);refine lG 21 (lG 22 (lL i [.v qF] (ah (cK (cQ (aa i [.o (nv a) 3 0 2,.o (nv b) 2 0 2] (aq 38 i (mi a b I M _ _ i.g) (fun zd _ i=>?_))))))));have ⟨zc,X⟩:=dF (p:=(bZ a b:Int)<(0:Int)) oM;refine lB 39 zc (ah (cK (cQ (aa i [.v (qP D 1),.o (.string (hi b)) 2 1 1] (lV 44 qT ?_ (hr:=rb kR (jN (fg C))))))));refine am (cQ ?_);obtain ⟨B,hK_⟩:∃ B,B=zd.heap.size:=⟨_,rfl⟩;have U:V<B:=by rw[hK_];exact ff i 0
 have bb:S<B:=by rw[hK_];exact ff i 1
 have y:D<B:=by rw[hK_];exact ff i 2
 have x:J<B:=by rw[hK_];exact ff i 3
 refine vk ⟨[],some (B,[])⟩ 0 mixed ?_;have bd:=i.g.size;replace i:=i.drew;have u:=MF hK_;refine zO 0 46 [(3,0,2)] (nv a) rfl u i (fun p hp=>by obtain rfl:=sy.1 hp;exact x) (zV 2 48 (pB D) (zO 3 49 [(2,0,1)] (mV (b%18446744073709551616)) rfl u i (fun p hp=>by obtain rfl:=sy.1 hp;exact y) (sH 1 47 (fY a oM oM _ _ i.g) rfl u ?_)));rintro _ _ _ Y u ⟨j,rfl,K,L,bk⟩;obtain ⟨_,i,-,-⟩:=i.take Y K L;replace i:=i.to [⟨j,38,(wds a).flatMap ar⟩,⟨V,40,[uV 0,eS]⟩,⟨S,40,[uV 0,eS]⟩,⟨D,40,nc b⟩,⟨J,40,nc a⟩] [];refine Kz 4 50 (IT j (wds a) (wds a).length (b%18446744073709551616) oM oM (Wd.wds a) I (nR _) _ _ i.g (i.own 0) (i.jk 0)) rfl u oM ?_;rintro _ _ _ W u ⟨z,r,rfl,hzl,hWz,H,F,hOz⟩;replace i:=(i.stepM 0 W hOz).to [⟨j,38,(z).flatMap ar⟩,⟨V,40,[uV 0,eS]⟩,⟨S,40,[uV 0,eS]⟩,⟨D,40,nc b⟩,⟨J,40,nc a⟩] [];refine zV 5 45 (.tuple #[qS (sB j) (tl z z.length) ((wds a).length),mV r]) (zV 6 51 (qS (sB j) (tl z z.length) ((wds a).length)) (zV 7 52 (mV r) (zV 8 7 (qS (sB j) (tl z z.length) ((wds a).length)) (zV 9 8 (mV r) (qy ?_)))));have Q:=z1 C;rw[ay,Q] at H
 rw[Q] at F
 obtain ⟨hq1,hq2⟩:=DR H F;have htz:=iq z z.length;have hQ:aA (z.take (tl z z.length))=a/b:=by have e:=jS 18446744073709551616 z z.length (nR _);rw[yz] at e;exact e.trans hq1
 obtain ⟨_,i,O,bm,bf⟩:=i.pub 0;replace i:=(i.to [⟨V,40,[uV 0,eS]⟩,⟨S,40,[uV 0,eS]⟩,⟨D,40,nc b⟩,⟨J,40,nc a⟩] []).aS (SlO.of_flat (sz:=1) (f:=ar) (d:=0) (b:=j) (o:=0) (l:=z) (fun _=>rfl) O);exact lL i ac (aq 54 i (dI (sB j) ((wds a).length) (z.take (tl z z.length)) (tl z z.length) ((a/b)) (by first|rfl|assumption|(simp;done)|(simp;omega)|omega) (Dg.take hWz _) (hQ) sM sM _ _ i.g ((i.f.1).take _)) (fun _ _ i=>lL i [.c,.v (.agg #[mV r,eS])] (lP 1 0 (nc (a/b)) i (fun _ i=>lP 0 0 ([mV r,eS]) i (fun _ i=>lL i ac (ae i [(1,0,2),(0,0,2)] (.tuple #[nv (a/b),.agg #[mV r,eS],qT]) (by rw[hq2,js (by have:=z2 a hb;omega)])))))))
theorem JL (a b:Nat)(W:0<b)(j:(wds a).length<=1000000000)(i:(wds b).length<=1000000000)(d:b<=a)(has:18446744073709551616<=a)(e:18446744073709551616<=b)(w:World)(h:Hp)(g:G w h):CV 127 #[nv a,nv b] w h (.tuple #[nv (a/b),nv (a%b),.bool true]):=by
 have c:=sS g;have X:=(cB W).2.2;have Z:=fF d;have hlm:=dg d;have hl2:=de e;refine go Tryz.func127 [(0,nv a),(1,nv b)] rfl (ax (lA 2 40 (nc a) c (fun b1 w2 h3 c=>lA 3 40 (nc b) c (fun b4 w5 h6 c=>lA 4 40 ([uV 0,eS]) c (fun b7 w8 h9 c=>lA 5 40 ([uV 0,eS]) c (fun b10 _ _ c=>lL c ac (ag (aa c [.o (nv b) 2 0 2] (aq 12 c (fz b i _ _ c.g) (fun _ _ c=>?_))))))))));have Y:(((nb b:Nat):Int) == (0:Int))=false:=eU oM;have H:=aj Y;refine lB 13 Y (ah (cK (cQ (aa c [.v (qP b1 1),.o (.string (hi a)) 3 1 1] (lV 18 qF ?_ (hr:=rb kR (jf (fE has))))))));refine lL c ac (lG 20 ?_);refine lG 21 (lG 22 (lL c [.v qF] (ah (cK (cQ (aa c [.o (nv a) 3 0 2,.o (nv b) 2 0 2] (aq 38 c (mi a b j i _ _ c.g) (fun _ _ c=>?_))))))));have ⟨zb,B⟩:=dF (p:=(bZ a b:Int)<(0:Int)) oM;refine lB 39 zb (ah (cK (cQ (aa c [.v (qP b4 1),.o (.string (hi b)) 2 1 1] (lV 44 qF ?_ (hr:=rb kR (jf (fE e))))))));refine ah (cK (cQ (cR 8 [] mixed c ao ?_)));refine eO 0 58 [(3,0,2)] (nv a) c (eO 2 60 [(2,0,2)] (nv b) c (eC 1 59 c (fun _ _ c=>gn a oM _ _ c.g) ?_));rintro _ _ _ _ _ c ⟨J,O,rfl,V,D⟩;replace c:=c.aS D;refine eC 3 61 c (fun _ _ c=>gn b oM _ _ c.g) ?_;rintro _ _ _ _ _ c ⟨L,z,rfl,U,I⟩;replace c:=c.aS I;refine eC 4 62 c (fun _ _ c=>Gd J O (wds a) L z (wds b) (Wd.wds a) (Wd.wds b) j oM oM (lj W) _ _ c.g c.f.2.1 c.f.1) ?_;rintro _ _ _ _ _ c ⟨l,y,q,x,u,r,rfl,hcq,hcr,K,F,M,S,hlq,hlr,C,Q⟩;replace c:=c.aP C Q;exact eV 5 57 (.tuple #[qS l q.length y,qS x r.length u]) (eV 6 63 (qS l q.length y) (eV 7 64 (qS x r.length u) (bU c (fun _ _ c=>tV 8 9 (qS l q.length y) (tV 9 10 (qS x r.length u) (qy (lL c ac (aq 66 c (dI l y (q) q.length ((a/b)) (by first|rfl|assumption|(simp;done)|(simp;omega)|omega) (K) (M.trans (by rw[ay,ay])) sM sM _ _ c.g c.f.2.1) (fun _ _ c=>lL c ac (aq 68 c (dI x u (r) r.length ((a%b)) (by first|rfl|assumption|(simp;done)|(simp;omega)|omega) (F) (S.trans (by rw[ay,ay])) sM sM _ _ c.g c.f.1) (fun _ _ c=>lP 1 0 (nc (a/b)) c (fun _ c=>lP 0 0 (nc (a%b)) c (fun _ c=>lL c ac (ae c [(1,0,2),(0,0,2)] (.tuple #[nv (a/b),nv (a%b),qT]) rfl))))))))))))))
theorem I0 (a b:Nat)(K:0<b)(x:(wds a).length<=1000000000)(l:(wds b).length<=1000000000)(f:a<b)(has:a<18446744073709551616)(C:18446744073709551616<=b)(w:World)(h:Hp)(g:G w h):CV 127 #[nv a,nv b] w h (.tuple #[nv (a/b),nv (a%b),.bool true]):=by
 have d:=sS g;have D:=(cB K).2.2;have O:=dZ f;refine go Tryz.func127 [(0,nv a),(1,nv b)] rfl (ax (lA 2 40 (nc a) d (fun I w2 V d=>lA 3 40 (nc b) d (fun J U S d=>lA 4 40 ([uV 0,eS]) d (fun H W X d=>lA 5 40 ([uV 0,eS]) d (fun M _ _ d=>lL d ac (ag (aa d [.o (nv b) 2 0 2] (aq 12 d (fz b l _ _ d.g) (fun _ _ d=>?_))))))))));have F:(((nb b:Nat):Int) == (0:Int))=false:=eU oM;have B:=aj F;refine lB 13 F (ah (cK (cQ (aa d [.v (qP I 1),.o (.string (hi a)) 3 1 1] (lV 18 qT ?_ (hr:=rb kR (jN (fg has))))))));refine lL d [.c,.v (qP J 1),.o (.string (hi b)) 2 1 1] (lV 22 qF ?_ (hr:=rb kR (jf (fE C))));refine lL d [.v qF] (ah (cK (cQ (aa d [.o (nv a) 3 0 2,.o (nv b) 2 0 2] (aq 38 d (mi a b x l _ _ d.g) (fun _ _ d=>?_))))));have ⟨Q,z⟩:=dT (p:=(bZ a b:Int)<(0:Int)) oM;refine lB 39 Q (am (cQ ?_));have y:=d;refine Ci 2 [] [H,M] mixed d ao (eV 0 40 (.agg #[uV 0,eS]) (By 1 41 [(3,0,2)] (nv a) y d ?_ (hM:=fun p L=>by obtain rfl:=sy.1 L;exact fun u=>by rcases g2.1 u with e|u;exact gC d.st (i:=3) (j:=1) kR kR kR e;rcases g2.1 u with e|u;exact gC d.st (i:=3) (j:=0) kR kR kR e;cases u)));refine bU d (fun _ _ d=>tP 2 1 0 ([uV 0,eS]) d (fun _ d=>?_) (hz:=fi (MG)));refine tP 3 0 0 (nc a) d (fun _ d=>?_) (hz:=fi (MH _<|MG));exact tV 4 6 qT (tN (kX (d.ret [(1,0,2),(0,0,2)] (.tuple #[.agg #[uV 0,eS],nv a,qT]) (by have f:a<b:=(by rcases dS a b with h_|h_;exact h_;rcases fF h_ with e|e<;>omega);rw[G3 f,z1 f];rfl))))
theorem IG (a b:Nat)(H:0<b)(u:(wds a).length<=1000000000)(f:(wds b).length<=1000000000)(d:a<b)(has:18446744073709551616<=a)(w:World)(h:Hp)(g:G w h):CV 127 #[nv a,nv b] w h (.tuple #[nv (a/b),nv (a%b),.bool true]):=by
 have c:=sS g;have B:=(cB H).2.2;have K:=dZ d;refine go Tryz.func127 [(0,nv a),(1,nv b)] rfl (ax (lA 2 40 (nc a) c (fun F w2 Q c=>lA 3 40 (nc b) c (fun S O M c=>lA 4 40 ([uV 0,eS]) c (fun D U V c=>lA 5 40 ([uV 0,eS]) c (fun J _ _ c=>lL c ac (ag (aa c [.o (nv b) 2 0 2] (aq 12 c (fz b f _ _ c.g) (fun _ _ c=>?_))))))))));have C:(((nb b:Nat):Int) == (0:Int))=false:=eU oM;have z:=aj C;refine lB 13 C (ah (cK (cQ (aa c [.v (qP F 1),.o (.string (hi a)) 3 1 1] (lV 18 qF ?_ (hr:=rb kR (jf (fE has))))))));refine lL c ac (lG 20 ?_);refine lG 21 (lG 22 (lL c [.v qF] (ah (cK (cQ (aa c [.o (nv a) 3 0 2,.o (nv b) 2 0 2] (aq 38 c (mi a b u f _ _ c.g) (fun _ _ c=>?_))))))));have ⟨L,y⟩:=dT (p:=(bZ a b:Int)<(0:Int)) oM;refine lB 39 L (am (cQ ?_));have x:=c;refine Ci 2 [] [D,J] mixed c ao (eV 0 40 (.agg #[uV 0,eS]) (By 1 41 [(3,0,2)] (nv a) x c ?_ (hM:=fun p I=>by obtain rfl:=sy.1 I;exact fun l=>by rcases g2.1 l with e|l;exact gC c.st (i:=3) (j:=1) kR kR kR e;rcases g2.1 l with e|l;exact gC c.st (i:=3) (j:=0) kR kR kR e;cases l)));refine bU c (fun _ _ c=>tP 2 1 0 ([uV 0,eS]) c (fun _ c=>?_) (hz:=fi (MG)));refine tP 3 0 0 (nc a) c (fun _ c=>?_) (hz:=fi (MH _<|MG));exact tV 4 6 qT (tN (kX (c.ret [(1,0,2),(0,0,2)] (.tuple #[.agg #[uV 0,eS],nv a,qT]) (by have d:a<b:=(by rcases dS a b with h_|h_;exact h_;rcases fF h_ with e|e<;>omega);rw[G3 d,z1 d];rfl))))
theorem JK (a b:Nat)(e:0<b)(d:(wds a).length<=1000000000)(c:(wds b).length<=1000000000)(w:World)(h:Hp)(g:G w h):CV 127 #[nv a,nv b] w h (.tuple #[nv (a/b),nv (a%b),.bool true]):=by
 rcases dS a b with hab|hab
 ·rcases dS a 18446744073709551616 with h1|h1
  ·rcases dS b 18446744073709551616 with h2|h2
   ·exact E2 a b e d c h1 h2 w h g
   ·exact I0 a b e d c hab h1 h2 w h g
  ·exact IG a b e d c hab h1 w h g
 ·rcases dS b 18446744073709551616 with h2|h2
  ·rcases dS a 18446744073709551616 with h1|h1
   ·exact E2 a b e d c h1 h2 w h g
   ·exact JB a b e d c h1 h2 w h g
  ·exact JL a b e d c hab oM h2 w h g
theorem km {z:Int}{b:Bool}{n:Nat}(a:af z=b)(hn:ab z=n):Value.agg #[.bool b,.int .u64 (lo n),.string (hi n)]=iv z:=by subst a hn;rfl
theorem jR {z:Int}{b:Bool}(a:af z=b):iv z=Value.agg #[.bool b,.int .u64 (lo (ab z)),.string (hi (ab z))]:=(km a rfl).symm
theorem ma (x y:Int):bB (af x != af y) (ab x*ab y)=x*y:=by
 rcases hx:af x with _|_<;>rcases hy:af y with _|_
 ·have h1:=a8 hx
  have c:=a8 hy;obtain ⟨a,rfl⟩:=MI h1;obtain ⟨b,rfl⟩:=MI c
  simp[bB,ab,MJ,MK,ML]
 ·have h1:=a8 hx
  have c:=bj hy;obtain ⟨a,rfl⟩:=MI h1;obtain ⟨b,d⟩:=MI (a:=-y) oM;obtain rfl:y = -b:=by omega
  simp[bB,ab,MJ,MK,ML]
 ·have h1:=bj hx
  have c:=a8 hy;obtain ⟨b,rfl⟩:=MI c;obtain ⟨a,ha⟩:=MI (a:=-x) oM;obtain rfl:x = -a:=by omega
  simp[bB,ab,MJ,MK,ML]
 ·have h1:=bj hx
  have c:=bj hy;obtain ⟨a,ha⟩:=MI (a:=-x) oM;obtain ⟨b,d⟩:=MI (a:=-y) oM;obtain rfl:x = -a:=by omega
  obtain rfl:y = -b:=by omega
  simp[bB,ab,MJ,MK,ML]
theorem kC {a b:Nat}:(wds (a+b)).length<=(wds a).length+(wds b).length+1:=by
 refine gd kD ?_;have h1:=dJ a;have c:=dJ b;have d:18446744073709551616^(wds a).length<=18446744073709551616^((wds a).length+(wds b).length):=LA kD oM;have e:18446744073709551616^(wds b).length<=18446744073709551616^((wds a).length+(wds b).length):=LA kD oM;rw[Hj]
 omega
theorem pN {a b k:Nat}(ha:(wds a).length<=k)(c:(wds b).length<=k):(wds (a+b)).length<=k+1:=by
 refine gd kD ?_;have h1:=dJ a;have d:=dJ b;have e:18446744073709551616^(wds a).length<=18446744073709551616^k:=LA kD ha;have f:18446744073709551616^(wds b).length<=18446744073709551616^k:=LA kD c;rw[Hj]
 omega
theorem dC {a b:Nat}:(wds (a*b)).length<=(wds a).length+(wds b).length:=by
 refine gd kD ?_;rw[LC];have h1:=dJ a;have c:=dJ b;exact e4 (Nat.mul_lt_mul'' h1 c) (Nat.le_refl _)
theorem aw {a b k:Nat}(h:a<=b)(c:(wds b).length<=k):(wds a).length<=k:=ep (dg h) c
theorem wy (a:Nat)(w:World)(h:Hp)(g:G w h):CV 56 #[.bool false,nv a] w h (iv (bB false a)):=by
 have b:=sS g;refine go Tryz.func56 [(0,qF),(1,nv a)] rfl (ax (lA 3 40 (nc a) b (fun f w2 i b=>lA 4 42 ([qF,uV 0,eS]) b (fun l e j b=>ag (cR 8 [] mixed b ao ?_)))));exact eV 0 5 qF (eV 1 6 qF (eG 2 7 (eG 3 8 (eG 4 9 (eV 5 10 qF (eO 6 11 [(1,0,2)] (nv a) b (eV 7 12 (wX qF a) (bU b (fun c o b=>tP 8 0 0 (wC qF a) b (fun d b=>tN (kX (b.ret [(0,0,3)] (wX qF a) (km (by rw[jM];rfl) (ft _ _))))))))))))))
theorem GN (u:(wds 0).length<=1000000000)(w:World)(h:Hp)(g:G w h):CV 56 #[.bool true,nv 0] w h (iv (bB true 0)):=by
 have a:=sS g;have b:nb 0=0:=rfl;refine go Tryz.func56 [(0,qT),(1,nv 0)] rfl (ax (lA 3 40 (nc 0) a (fun i w2 j a=>lA 4 42 ([qF,uV 0,eS]) a (fun o f l a=>ag (cR 8 [] mixed a ao ?_)))));refine eV 0 5 qT (eV 1 6 qT (eO 2 7 [(1,0,2)] (nv 0) a (eO 6 11 [(1,0,2)] (nv 0) a (au 3 8 a (fun _ _ a=>fz 0 aM _ _ a.g) (fun c p a=>eV 4 9 qF ?_ (hv:=fun _=>rb (e:=decide ((0:Int)<((nb 0:Nat):Int))) kR (decide_eq_false oM)))))));exact eV 5 10 qF (eV 7 12 (wX qF 0) (bU a (fun d _ a=>tP 8 0 0 (wC qF 0) a (fun _ a=>tN (kX (a.ret [(0,0,3)] (wX qF 0) (km (by rw[jM];rfl) (ft _ _))))))))
theorem FV (a:Nat)(ha:0<a)(x:(wds a).length<=1000000000)(w:World)(h:Hp)(g:G w h):CV 56 #[.bool true,nv a] w h (iv (bB true a)):=by
 have b:=sS g;have c:=(cB ha).2.2;refine go Tryz.func56 [(0,qT),(1,nv a)] rfl (ax (lA 3 40 (nc a) b (fun i w2 l b=>lA 4 42 ([qF,uV 0,eS]) b (fun p j o b=>ag (cR 8 [] mixed b ao ?_)))));refine eV 0 5 qT (eV 1 6 qT (eO 2 7 [(1,0,2)] (nv a) b (eO 6 11 [(1,0,2)] (nv a) b (au 3 8 b (fun _ _ b=>fz a aM _ _ b.g) (fun d u b=>eV 4 9 qT ?_ (hv:=fun _=>rb (e:=decide ((0:Int)<((nb a:Nat):Int))) kR (decide_eq_true oM)))))));exact eV 5 10 qT (eV 7 12 (wX qT a) (bU b (fun f _ b=>tP 8 0 0 (wC qT a) b (fun _ b=>tN (kX (b.ret [(0,0,3)] (wX qT a) (km (by rw[jM];simpa using ha) (ft _ _))))))))
theorem f4 (b:Bool)(a:Nat)(c:(wds a).length<=1000000000)(w:World)(h:Hp)(g:G w h):CV 56 #[.bool b,nv a] w h (iv (bB b a)):=by
 cases b
 ·exact wy a w h g
 ·rcases Au a with h0|h0
  ·subst h0;exact GN c w h g
  ·exact FV a h0 c w h g
theorem KG (z:Int)(h0 : -9223372036854775808<=z)(hz:z<0)(w:World)(h:Hp)(g:G w h):CV 70 #[iV z] w h (iv z):=by
 have a:=sS g;have d:ab z<=9223372036854775808:=by unfold ab;omega
 refine go Tryz.func70 [(0,iV z)] rfl (ax (lA 2 42 ([qF,uV 0,eS]) a (fun i w2 j a=>ag (aa a ac ?_))));have ⟨b,c⟩:=dT (p:=(z:Int)<(0:Int)) oM;refine lB 4 b (am (aa a ac (lV 6 (mV (18446744073709551616-ab z)) ?_ (hr:=rU (z) kR (by rw[IntKind.wrap_u64];unfold ab;omega)))));refine lV 7 (mV (ab z)) ?_ (hr:=rU ((0-((18446744073709551616-ab z:Nat):Int))) kR (by rw[IntKind.wrap_u64];omega));exact aq 8 a (JP (ab z) oM _ _ a.g) (fun f l a=>lL a [.v (wX qT (ab z))] (lP 0 0 (wC qT (ab z)) a (fun e a=>ae a [(0,0,3)] (wX qT (ab z)) (km (by simp[af,hz]) rfl))))
theorem Kr (n:Nat)(h1:n<9223372036854775808)(w:World)(h:Hp)(g:G w h):CV 70 #[nV n] w h (iv (n:Int)):=by
 have a:=sS g;refine go Tryz.func70 [(0,nV n)] rfl (ax (lA 2 42 ([qF,uV 0,eS]) a (fun f w2 i a=>ag (aa a ac ?_))));have ⟨b,c⟩:=dF (p:=(n:Int)<(0:Int)) oM;refine lB 4 b (ah (cK (aa a ac (lV 11 (mV n) ?_ (hr:=rU ((n:Int)) kR (bc oM oM))))));exact aq 12 a (JP n oM _ _ a.g) (fun e j a=>lL a [.v (wX qF n)] (lP 0 0 (wC qF n) a (fun d a=>ae a [(0,0,3)] (wX qF n) (km (by simp[af]) (by simp[ab])))))
theorem K7 (z:Int)(h0 : -9223372036854775808<=z)(h1:z<=9223372036854775807)(w:World)(h:Hp)(g:G w h):CV 70 #[iV z] w h (iv z):=by
 rcases Int.lt_or_le z 0 with hz|hz
 ·exact KG z h0 hz w h g
 ·obtain ⟨n,rfl⟩:=MI hz
  exact Kr n oM w h g
def eh(x y:Int):Int:=if x<y then -1 else if y<x then 1 else 0
theorem D3 {x y:Int}(h:x<y):eh x y = -1:=by simp[eh,h]
theorem Cd {x y:Int}(h:y<x):eh x y=1:=by unfold eh;rw[if_neg oM,if_pos h]
theorem DY {x y:Int}(b:0<=x)(a:0<=y):eh x y=bZ (ab x) (ab y):=by
 unfold eh bZ ab
 have e1:(x<y)=(x.natAbs<y.natAbs):=by apply propext;omega
 have e2:(y<x)=(y.natAbs<x.natAbs):=by apply propext;omega
 simp only[e1,e2]
theorem EH {x y:Int}(b:x<0)(a:y<0):eh x y=bZ (ab y) (ab x):=by
 unfold eh bZ ab
 have e1:(x<y)=(y.natAbs<x.natAbs):=by apply propext;omega
 have e2:(y<x)=(x.natAbs<y.natAbs):=by apply propext;omega
 simp only[e1,e2]
theorem wU (z:Int)(w:World)(h:Hp)(g:G w h):CV 102 #[iv z] w h (nv (ab z)):=by
 have a:=sS g;exact go Tryz.func102 [(0,iv z)] rfl (ax (lA 1 42 (ic z) a (fun b w2 e a=>lA 2 40 ([uV 0,eS]) a (fun i d f a=>aG (lL a [.v (qP b 1),.o (nv (ab z)) 1 1 2] (lP 0 0 (nc (ab z)) a (fun c a=>ae a [(0,0,2)] (nv (ab z)) rfl)))))))
theorem Fy (z:Int)(hz:af z=true)(w:World)(h:Hp)(g:G w h):CV 86 #[wX (.bool true) (ab z)] w h (iV z.sign):=by
 have a:=sS g;exact go Tryz.func86 [(0,wX qT (ab z))] rfl (ax (lA 1 42 (wC qT (ab z)) a (fun b w2 d a=>lL a ac (ag (kZ (aa a [.v (pB b),.o qT 0 0 1,.c] (am (aa a ac (ae a [] (iV (-1)) (by rw[Int.sign_eq_neg_one_of_neg (bj hz)]))))))))))
theorem Fv (z:Int)(u:(wds (ab z)).length<=1000000000)(hz:af z=false)(h0:0<ab z)(w:World)(h:Hp)(g:G w h):CV 86 #[wX (.bool false) (ab z)] w h (iV z.sign):=by
 have a:=sS g;have f:=(cB h0).2.2;refine go Tryz.func86 [(0,wX qF (ab z))] rfl (ax (lA 1 42 (wC qF (ab z)) a (fun d w2 j a=>lL a ac (ag (kZ (aa a [.v (pB d),.o qF 0 0 1,.c] (ah (aa a [.v (qP d 1),.o (nv (ab z)) 0 1 2] (aq 9 a (fz (ab z) aM _ _ a.g) (fun l i a=>?_))))))))));have ⟨b,e⟩:=dT (p:=(0:Int)<((nb (ab z):Nat):Int)) oM;exact lB 10 b (lL a ac (am (aa a ac (ae a [] (iV 1) (by rw[Int.sign_eq_one_of_pos (by have:=a8 hz;unfold ab at h0;omega)])))))
theorem FR (u:(wds (ab 0)).length<=1000000000)(w:World)(h:Hp)(g:G w h):CV 86 #[wX (.bool false) (ab 0)] w h (iV 0):=by
 have a:=sS g;have f:nb (ab 0)=0:=rfl;refine go Tryz.func86 [(0,wX qF (ab 0))] rfl (ax (lA 1 42 (wC qF (ab 0)) a (fun d w2 j a=>lL a ac (ag (kZ (aa a [.v (pB d),.o qF 0 0 1,.c] (ah (aa a [.v (qP d 1),.o (nv (ab 0)) 0 1 2] (aq 9 a (fz (ab 0) aM _ _ a.g) (fun l i a=>?_))))))))));have ⟨b,e⟩:=dF (p:=(0:Int)<((nb (ab 0):Nat):Int)) oM;exact lB 10 b (lL a ac (ah (cK (aa a ac (ae a [] (iV 0) rfl)))))
theorem mg (z:Int)(a:(wds (ab z)).length<=1000000000)(w:World)(h:Hp)(g:G w h):CV 86 #[iv z] w h (iV z.sign):=by
 rcases hz:af z with _|_
 ·rw[jR hz]
  rcases Au (ab z) with h0|h0
  ·have:z=0:=by unfold ab at h0;omega
   subst this;exact FR a w h g
  ·exact Fv z a hz h0 w h g
 ·rw[jR hz];exact Fy z hz w h g
theorem H5 (z:Int)(u:(wds (ab z)).length<=1000000000)(hz:af z=false)(w:World)(h:Hp)(g:G w h):CV 100 #[wX (.bool false) (ab z)] w h (iv (-z)):=by
 have a:=sS g;exact go Tryz.func100 [(0,wX qF (ab z))] rfl (ax (lA 1 42 (wC qF (ab z)) a (fun b w2 i a=>lA 2 42 ([qF,uV 0,eS]) a (fun l f j a=>aG (lL a [.v (pB b),.o qF 1 0 1,.v qT,.v (qP b 1),.o (nv (ab z)) 1 1 2] (aq 8 a (f4 true (ab z) aM _ _ a.g) (fun c p a=>lP 0 0 (ic (bB true (ab z))) a (fun d a=>ae a [(0,0,3)] (iv (bB true (ab z))) (by have e:=kW z;rw[hz] at e;exact congrArg iv e)))))))))
theorem Id (z:Int)(u:(wds (ab z)).length<=1000000000)(hz:af z=true)(w:World)(h:Hp)(g:G w h):CV 100 #[wX (.bool true) (ab z)] w h (iv (-z)):=by
 have a:=sS g;exact go Tryz.func100 [(0,wX qT (ab z))] rfl (ax (lA 1 42 (wC qT (ab z)) a (fun b w2 i a=>lA 2 42 ([qF,uV 0,eS]) a (fun l f j a=>aG (lL a [.v (pB b),.o qT 1 0 1,.v qF,.v (qP b 1),.o (nv (ab z)) 1 1 2] (aq 8 a (f4 false (ab z) aM _ _ a.g) (fun c p a=>lP 0 0 (ic (bB false (ab z))) a (fun d a=>ae a [(0,0,3)] (iv (bB false (ab z))) (by have e:=kW z;rw[hz] at e;exact congrArg iv e)))))))))
theorem JC (z:Int)(a:(wds (ab z)).length<=1000000000)(w:World)(h:Hp)(g:G w h):CV 100 #[iv z] w h (iv (-z)):=by
 rcases hz:af z with _|_<;>rw[jR hz]
 ·exact H5 z a hz w h g
 ·exact Id z a hz w h g
theorem GY (x y:Int)(j:(wds (ab x)).length<=1000000000)(i:(wds (ab y)).length<=1000000000)(f:af x=false)(e:af y=false)(w:World)(h:Hp)(g:G w h):CV 41 #[wX (.bool false) (ab x),wX (.bool false) (ab y)] w h (iV (eh x y)):=by
 have a:=sS g;refine go Tryz.func41 [(0,wX qF (ab x)),(1,wX qF (ab y))] rfl (ax (lA 2 42 (wC qF (ab x)) a (fun b w2 u a=>lA 3 42 (wC qF (ab y)) a (fun d p z a=>lL a ac (ag (kZ (aa a [.v (pB b),.o qF 1 0 1,.c] (lG 9 ?_))))))));exact lG 10 (lL a [.v qF,.c] (ah (aa a [.v (pB b),.o qF 1 0 1,.c] (ah (aa a [.v (pB d),.o qF 0 0 1,.c] (ah (cK (aa a [.v (qP b 1),.o (nv (ab x)) 1 1 2,.v (qP d 1),.o (nv (ab y)) 0 1 2] (aq 27 a (mi (ab x) (ab y) aM aM _ _ a.g) (fun l B a=>lL a ac (ae a [] (iV (bZ (ab x) (ab y))) (by rw[DY (a8 f) (a8 e)]))))))))))))
theorem Hx (x y:Int)(i:(wds (ab x)).length<=1000000000)(f:(wds (ab y)).length<=1000000000)(e:af x=false)(d:af y=true)(w:World)(h:Hp)(g:G w h):CV 41 #[wX (.bool false) (ab x),wX (.bool true) (ab y)] w h (iV (eh x y)):=by
 have a:=sS g;refine go Tryz.func41 [(0,wX qF (ab x)),(1,wX qT (ab y))] rfl (ax (lA 2 42 (wC qF (ab x)) a (fun b w2 p a=>lA 3 42 (wC qT (ab y)) a (fun j l u a=>lL a ac (ag (kZ (aa a [.v (pB b),.o qF 1 0 1,.c] (lG 9 ?_))))))));exact lG 10 (lL a [.v qF,.c] (ah (aa a [.v (pB b),.o qF 1 0 1,.c] (ah (aa a [.v (pB j),.o qT 0 0 1,.c] (am (aa a ac (ae a [] (iV 1) (by rw[Cd (by have:=a8 e;have:=bj d;omega)])))))))))
theorem HD (x y:Int)(i:(wds (ab x)).length<=1000000000)(f:(wds (ab y)).length<=1000000000)(e:af x=true)(d:af y=false)(w:World)(h:Hp)(g:G w h):CV 41 #[wX (.bool true) (ab x),wX (.bool false) (ab y)] w h (iV (eh x y)):=by
 have a:=sS g;exact go Tryz.func41 [(0,wX qT (ab x)),(1,wX qF (ab y))] rfl (ax (lA 2 42 (wC qT (ab x)) a (fun b w2 p a=>lA 3 42 (wC qF (ab y)) a (fun j l u a=>lL a ac (ag (kZ (aa a [.v (pB b),.o qT 1 0 1,.c,.v (pB j),.o qF 0 0 1,.v qF,.c] (ah (aa a [.v (pB b),.o qT 1 0 1,.c] (am (aa a ac (ae a [] (iV (-1)) (by rw[D3 (by have:=bj e;have:=a8 d;omega)])))))))))))))
theorem GM (x y:Int)(j:(wds (ab x)).length<=1000000000)(i:(wds (ab y)).length<=1000000000)(f:af x=true)(e:af y=true)(w:World)(h:Hp)(g:G w h):CV 41 #[wX (.bool true) (ab x),wX (.bool true) (ab y)] w h (iV (eh x y)):=by
 have a:=sS g;exact go Tryz.func41 [(0,wX qT (ab x)),(1,wX qT (ab y))] rfl (ax (lA 2 42 (wC qT (ab x)) a (fun b w2 u a=>lA 3 42 (wC qT (ab y)) a (fun d p z a=>lL a ac (ag (kZ (aa a [.v (pB b),.o qT 1 0 1,.c,.v (pB d),.o qT 0 0 1,.v qT,.c] (am (aa a [.v (qP d 1),.o (nv (ab y)) 0 1 2,.v (qP b 1),.o (nv (ab x)) 1 1 2] (aq 16 a (mi (ab y) (ab x) aM aM _ _ a.g) (fun l B a=>lL a ac (ae a [] (iV (bZ (ab y) (ab x))) (by rw[EH (bj f) (bj e)])))))))))))))
theorem AE (x y:Int)(b:(wds (ab x)).length<=1000000000)(a:(wds (ab y)).length<=1000000000)(w:World)(h:Hp)(g:G w h):CV 41 #[iv x,iv y] w h (iV (eh x y)):=by
 rcases hx:af x with _|_<;>rcases hy:af y with _|_<;>rw[jR hx,jR hy]
 ·exact GY x y b a hx hy w h g
 ·exact Hx x y b a hx hy w h g
 ·exact HD x y b a hx hy w h g
 ·exact GM x y b a hx hy w h g
theorem Hg (x y:Int)(p:(wds (ab x)).length<=1000000000)(i:(wds (ab y)).length<=1000000000)(e:(wds (ab x+ab y)).length<=1000000000)(f:af x=false)(d:af y=false)(w:World)(h:Hp)(g:G w h):CV 78 #[wX (.bool false) (ab x),wX (.bool false) (ab y)] w h (iv (x+y)):=by
 have a:=sS g;have l:=a8 f;have j:=a8 d;refine go Tryz.func78 [(0,wX qF (ab x)),(1,wX qF (ab y))] rfl (ax (lA 2 42 (wC qF (ab x)) a (fun b w2 C a=>lA 3 42 (wC qF (ab y)) a (fun c B u a=>lA 4 42 ([qF,uV 0,eS]) a (fun z D F a=>ag (aa a [.v (pB b),.o qF 2 0 1,.v (pB c),.o qF 1 0 1,.v qT] (am (cQ (cR 8 [] mixed a ao ?_)))))))));exact eV 0 14 (pB b) (eO 1 15 [(2,0,1)] qF a (eV 2 16 (qP b 1) (eO 3 17 [(2,1,2)] (nv (ab x)) a (eV 4 18 (qP c 1) (eO 5 19 [(1,1,2)] (nv (ab y)) a (au 6 20 a (fun _ _ a=>IH (ab x) (ab y) aM aM _ _ a.g) (fun _ _ a=>au 7 21 a (fun _ _ a=>f4 false ((ab x)+(ab y)) (by first|assumption|exact aw (MM _ _) aM) _ _ a.g) (fun _ _ a=>bU a (fun _ _ a=>tP 8 0 0 (ic (bB false ((ab x)+(ab y)))) a (fun _ a=>tN (kX (a.ret [(0,0,3)] (iv (bB false ((ab x)+(ab y)))) (congrArg iv (by unfold bB ab at *;simp;omega))))))))))))))
theorem Cy (x y:Int)(B:(wds (ab x)).length<=1000000000)(j:(wds (ab y)).length<=1000000000)(f:(wds (ab x+ab y)).length<=1000000000)(i:af x=false)(e:af y=true)(l:ab y<=ab x)(w:World)(h:Hp)(g:G w h):CV 78 #[wX (.bool false) (ab x),wX (.bool true) (ab y)] w h (iv (x+y)):=by
 have a:=sS g;have z:=a8 i;have u:=bj e;exact go Tryz.func78 [(0,wX qF (ab x)),(1,wX qT (ab y))] rfl (ax (lA 2 42 (wC qF (ab x)) a (fun b w2 H a=>lA 3 42 (wC qT (ab y)) a (fun d F C a=>lA 4 42 ([qF,uV 0,eS]) a (fun D I J a=>ag (aa a [.v (pB b),.o qF 2 0 1,.v (pB d),.o qT 1 0 1,.v qF] (ah (cK (cQ (aa a [.v (qP b 1),.o (nv (ab x)) 2 1 2,.v (qP d 1),.o (nv (ab y)) 1 1 2] (aq 27 a (B7 (ab x) (ab y) oM aM aM _ _ a.g) (fun _ _ a=>lL a [.c,.v (nv ((ab x)-(ab y))),.v qT] (lA 5 40 ([uV 0,eS]) a (fun p _ _ a=>lP 0 0 (nc ((ab x)-(ab y))) a (fun _ a=>lL a ac (aG (lL a ac (am (aa a [.v (pB b),.o qF 3 0 1,.o (nv ((ab x)-(ab y))) 0 0 2] (aq 34 a (f4 false ((ab x)-(ab y)) (by first|assumption|exact aw (MM _ _) aM) _ _ a.g) (fun _ _ a=>lP 1 0 (ic (bB false ((ab x)-(ab y)))) a (fun _ a=>ae a [(1,0,3)] (iv (bB false ((ab x)-(ab y)))) (congrArg iv (by unfold bB ab at *;simp;omega))))))))))))))))))))))))
theorem C6 (x y:Int)(C:(wds (ab x)).length<=1000000000)(j:(wds (ab y)).length<=1000000000)(f:(wds (ab x+ab y)).length<=1000000000)(i:af x=false)(e:af y=true)(B:ab x<ab y)(w:World)(h:Hp)(g:G w h):CV 78 #[wX (.bool false) (ab x),wX (.bool true) (ab y)] w h (iv (x+y)):=by
 have a:=sS g;have z:=a8 i;have p:=bj e;exact go Tryz.func78 [(0,wX qF (ab x)),(1,wX qT (ab y))] rfl (ax (lA 2 42 (wC qF (ab x)) a (fun d w2 I a=>lA 3 42 (wC qT (ab y)) a (fun b H D a=>lA 4 42 ([qF,uV 0,eS]) a (fun F J K a=>ag (aa a [.v (pB d),.o qF 2 0 1,.v (pB b),.o qT 1 0 1,.v qF] (ah (cK (cQ (aa a [.v (qP d 1),.o (nv (ab x)) 2 1 2,.v (qP b 1),.o (nv (ab y)) 1 1 2] (aq 27 a (E4 (ab x) (ab y) oM aM aM _ _ a.g) (fun _ _ a=>lL a [.c,.v (nv 0),.v qF] (lA 5 40 ([uV 0,eS]) a (fun l _ _ a=>lP 0 0 (nc 0) a (fun _ a=>lL a ac (aG (lL a ac (ah (cK (aa a [.v (qP b 1),.o (nv (ab y)) 2 1 2,.v (qP d 1),.o (nv (ab x)) 3 1 2] (aq 40 a (B7 (ab y) (ab x) oM aM aM _ _ a.g) (fun _ _ a=>lL a [.c,.v (nv ((ab y)-(ab x))),.v qT] (lA 7 40 ([uV 0,eS]) a (fun u _ _ a=>lP 0 0 (nc ((ab y)-(ab x))) a (fun _ a=>lL a ac (aG (lL a [.v (pB b),.o qT 3 0 1,.o (nv ((ab y)-(ab x))) 0 0 2] (aq 46 a (f4 true ((ab y)-(ab x)) (by first|assumption|exact aw (MM _ _) aM) _ _ a.g) (fun _ _ a=>lP 2 0 (ic (bB true ((ab y)-(ab x)))) a (fun _ a=>ae a [(2,0,3)] (iv (bB true ((ab y)-(ab x)))) (congrArg iv (by unfold bB ab at *;simp;omega))))))))))))))))))))))))))))))))
theorem CJ (x y:Int)(B:(wds (ab x)).length<=1000000000)(j:(wds (ab y)).length<=1000000000)(f:(wds (ab x+ab y)).length<=1000000000)(i:af x=true)(e:af y=false)(l:ab y<=ab x)(w:World)(h:Hp)(g:G w h):CV 78 #[wX (.bool true) (ab x),wX (.bool false) (ab y)] w h (iv (x+y)):=by
 have a:=sS g;have z:=bj i;have u:=a8 e;exact go Tryz.func78 [(0,wX qT (ab x)),(1,wX qF (ab y))] rfl (ax (lA 2 42 (wC qT (ab x)) a (fun b w2 H a=>lA 3 42 (wC qF (ab y)) a (fun d F C a=>lA 4 42 ([qF,uV 0,eS]) a (fun D I J a=>ag (aa a [.v (pB b),.o qT 2 0 1,.v (pB d),.o qF 1 0 1,.v qF] (ah (cK (cQ (aa a [.v (qP b 1),.o (nv (ab x)) 2 1 2,.v (qP d 1),.o (nv (ab y)) 1 1 2] (aq 27 a (B7 (ab x) (ab y) oM aM aM _ _ a.g) (fun _ _ a=>lL a [.c,.v (nv ((ab x)-(ab y))),.v qT] (lA 5 40 ([uV 0,eS]) a (fun p _ _ a=>lP 0 0 (nc ((ab x)-(ab y))) a (fun _ a=>lL a ac (aG (lL a ac (am (aa a [.v (pB b),.o qT 3 0 1,.o (nv ((ab x)-(ab y))) 0 0 2] (aq 34 a (f4 true ((ab x)-(ab y)) (by first|assumption|exact aw (MM _ _) aM) _ _ a.g) (fun _ _ a=>lP 1 0 (ic (bB true ((ab x)-(ab y)))) a (fun _ a=>ae a [(1,0,3)] (iv (bB true ((ab x)-(ab y)))) (congrArg iv (by unfold bB ab at *;simp;omega))))))))))))))))))))))))
theorem D8 (x y:Int)(C:(wds (ab x)).length<=1000000000)(j:(wds (ab y)).length<=1000000000)(f:(wds (ab x+ab y)).length<=1000000000)(i:af x=true)(e:af y=false)(B:ab x<ab y)(w:World)(h:Hp)(g:G w h):CV 78 #[wX (.bool true) (ab x),wX (.bool false) (ab y)] w h (iv (x+y)):=by
 have a:=sS g;have z:=bj i;have p:=a8 e;exact go Tryz.func78 [(0,wX qT (ab x)),(1,wX qF (ab y))] rfl (ax (lA 2 42 (wC qT (ab x)) a (fun d w2 I a=>lA 3 42 (wC qF (ab y)) a (fun b H D a=>lA 4 42 ([qF,uV 0,eS]) a (fun F J K a=>ag (aa a [.v (pB d),.o qT 2 0 1,.v (pB b),.o qF 1 0 1,.v qF] (ah (cK (cQ (aa a [.v (qP d 1),.o (nv (ab x)) 2 1 2,.v (qP b 1),.o (nv (ab y)) 1 1 2] (aq 27 a (E4 (ab x) (ab y) oM aM aM _ _ a.g) (fun _ _ a=>lL a [.c,.v (nv 0),.v qF] (lA 5 40 ([uV 0,eS]) a (fun l _ _ a=>lP 0 0 (nc 0) a (fun _ a=>lL a ac (aG (lL a ac (ah (cK (aa a [.v (qP b 1),.o (nv (ab y)) 2 1 2,.v (qP d 1),.o (nv (ab x)) 3 1 2] (aq 40 a (B7 (ab y) (ab x) oM aM aM _ _ a.g) (fun _ _ a=>lL a [.c,.v (nv ((ab y)-(ab x))),.v qT] (lA 7 40 ([uV 0,eS]) a (fun u _ _ a=>lP 0 0 (nc ((ab y)-(ab x))) a (fun _ a=>lL a ac (aG (lL a [.v (pB b),.o qF 3 0 1,.o (nv ((ab y)-(ab x))) 0 0 2] (aq 46 a (f4 false ((ab y)-(ab x)) (by first|assumption|exact aw (MM _ _) aM) _ _ a.g) (fun _ _ a=>lP 2 0 (ic (bB false ((ab y)-(ab x)))) a (fun _ a=>ae a [(2,0,3)] (iv (bB false ((ab y)-(ab x)))) (congrArg iv (by unfold bB ab at *;simp;omega))))))))))))))))))))))))))))))))
theorem Hs (x y:Int)(p:(wds (ab x)).length<=1000000000)(i:(wds (ab y)).length<=1000000000)(e:(wds (ab x+ab y)).length<=1000000000)(f:af x=true)(d:af y=true)(w:World)(h:Hp)(g:G w h):CV 78 #[wX (.bool true) (ab x),wX (.bool true) (ab y)] w h (iv (x+y)):=by
 have a:=sS g;have l:=bj f;have j:=bj d;refine go Tryz.func78 [(0,wX qT (ab x)),(1,wX qT (ab y))] rfl (ax (lA 2 42 (wC qT (ab x)) a (fun b w2 C a=>lA 3 42 (wC qT (ab y)) a (fun c B u a=>lA 4 42 ([qF,uV 0,eS]) a (fun z D F a=>ag (aa a [.v (pB b),.o qT 2 0 1,.v (pB c),.o qT 1 0 1,.v qT] (am (cQ (cR 8 [] mixed a ao ?_)))))))));exact eV 0 14 (pB b) (eO 1 15 [(2,0,1)] qT a (eV 2 16 (qP b 1) (eO 3 17 [(2,1,2)] (nv (ab x)) a (eV 4 18 (qP c 1) (eO 5 19 [(1,1,2)] (nv (ab y)) a (au 6 20 a (fun _ _ a=>IH (ab x) (ab y) aM aM _ _ a.g) (fun _ _ a=>au 7 21 a (fun _ _ a=>f4 true ((ab x)+(ab y)) (by first|assumption|exact aw (MM _ _) aM) _ _ a.g) (fun _ _ a=>bU a (fun _ _ a=>tP 8 0 0 (ic (bB true ((ab x)+(ab y)))) a (fun _ a=>tN (kX (a.ret [(0,0,3)] (iv (bB true ((ab x)+(ab y)))) (congrArg iv (by unfold bB ab at *;simp;omega))))))))))))))
theorem GZ (x y:Int)(o:(wds (ab x)).length<=1000000000)(i:(wds (ab y)).length<=1000000000)(f:(wds (ab x*ab y)).length<=1000000000)(c:af x=false)(b:af y=false)(w:World)(h:Hp)(g:G w h):CV 84 #[wX (.bool false) (ab x),wX (.bool false) (ab y)] w h (iv (x*y)):=by
 have a:=sS g;have l:=a8 c;have j:=a8 b;refine go Tryz.func84 [(0,wX qF (ab x)),(1,wX qF (ab y))] rfl (ax (lA 2 42 (wC qF (ab x)) a (fun d w2 B a=>lA 3 42 (wC qF (ab y)) a (fun e z p a=>lA 4 42 ([qF,uV 0,eS]) a (fun u C D a=>ag (cR 11 [] mixed a ao ?_))))));exact eV 0 5 (pB d) (eO 1 6 [(2,0,1)] qF a (eV 2 7 (pB e) (eO 3 8 [(1,0,1)] qF a (eV 4 9 qF (eV 5 10 (qP d 1) (eO 6 11 [(2,1,2)] (nv (ab x)) a (eV 7 12 (qP e 1) (eO 8 13 [(1,1,2)] (nv (ab y)) a (au 9 14 a (fun _ _ a=>qJ (ab x) (ab y) aM aM _ _ a.g) (fun _ _ a=>au 10 15 a (fun _ _ a=>f4 false ((ab x)*(ab y)) aM _ _ a.g) (fun _ _ a=>bU a (fun _ _ a=>tP 11 0 0 (ic (bB false ((ab x)*(ab y)))) a (fun _ a=>tN (kX (a.ret [(0,0,3)] (iv (bB false ((ab x)*(ab y)))) (by rw[<-ma x y,c,b];rfl))))))))))))))))
theorem Fo (x y:Int)(o:(wds (ab x)).length<=1000000000)(i:(wds (ab y)).length<=1000000000)(f:(wds (ab x*ab y)).length<=1000000000)(c:af x=false)(b:af y=true)(w:World)(h:Hp)(g:G w h):CV 84 #[wX (.bool false) (ab x),wX (.bool true) (ab y)] w h (iv (x*y)):=by
 have a:=sS g;have l:=a8 c;have j:=bj b;refine go Tryz.func84 [(0,wX qF (ab x)),(1,wX qT (ab y))] rfl (ax (lA 2 42 (wC qF (ab x)) a (fun d w2 B a=>lA 3 42 (wC qT (ab y)) a (fun e z p a=>lA 4 42 ([qF,uV 0,eS]) a (fun u C D a=>ag (cR 11 [] mixed a ao ?_))))));exact eV 0 5 (pB d) (eO 1 6 [(2,0,1)] qF a (eV 2 7 (pB e) (eO 3 8 [(1,0,1)] qT a (eV 4 9 qT (eV 5 10 (qP d 1) (eO 6 11 [(2,1,2)] (nv (ab x)) a (eV 7 12 (qP e 1) (eO 8 13 [(1,1,2)] (nv (ab y)) a (au 9 14 a (fun _ _ a=>qJ (ab x) (ab y) aM aM _ _ a.g) (fun _ _ a=>au 10 15 a (fun _ _ a=>f4 true ((ab x)*(ab y)) aM _ _ a.g) (fun _ _ a=>bU a (fun _ _ a=>tP 11 0 0 (ic (bB true ((ab x)*(ab y)))) a (fun _ a=>tN (kX (a.ret [(0,0,3)] (iv (bB true ((ab x)*(ab y)))) (by rw[<-ma x y,c,b];rfl))))))))))))))))
theorem GK (x y:Int)(o:(wds (ab x)).length<=1000000000)(i:(wds (ab y)).length<=1000000000)(f:(wds (ab x*ab y)).length<=1000000000)(c:af x=true)(b:af y=false)(w:World)(h:Hp)(g:G w h):CV 84 #[wX (.bool true) (ab x),wX (.bool false) (ab y)] w h (iv (x*y)):=by
 have a:=sS g;have l:=bj c;have j:=a8 b;refine go Tryz.func84 [(0,wX qT (ab x)),(1,wX qF (ab y))] rfl (ax (lA 2 42 (wC qT (ab x)) a (fun d w2 B a=>lA 3 42 (wC qF (ab y)) a (fun e z p a=>lA 4 42 ([qF,uV 0,eS]) a (fun u C D a=>ag (cR 11 [] mixed a ao ?_))))));exact eV 0 5 (pB d) (eO 1 6 [(2,0,1)] qT a (eV 2 7 (pB e) (eO 3 8 [(1,0,1)] qF a (eV 4 9 qT (eV 5 10 (qP d 1) (eO 6 11 [(2,1,2)] (nv (ab x)) a (eV 7 12 (qP e 1) (eO 8 13 [(1,1,2)] (nv (ab y)) a (au 9 14 a (fun _ _ a=>qJ (ab x) (ab y) aM aM _ _ a.g) (fun _ _ a=>au 10 15 a (fun _ _ a=>f4 true ((ab x)*(ab y)) aM _ _ a.g) (fun _ _ a=>bU a (fun _ _ a=>tP 11 0 0 (ic (bB true ((ab x)*(ab y)))) a (fun _ a=>tN (kX (a.ret [(0,0,3)] (iv (bB true ((ab x)*(ab y)))) (by rw[<-ma x y,c,b];rfl))))))))))))))))
theorem HI (x y:Int)(o:(wds (ab x)).length<=1000000000)(i:(wds (ab y)).length<=1000000000)(f:(wds (ab x*ab y)).length<=1000000000)(c:af x=true)(b:af y=true)(w:World)(h:Hp)(g:G w h):CV 84 #[wX (.bool true) (ab x),wX (.bool true) (ab y)] w h (iv (x*y)):=by
 have a:=sS g;have l:=bj c;have j:=bj b;refine go Tryz.func84 [(0,wX qT (ab x)),(1,wX qT (ab y))] rfl (ax (lA 2 42 (wC qT (ab x)) a (fun d w2 B a=>lA 3 42 (wC qT (ab y)) a (fun e z p a=>lA 4 42 ([qF,uV 0,eS]) a (fun u C D a=>ag (cR 11 [] mixed a ao ?_))))));exact eV 0 5 (pB d) (eO 1 6 [(2,0,1)] qT a (eV 2 7 (pB e) (eO 3 8 [(1,0,1)] qT a (eV 4 9 qF (eV 5 10 (qP d 1) (eO 6 11 [(2,1,2)] (nv (ab x)) a (eV 7 12 (qP e 1) (eO 8 13 [(1,1,2)] (nv (ab y)) a (au 9 14 a (fun _ _ a=>qJ (ab x) (ab y) aM aM _ _ a.g) (fun _ _ a=>au 10 15 a (fun _ _ a=>f4 false ((ab x)*(ab y)) aM _ _ a.g) (fun _ _ a=>bU a (fun _ _ a=>tP 11 0 0 (ic (bB false ((ab x)*(ab y)))) a (fun _ a=>tN (kX (a.ret [(0,0,3)] (iv (bB false ((ab x)*(ab y)))) (by rw[<-ma x y,c,b];rfl))))))))))))))))
theorem I3 (x y:Int)(b:(wds (ab x)).length+(wds (ab y)).length<=999999999)(w:World)(h:Hp)(g:G w h):CV 78 #[iv x,iv y] w h (iv (x+y)):=by
 have a:(wds (ab x+ab y)).length<=1000000000:=ep kC oM
 rcases hx:af x with _|_<;>rcases hy:af y with _|_<;>rw[jR hx,jR hy]
 ·exact Hg x y oM oM a hx hy w h g
 ·rcases dS (ab x) (ab y) with hc|hc
  ·exact C6 x y oM oM a hx hy hc w h g
  ·exact Cy x y oM oM a hx hy hc w h g
 ·rcases dS (ab x) (ab y) with hc|hc
  ·exact D8 x y oM oM a hx hy hc w h g
  ·exact CJ x y oM oM a hx hy hc w h g
 ·exact Hs x y oM oM a hx hy w h g
theorem Cc (x y:Int)(b:(wds (ab x)).length+(wds (ab y)).length<=1000000000)(w:World)(h:Hp)(g:G w h):CV 84 #[iv x,iv y] w h (iv (x*y)):=by
 have a:(wds (ab x*ab y)).length<=1000000000:=ep dC oM
 rcases hx:af x with _|_<;>rcases hy:af y with _|_<;>rw[jR hx,jR hy]
 ·exact GZ x y oM oM a hx hy w h g
 ·exact Fo x y oM oM a hx hy w h g
 ·exact GK x y oM oM a hx hy w h g
 ·exact HI x y oM oM a hx hy w h g
theorem Bz (n:Nat)(hl:(wds n).length<=1000000000)(w:World)(h:Hp)(g:G w h):CR 123 #[nv n] w h (fun v h1=>∃ A,v=.slice A ((nb n+7)/8) ((nb n+7)/8)/\SlO 1 ne 0 h1 A (fy n ((nb n+7)/8))):=by
 have c:=sS g;have hnb:=mH n;have Z:=mR n;refine go Tryz.func123 [(0,nv n)] rfl (ax (lA 1 40 (nc n) c (fun H w2 h3 c=>lL c ac (aG (lL c [.o (nv n) 0 0 2] (aq 8 c (fz n hl _ _ c.g) (fun w4 h5 c=>bp 9 ((nb n:Nat)+7) ((nb n)+7) (lV 10 (nV (((nb n)+7)/8)) ?_ (hr:=aK (dB (t:=3) (u:=3) (x:=.tmp 9) (y:=.const (iV 8)) (k:=.i64) (a:=(((nb n)+7:Nat):Int)) (b:=(8:Int)) kR kR kR oM _) (dG ((nb n)+7) 8 oM))))))))));refine lL c ac (aG (lL c ac (lK 12 5 (((nb n)+7)/8:Nat) 1 1 (.int .u8 0) ne 0 c (fun e w7 h8 c=>?_))));have F:(zY (((nb n)+7)/8:Nat) 0).length=(((nb n)+7)/8:Nat):=by simp
 refine lL c ac (aG (lL c [.o (nv n) 1 0 2] (lC 14 c (gn n oM _ _ c.g) ?_)));rintro _ _ zd c ⟨z,C,rfl,Q,J⟩;replace c:=c.aS J;refine lL c ac (ag (aa c aD (aZ ?_)));refine bH _ (CG.loop (fun I Γ W=>∃ (i:Nat)(l:List Nat)(L:Hp),I=((nb n+7)/8)-i/\Γ=[(2,sZ),(3,nV (((nb n)+7)/8)),(4,qS (sB e) (((nb n)+7)/8:Nat) (((nb n)+7)/8:Nat)),(5,qS z ((wds n).length) C),(15,nV (((nb n)+7)/8)),(16,nV i)]/\SS w h W L [⟨e,5,(l).flatMap ne⟩,⟨H,40,nc n⟩] [] [fun L=>SlO 1 ar 0 L z (wds n)]/\i<=((nb n+7)/8)/\l.length=((nb n+7)/8)/\(∀ j,j<i->l.getD (((nb n+7)/8)-1-j) 0=n/256^j%256)) _ ⟨0,zY (((nb n)+7)/8:Nat) 0,zd,rfl,rfl,c.to _ _,My _,F,(fun j S=>absurd S oM)⟩ ?_);rintro _ _ _ ⟨i,l,Y,V,rfl,c,hi,p,M⟩;have X:=oR n (i/8);refine ax ?_;cases D:(decide ((i:Int)<((((nb n)+7)/8:Nat):Int)))
 .
  have zb:=oF D;refine lB 17 D (ag (dD (CG.exit ?_)))
  show CG _ _ _ _ _ _ _ _
  refine aa c aD (lN (kX ?_));have him:i=((nb n+7)/8):=by omega
  have K:l=fy n ((nb n+7)/8):=tc p (fun j S=>M j oM);rw[K] at c
  obtain ⟨_,c,B,U,O⟩:=c.pub 0;replace c:=(c.to [⟨H,40,nc n⟩] []).aS (SlO.of_flat (sz:=1) (f:=ne) (d:=0) (b:=e) (o:=0) (l:=fy n ((nb n+7)/8)) (fun _=>rfl) B);exact c.ret [] (qS (sB e) (((nb n)+7)/8:Nat) (((nb n)+7)/8:Nat)) (⟨sB e,rfl,c.f.1⟩)
 have zb:=oT D;refine lB 17 D (ag (ct (cK (cQ (kZ (aa c aD (lN (kQ (lL c aD (bp 21 ((((nb n)+7)/8:Nat)-1) ((((nb n)+7)/8:Nat)-1) ?_))))))))));refine lL c ac (bp 23 (((((nb n)+7)/8:Nat)-1:Nat)-(i:Nat)) (((((nb n)+7)/8:Nat)-1:Nat)-i) ?_);refine lL c aD (lV 26 (nV (i/8)) ?_ (hr:=aK (dB (t:=3) (u:=3) (x:=.tmp 25) (y:=.const (iV 8)) (k:=.i64) (a:=(i:Int)) (b:=(8:Int)) kR kR kR oM _) (dG i 8 oM)));refine lX 27 z ((wds n).length) C 1 (i/8:Nat) (i/8) ((c.f.1).ok oM) (lH 28 (mV ((wds n).getD (i/8) 0)) c ((c.f.1).el (i/8) oM) (lL c ac (lV 30 (nV (i%8)) ?_ (hr:=aK (fj (t:=3) (u:=3) (x:=.tmp 29) (y:=.const (iV 8)) (k:=.i64) (a:=(i:Int)) (b:=(8:Int)) kR kR kR oM _) (dq i 8)))));refine bp 31 (8*(i%8:Nat)) (8*(i%8)) (lV 32 (mV (((wds n).getD (i/8) 0)/2^(8*(i%8)))) ?_ (hr:=gL (t:=38) (u:=3) (x:=.tmp 28) (y:=.tmp 31) (ky:=.i64) (a:=((wds n).getD (i/8) 0)) (n:=(8*(i%8))) kR kR kR oM _));refine lV 33 (.int .u8 ((wds n).getD (i/8) 0/2^(8*(i%8))%256:Nat)) ?_ (hr:=aK (n:=IntKind.wrap .u8 (((wds n).getD (i/8) 0/2^(8*(i%8)):Nat):Int)) kR (C9 _));refine lX 34 (sB e) (((nb n)+7)/8:Nat) (((nb n)+7)/8:Nat) 1 (((((nb n)+7)/8:Nat)-1:Nat)-i:Nat) (((((nb n)+7)/8:Nat)-1:Nat)-i:Nat) rfl (lW 0 l ne 1 (((((nb n)+7)/8:Nat)-1:Nat)-i:Nat) ((wds n).getD (i/8) 0/2^(8*(i%8))%256:Nat) c oM (fun _ c=>?_));have zc:((l).set (((((nb n)+7)/8:Nat)-1:Nat)-i:Nat) ((wds n).getD (i/8) 0/2^(8*(i%8))%256:Nat)).length=(((nb n)+7)/8:Nat):=by rw[Mg];exact p
 replace c:=c.to [⟨e,5,((l).set (((((nb n)+7)/8:Nat)-1:Nat)-i:Nat) ((wds n).getD (i/8) 0/2^(8*(i%8))%256:Nat)).flatMap ne⟩,⟨H,40,nc n⟩] [];refine lN (kQ (bp 35 ((i:Nat)+1) (i+1) ?_));refine lL c ac (lD ?_);intro a_ ka;refine ⟨_,_,?_,⟨i+1,(l).set (((((nb n)+7)/8:Nat)-1:Nat)-i:Nat) ((wds n).getD (i/8) 0/2^(8*(i%8))%256:Nat),Y,rfl,rfl,c.to _ _,oM,zc,(hC p oM M (wn n i))⟩,ka.to _ kR⟩
 omega
theorem AI (n m:Nat)(A:Z9)(c:Nat)(hc:m<=c)(hm:m<=10000000000)(hn:n<256^m)(w:World)(h:Hp)(g:G w h)(Z:SlO 1 ne 0 h A (fy n m)):CV 103 #[.slice A m c] w h (nv n):=by
 have e:=((sS g).aS Z);have hbl:=jX n m;refine go Tryz.func103 [(0,qS A m c)] rfl (ax (lA 2 40 ([uV 0,eS]) e (fun z w2 h3 e=>aG (lL e [.c,.v (nV m)] (bp 7 ((m:Nat)+7) (m+7) ?_)))));refine lV 8 (nV ((m+7)/8)) ?_ (hr:=aK (dB (t:=3) (u:=3) (x:=.tmp 7) (y:=.const (iV 8)) (k:=.i64) (a:=((m+7:Nat):Int)) (b:=(8:Int)) kR kR kR oM _) (dG (m+7) 8 oM));refine lK 9 38 ((m+7)/8) 1 8 (uV 0) ar 0 e (fun j w5 V e=>?_);have D:(zY ((m+7)/8) 0).length=((m+7)/8):=by simp
 refine lL e ac (ag (aa e [.c,.v (nV m),.c] (aZ ?_)));refine bH _ (CG.loop (fun H Γ U=>∃ (i:Nat)(l:List Nat)(M:Hp),H=m-i/\Γ=[(0,qS A m c),(2,pB z),(3,qS (sB j) ((m+7)/8) ((m+7)/8)),(11,nV m),(12,nV i)]/\SS w h U M [⟨j,38,(l).flatMap ar⟩,⟨z,40,[uV 0,eS]⟩] [] [fun M=>SlO 1 ne 0 M A (fy n m)]/\i<=m/\l.length=(m+7)/8/\Wd l/\aA l=n%256^i) _ ⟨0,zY ((m+7)/8) 0,V,rfl,rfl,e.to _ _,My _,D,Wd.rep _,(by show ai _ _=_;rw[dN,MA,Nat.mod_one])⟩ ?_);rintro _ _ w8 ⟨i,l,h9,S,rfl,e,hi,K,F,inv⟩;have hbi:=kE n m (m-1-i);refine ax ?_;cases B:(decide ((i:Int)<(m:Int)))
 .
  have zb:=oF B;refine lB 13 B (ag (dD (CG.exit ?_)))
  show CG _ _ _ _ _ _ _ _
  refine ax ?_;have I:i=m:=by omega
  have X:aA l=n:=by rw[inv,I];exact z1 hn
  obtain ⟨_,e,p,Q,O⟩:=e.pub 0;replace e:=(e.to [⟨z,40,[uV 0,eS]⟩] []).aS (SlO.of_flat (sz:=1) (f:=ar) (d:=0) (b:=j) (o:=0) (l:=l) (fun _=>rfl) p);exact lL e ac (aq 37 e (dI (sB j) ((m+7)/8) (l) ((m+7)/8) (n) (by first|rfl|assumption|(simp;done)|(simp;omega)|omega) (F) (X) sM sM _ _ e.g e.f.1) (fun _ _ e=>lP 0 0 (nc n) e (fun _ e=>ae e [(0,0,2)] (nv n) rfl)))
 have zb:=oT B;refine lB 13 B (ag (ct (cK (cQ (kZ (aa e aD (lN (cR 19 [] mixed e ao ?_))))))));refine eV 0 15 (qS (sB j) ((m+7)/8) ((m+7)/8)) (eV 1 16 (nV i) (eV 2 17 (nV (i/8)) ?_ (hv:=fun _=>aK (dB (t:=3) (u:=3) (x:=.tmp 16) (y:=.const (iV 8)) (k:=.i64) (a:=(i:Int)) (b:=(8:Int)) kR kR kR oM _) (dG i 8 oM))));refine eX 3 18 (sB j) ((m+7)/8) ((m+7)/8) 1 (i/8:Nat) (i/8) rfl (eQ 4 19 0 l ar 1 0 (i/8) (mV ((l).getD (i/8) 0)) e oM (eV 5 20 (qS A m c) (eV 6 21 (qS A m c) (eV 7 22 (nV m) (jG 8 23 ((m:Nat)-1) (m-1) (eV 9 24 (nV i) (jG 10 25 ((m-1:Nat)-(i:Nat)) ((m-1)-i) (eX 11 26 A m c 1 ((m-1)-i:Nat) ((m-1)-i) ((e.f.1).ok oM) (eH 12 27 (.int .u8 ((fy n m).getD ((m-1)-i) 0:Nat)) e ((e.f.1).el ((m-1)-i) oM) (eV 13 28 (mV ((fy n m).getD ((m-1)-i) 0)) ?_ (hv:=fun _=>rU ((((fy n m).getD ((m-1)-i) 0:Nat):Int)) kR (bc oM oM))))))))))));refine eV 14 29 (nV i) (eV 15 30 (nV (i%8)) ?_ (hv:=fun _=>aK (fj (t:=3) (u:=3) (x:=.tmp 29) (y:=.const (iV 8)) (k:=.i64) (a:=(i:Int)) (b:=(8:Int)) kR kR kR oM _) (dq i 8)));refine jG 16 31 (8*(i%8:Nat)) (8*(i%8)) (eV 17 32 (mV (((fy n m).getD ((m-1)-i) 0:Nat)*2^(8*(i%8))%18446744073709551616)) ?_ (hv:=fun _=>ie (t:=38) (u:=3) (x:=.tmp 28) (y:=.tmp 31) (ky:=.i64) (a:=((fy n m).getD ((m-1)-i) 0:Nat)) (n:=(8*(i%8))) kR kR kR _));obtain ⟨J,C,L⟩:=tG oM inv (show (fy n m).getD (m-1-i) 0=n/256^i%256 by rw[jc n m _ oM,show m-1-(m-1-i)=i by omega]);have W:=F.get (i/8);refine eV 18 33 (mV (l.getD (i/8) 0+(fy n m).getD (m-1-i) 0*2^(8*(i%8)))) ?_ (hv:=fun _=>aK (iw (t:=38) (u:=38) (x:=.tmp 19) (y:=.tmp 32) (a:=((l).getD (i/8) 0)) (b:=(((fy n m).getD ((m-1)-i) 0:Nat)*2^(8*(i%8))%18446744073709551616:Nat)) kR kR kR oM oM _) (by rw[J]));refine bU e (fun _ Y e=>tX 19 34 (sB j) ((m+7)/8) ((m+7)/8) 1 (i/8:Nat) (i/8) rfl (tW 20 0 l ar 1 (i/8) (l.getD (i/8) 0+(fy n m).getD (m-1-i) 0*2^(8*(i%8)):Nat) e oM (fun _ e=>?_)));have zc:((l).set (i/8) (l.getD (i/8) 0+(fy n m).getD (m-1-i) 0*2^(8*(i%8)):Nat)).length=((m+7)/8):=by rw[Mg];exact K
 replace e:=e.to [⟨j,38,((l).set (i/8) (l.getD (i/8) 0+(fy n m).getD (m-1-i) 0*2^(8*(i%8)):Nat)).flatMap ar⟩,⟨z,40,[uV 0,eS]⟩] [];refine tN (kQ (bp 35 ((i:Nat)+1) (i+1) ?_));refine lL e ac (lD ?_);intro a_ ka;refine ⟨_,_,?_,⟨i+1,(l).set (i/8) (l.getD (i/8) 0+(fy n m).getD (m-1-i) 0*2^(8*(i%8)):Nat),Y,rfl,rfl,e.to _ _,oM,zc,(F.set _ C),L⟩,ka.to _ kR⟩
 omega
theorem HJ (n k:Nat)(C:(wds n).length<=1000000000)(hk:k<=65536)(w:World)(h:Hp)(g:G w h):CV 169 #[nv n,nV k] w h (nv (n*2^k)):=by
 have a:=sS g;refine go Tryz.func169 [(0,nv n),(1,nV k)] rfl (ax (lA 2 40 (nc n) a (fun I w2 J a=>lA 4 40 ([uV 0,eS]) a (fun K H F a=>aG (lL a ac (lV 6 (nV k) ?_ (hr:=aK (n:=if (65536:Int)<(k:Int) then (65536:Int) else (k:Int)) kR (if_neg oM))))))));refine lV 7 (nV k) ?_ (hr:=aK (n:=if (k:Int)>(-65536:Int) then (k:Int) else (-65536:Int)) kR (if_pos oM));refine lL a ac (ag (aa a ac ?_));have ⟨i,u⟩:=dF (p:=(k:Int)<(0:Int)) oM;refine lB 9 i (ah (cK (aa a [.o (nv n) 1 0 2] (lC 17 a (gn n oM _ _ a.g) ?_))));rintro _ L M a ⟨j,e,rfl,l,c⟩;replace a:=a.aS c;refine lL a ac (lC 19 a (wN j e (wds n) (Wd.wds n) C k oM _ _ a.g a.f.1) ?_);rintro _ _ _ a ⟨y,B,z,rfl,D,x,d,b,hz⟩;replace a:=a.aS hz;exact aq 20 a (dI y B (z) z.length ((n*2^k)) (by first|rfl|assumption|(simp;done)|(simp;omega)|omega) (d) (by rw[b,ay]) sM sM _ _ a.g a.f.1) (fun _ _ a=>lP 0 0 (nc (n*2^k)) a (fun _ a=>ae a [(0,0,2)] (nv (n*2^k)) rfl))
section
variable {P:Program}{Γ:cl}{o:Oper}
theorem Jv {t e:TypeId}{x ix:Operand}{b off sz len:Nat}{i:Int}{kk:IntKind}(k:Nat)(p:o.op=.indexAddr t x ix)(j:ev Γ x=.pointer (some ⟨b,off,none⟩))(hi:ev Γ ix=.int kk i)
    (h:P.underlying t=some (.array len e))(d:(P.info? e).map (·.size)=some sz)(hk:i=k)(u:k<len)(w:World) :
    (execOp (ev Γ) o).run P w=.ok (.value (.pointer (some ⟨b,off+k*sz,none⟩))) w:=by
  subst hk
  unfold execOp
  simp only[p]
  rw[j,hi];have c:P.elem t=e:=by unfold Program.elem;rw[h]
  have f:P.arrayLen t=len:=by unfold Program.arrayLen;rw[h]
  have h1:=run_indexAt_array (P:=P) w t ⟨b,off,none⟩ kk (k:Int) (by rw[c,f];exact h);rw[f,if_pos ⟨by omega,by omega⟩,c] at h1
  have l:(sizeOf e).run P w=.ok sz w:=by
    cases a:P.info? e with
    | none=>rw[a] at d;cases d
    | some i =>
      rw[a] at d
      simp at d
      simp[sizeOf,typeInfo,a,d]
  rw[l] at h1
  simp[h1,Result.andThen,Addr.add]
end
def Tz (n k m:Nat):Prop:=n=2^k*m/\m%2=1
theorem HG {x:Nat}(h0:x≠0)(h:x<18446744073709551616):∃ m,Tz x (Lib.ctz 64 x) m/\Lib.ctz 64 x<64:=by
 unfold Lib.ctz
 rw[if_neg h0];obtain ⟨m,e,a⟩:=Lib.ctzFrom_spec 64 x oM h;exact ⟨2*m+1,⟨e,by omega⟩,a⟩
theorem Tz.odd_pos {n k m:Nat}(h:Tz n k m):0<m:=by have:=h.2;omega
theorem Tz.word {n i x k m r:Nat}(e:n=18446744073709551616^i*(x+18446744073709551616*r))(t:Tz x k m)(hk:k<64):Tz n (64*i+k) (m+2^(64-k)*r):=by
 obtain ⟨b,c⟩:=t;refine ⟨?_,?_⟩
 ·have a:(18446744073709551616:Nat)=2^k*2^(64-k):=by rw[<-LC,show k+(64-k)=64 by omega]
  have e1:(18446744073709551616:Nat)^i=2^(64*i):=by rw[LH]
  rw[e,e1,b]
  conv=>lhs;rw[a]
  rw[LC,Ls (2^k),<-Lr,<-Ls]
 ·obtain ⟨j,hj⟩:∃ j,64-k=j+1:=⟨63-k,by omega⟩
  rw[hj,Hj,HA (2^j) 2,Ls]
  omega
theorem Tz.uniq {n k m c f:Nat}(a:Tz n k m)(b:Tz n c f):k=c/\m=f:=by
 obtain ⟨j,p⟩:=a;obtain ⟨i,o⟩:=b
 have key:∀ {k m c f:Nat},2^k*m=2^c*f->m%2=1->c<=k:=fun {k m c f} e u=>by
  rcases dS k c with h|h
  ·exfalso
   obtain ⟨d,rfl⟩:∃ d,c=k+(d+1):=⟨c-k-1,by omega⟩;rw[LC,Ls] at e
   have e2:=MN (Lz k) e;rw[Hj,HA (2^d) 2,Ls] at e2
   omega
  ·exact h
 have h1:=key (j.symm.trans i) p;have x:=key (i.symm.trans j) o;have l:k=c:=by omega
 subst l;exact ⟨rfl,MN (Lz k) (j.symm.trans i)⟩
theorem oA {x y:Nat}(a:y%2=1):MC (2*x) y=MC x y:=by
 have b:Nat.Coprime 2 y:=by
  unfold Nat.Coprime
  rw[Nat.gcd_rec,a];rfl
 exact b.gcd_mul_left_cancel x
theorem fN {x y:Nat}(a:y%2=1):∀ k,MC (2^k*x) y=MC x y
  | 0=>by simp
  | k+1=>by
    rw[Hj,HA (2^k) 2,Ls,oA a];exact fN a k
theorem BJ {x y k l m n:Nat}(a:Tz x k m)(b:Tz y l n):MC x y=MC m n*2^min k l:=by
 obtain ⟨i,e⟩:=a;obtain ⟨f,c⟩:=b;subst i f
 rcases MO k l with h|h
 ·rw[Lv h]
  obtain ⟨d,rfl⟩:∃ d,l=k+d:=⟨l-k,by omega⟩;rw[LC,Ls,MP,MD m,fN e,MD n,HA]
 ·rw[LY h]
  obtain ⟨d,rfl⟩:∃ d,k=l+d:=⟨k-l,by omega⟩;rw[LC,Ls,MP,fN c,HA]
theorem vg {x y k m:Nat}(b:y<x)(a:y%2=1)(t:Tz (x-y) k m):MC m y=MC x y:=by
 rw[<-fN a k,<-t.1];have e:=Nat.gcd_add_self_left (m:=y) (n:=x-y);rw[show x-y+y=x by omega] at e
 exact e.symm
theorem SlO.win {α:Type}{f:α->List Value}{d:α}{h:Hp}{b:Nat}{l:List α}(hf:∀ x,(f x).length=1)(i:Seg h b 0 (l.flatMap f))(o n:Nat):SlO 1 f d h (some ⟨b,o,none⟩) ((l.drop o).take n):=by
  have a:=i.part o ((l.drop o).take n).length;rw[y8] at a
  have e:∀ (l:List α) (o n:Nat),((l.flatMap f).drop o).take ((l.drop o).take n).length=((l.drop o).take n).flatMap f:=by
    have e1:∀ (l:List α),(l.flatMap f).length=l.length:=fun l=>by
      induction l with
      | nil=>rfl
      | cons x l ih=>rw[wi,List.length_append,hf,ih,List.length_cons];omega
    have c:∀ (l:List α) (o:Nat),(l.flatMap f).drop o=(l.drop o).flatMap f:=fun l=>by
      induction l with
      | nil=>intro o;simp
      | cons x l ih =>
        intro o;cases o with
        | zero=>rfl
        | succ o =>
          rw[wi,List.drop_append,hf,Mq (by rw[hf];omega),List.nil_append,List.drop_succ_cons,L8];exact ih o
    have et:∀ (l:List α) (n:Nat),(l.flatMap f).take n=(l.take n).flatMap f:=fun l=>by
      induction l with
      | nil=>intro n;simp
      | cons x l ih =>
        intro n;cases n with
        | zero=>rfl
        | succ n =>
          rw[wi,List.take_append,hf,LU (by rw[hf];omega),List.take_succ_cons,wi,L8,ih n]
    intro l o n;rw[c,et,Lu]
    congr 1
    rcases MO n (l.drop o).length with h|h
    . rw[Lv h]
    . rw[LY h,yz,LU h]
  rw[e] at a
  exact SlO.of_flat hf a
def Tab (h:Hp):Prop:=Seg h 2 0 (Lib.deBruijn64tab.map fun k=>Value.int .u8 ((k:Nat):Int))
theorem Tab.gw {h a:Hp}(t:Tab h)(u:Gw h a):Tab a:=Seg.gw t u
theorem SS.aB {w0 w:World}{h0 h:Hp}{B:List Bx}{R:List Rw}{F:List (Hp->Prop)}(s:SS w0 h0 w h B R F)(p:Tab h):SS w0 h0 w h B R ((fun h=>Tab h)::F):=s.add (K:=fun h=>Tab h) p
theorem Tab.at {h:Hp}(t:Tab h){k i:Nat}(e:i<64/\Lib.deBruijn64tab.getD i 0=k):Seg h 2 i [.int .u8 ((k:Nat):Int)]:=by
 have a:=Seg.part t i 1;obtain ⟨hi,rfl⟩:=e;rw[y8] at a
 have b:i<Lib.deBruijn64tab.length:=by show i<64;exact hi
 have e1:((Lib.deBruijn64tab.map fun k=>Value.int .u8 ((k:Nat):Int)).drop i).take 1=[.int .u8 ((Lib.deBruijn64tab.getD i 0:Nat):Int)]:=by
  rw[List.drop_eq_getElem_cons (by simpa using b)]
  simp[b]
 rw[e1] at a
 exact a
theorem J8 {s:Result Next}{b z:Nat}{w:World}(h:s=.ok (.value (.pointer (some ⟨b,0+z*1,none⟩))) w):s=.ok (.value (.pointer (some ⟨b,z,none⟩))) w:=by rw[h,LP,y8]
theorem xS {l:List Nat}(a:Wd l)(c:l.length<=(wds (aA l)).length):wds (aA l)=l:=by
 have e:=og a;have h1:(wds (aA l)).length=min (tl l l.length) l.length:=by rw[e,Lu]
 have b:=iq l l.length;rw[e,LU oM]
theorem KH {l:List Nat}(a:Wd l):aA l<256^(8*l.length):=by
 have:=bM a;rw[LH];exact this
theorem FY {a b:Nat}(h:wds a=wds b):a=b:=by rw[<-ay a,<-ay b,h]
theorem wF {l:List Nat}{i:Nat}(h:i<l.length)(h0:l.getD i 0=0){n:Nat}(inv:n=18446744073709551616^i*ai 18446744073709551616 (l.drop i)):n=18446744073709551616^(i+1)*ai 18446744073709551616 (l.drop (i+1)):=by
 rw[inv,fT _ h,h0,y8,Hj,Ls]
theorem Jo (x:Nat)(o:x≠0)(B:x<18446744073709551616)(w:World)(h:Hp)(g:G w h)(D:Tab h):CV 191 #[mV x] w h (nV (Lib.ctz 64 x)):=by
 have d:=((sS g).aB D);obtain ⟨l,hk⟩:=Lib.lowest_bit 64 x o B;have c:=Lib.deBruijn64_at _ hk
 generalize Lib.ctz 64 x=k at *
 generalize hp:2^k=p at *
 obtain ⟨y,hy⟩:∃ y,p*285870213051353865%18446744073709551616=y:=⟨_,rfl⟩;rw[hy] at c
 obtain ⟨z,hz⟩:∃ z,y/288230376151711744=z:=⟨_,rfl⟩;rw[hz] at c
 refine go Tryz.func191 [(0,mV x)] rfl (aa d ac (ag (aa d ac ?_)));have j:((x:Int) == (0:Int))=false:=eU oM;have C:=aj j;refine lB 4 j (ah (cK (aa d aD (lV 7 (mV (18446744073709551616-x)) ?_ (hr:=rU ((0-(x:Int))) kR (by rw[IntKind.wrap_u64];omega))))));refine lV 8 (mV p) ?_ (hr:=aK (n:=bits .and .u64 (x:Int) ((18446744073709551616-x:Nat):Int)) kR (by rw[bits_and_u64_nat _ _ B oM];exact congrArg _ l));refine lV 9 (mV y) ?_ (hr:=rU (((p:Int)*285870213051353865)) kR ((jF p 285870213051353865).trans (congrArg _ hy)));refine lV 10 (mV z) ?_ (hr:=aK (gL (t:=38) (u:=155) (x:=.tmp 9) (y:=.const (uV 58)) (ky:=.u64) (a:=y) (n:=58) kR kR kR oM _) (congrArg _ (by rw[show (2:Nat)^58=288230376151711744 from rfl];exact hz)));refine lV 11 (qP 2 z) ?_ (hr:=J8 (Jv (t:=271) (e:=5) (x:=.global 2) (ix:=.tmp 10) (b:=2) (off:=0) (sz:=1) (len:=64) (kk:=.u64) (i:=(z:Int)) z kR kR kR kR kR rfl c.1 _));refine lH 12 (.int .u8 (k:Int)) d (Tab.at d.f.1 c) (lV 13 (nV k) ?_ (hr:=rS ((k:Int)) kR (pd oM oM)));exact lL d ac (ae d [] (nV k) rfl)
theorem rz (A:Z9)(c:Nat)(l:List Nat)(n:Nat)(hn:l.length=n)(y:Wd l)(O:0<aA l)(K:l.length<=1000000000)(w:World)(h:Hp)(g:G w h)(H:Tab h)(D:SlO 1 ar 0 h A l):CR 164 #[.slice A n c] w h (fun v _=>∃ k m:Nat,v=nV k/\Tz (aA l) k m/\k/64<l.length):=by
 have a:=(((sS g).aB H).aS D);refine go Tryz.func164 [(0,qS A n c)] rfl (aa a ac (aG (lL a ac (ag (kZ ?_)))));refine bH _ (CG.loop (fun u Γ z=>∃ (i:Nat)(d:Hp),u=l.length-i/\Γ=[(0,qS A n c),(2,iV 0),(3,nV i)]/\SS w h z d [] [] [fun d=>SlO 1 ar 0 d A l,fun d=>Tab d]/\i<=l.length/\aA l=18446744073709551616^i*ai 18446744073709551616 (l.drop i)) _ ⟨0,h,rfl,rfl,a.to _ _,My _,(by show ai _ _=_;rw[MA,LW,yh])⟩ ?_);rintro _ _ w1 ⟨i,B,C,rfl,a,hi,inv⟩;have o:i<l.length:=by rcases dS i l.length with d|d;exact d;rw[Mq d] at inv;simp[ai] at inv;omega
 refine cQ (aa a aD (lX 6 A n c 1 (i:Nat) i ((a.f.1).ok oM) ?_));refine lH 7 (mV (l.getD i 0)) a ((a.f.1).el i oM) ?_;cases b:(((l.getD i 0:Nat):Int) == (0:Int))
 .
  have e:=aj b;refine lB 8 b (ah (CG.exit ?_))
  show CG _ _ _ _ _ _ _ _
  refine aa a ac (lI 12 (64*(i:Nat)) ?_);refine lL a aD (lX 15 A n c 1 (i:Nat) i ((a.f.1).ok oM) ?_);refine lH 16 (mV (l.getD i 0)) a ((a.f.1).el i oM) (aq 17 a (Jo (l.getD i 0) oM (y.get i) _ _ a.g a.f.2.1) (fun J I a=>?_));obtain ⟨M,p,j⟩:=HG (x:=l.getD i 0) oM (y.get i);exact lI 18 ((64*(i:Nat))+(Lib.ctz 64 (l.getD i 0):Nat)) (lL a ac (ae a [] (iV ((64*(i:Nat))+(Lib.ctz 64 (l.getD i 0):Nat))) (⟨_,_,rfl,Tz.word (by rw[inv,fT _ o]) p j,by omega⟩)))
 have e:=eq_of_beq b;refine lB 8 b (am (cK (kZ (kQ (lL a ac (bp 10 ((i:Nat)+1) (i+1) ?_))))));refine lL a ac (lD ?_);intro L F;refine ⟨_,_,?_,⟨i+1,B,rfl,rfl,a.to _ _,oM,(wF o oM inv)⟩,F.to _ kR⟩
 omega
end Go.Proofs.YthfkmhgnndmblaaGreatDoor
