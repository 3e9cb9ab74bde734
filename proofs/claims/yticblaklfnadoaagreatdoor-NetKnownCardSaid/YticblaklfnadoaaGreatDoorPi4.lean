/- Laws and contracts that the card of this claim stands on, part 5. No condition of ours. -/
import Derived.Test.YticblaklfnadoaaGreatDoorPi0
import Derived.Test.YticblaklfnadoaaGreatDoorPi1
import Derived.Test.YticblaklfnadoaaGreatDoorPi2
import Derived.Test.YticblaklfnadoaaGreatDoorPi3
set_option maxRecDepth 100000
set_option maxHeartbeats 4000000
namespace Go.Proofs.YticblaklfnadoaaGreatDoor
open Go.RowKit
open Go.RowKit Go.Shelf
theorem lim_small {z:Int}(h0 : -9223372036854775808≤z)(h1:z<9223372036854775808):(lim (iabs z)).length≤2:=lim_len_le (by unfold iabs;omega)
theorem rOver (x y:Int)(hy0:y≠0)(h0 : -9223372036854775808≤x)(h1:x<9223372036854775808)(h2 : -9223372036854775808≤y)(h3:y<9223372036854775808)(w:World)(h:Hp)(g:G w h) :
    Calls Tryz.prog 50 #[.int .i64 x,.int .i64 y] w (Ret w h fun v h1=>RQ h1 v (mkR x y)):=by
 have hs:=SS.start g
 have hx_:=lim_small h0 h1
 have hy_:=lim_small h2 h3
 refine go Tryz.func50 [(0,.int .i64 x),(1,.int .i64 y)] rfl ?_
 refine cSL (lA 4 95 ([.bool false,.slice none 0 0,.slice none 0 0]) hs (fun b1 w2 h3 hs=>?_))
 refine lNS (lL hs [.m 5 0] (lC 6 hs (rIntOf x oM oM _ _ hs.g) ?_))
 rintro _ w8 h9 hs ⟨A4,c5,rfl,hc6,hA7⟩
 replace hs:=(hs.a_SlO hA7)
 refine lL hs [.m 7 1] (lC 8 hs (rIntOf y oM oM _ _ hs.g) ?_)
 rintro _ w14 h15 hs ⟨A10,c11,rfl,hc12,hA13⟩
 replace hs:=(hs.a_SlO hA13)
 refine lC 9 hs (rMake x A4 c5 hc6 oM y A10 c11 hc12 oM hy0 _ _ hs.g (hs.f.2.1) (hs.f.1)) ?_
 rintro _ w24 h25 hs ⟨A16,c17,A20,c21,rfl,hc18,hc22,hA19,hA23⟩
 replace hs:=((hs.a_SlO hA19).a_SlO hA23)
 refine lP 0 0 ([.bool (ineg (mkR x y).num),.slice A16 ((lim (iabs (mkR x y).num)).length) c17,.slice A20 ((lim (mkR x y).den).length) c21]) hs (fun w26 hs=>?_)
 exact lN (CG.ret (hs.ret [(0,0,3)] (.agg #[.bool (ineg (mkR x y).num),.slice A16 ((lim (iabs (mkR x y).num)).length) c17,.slice A20 ((lim (mkR x y).den).length) c21]) (by skip;exact ⟨_,_,_,_,rfl,hc18,hc22,(hs.f.2.1),(hs.f.1)⟩)))
theorem opShlU32 {P:Program}{Γ:Env}{o:Oper}{t u:TypeId}{x y:Operand}{ky:IntKind}{a n:Nat}(ho:o.op=.binOp .shl t x y u)(hx:ev Γ x=.int .u32 (a:Int))(hy:ev Γ y=.int ky (n:Int))(hn:n≤32)(hf:a*2^n<4294967296)(w:World) :
    (execOp (ev Γ) o).run P w=.ok (.value (.int .u32 ((a*2^n:Nat):Int))) w:=by
  have:=opShl (P:=P) ho hx hy hn w
  rw[show ((a:Int)*2^n)=((a*2^n:Nat):Int) by simp,fnU32 hf] at this
  exact this
theorem lowL_init {n m:Nat}(h:n<256^m):∀ j,j<(m+3)/4→(List.replicate ((m+3)/4) 0).getD j 0=lowL n (m-0) j:=fun j hj=>by
  rw[Nat.sub_zero,lowL_top h];simp[hj]
theorem lowL_next {l:List Nat}{n m i x:Nat}(hi:i<m)(hl:l.length=(m+3)/4)(hv:∀ j,j<(m+3)/4→l.getD j 0=lowL n (m-i) j)(hx:x=lowL n (m-1-i) ((m-1-i)/4)) :
    ∀ j,j<(m+3)/4→(l.set ((m-1-i)/4) x).getD j 0=lowL n (m-(i+1)) j:=by
  intro j hj
  rw[show m-(i+1)=m-1-i by omega]
  by_cases e:j=(m-1-i)/4
  · subst e
    have:(m-1-i)/4<l.length:=by omega
    simp[this,hx]
  · rw[lowL_step,if_neg e,show m-1-i+1=m-i by omega,←hv j hj]
    simp only[List.getD_eq_getElem?_getD]
    rw[List.getElem?_set_ne (Ne.symm e)]
theorem from_or {n k:Nat}:lowL n (k+1) (k/4) ||| (n/256^k%256)*2^(8*(k%4))=lowL n k (k/4):=by rw[lowL_step n k (k/4),if_pos rfl]
theorem shl_fit32 {b k:Nat}(hb:b<256):b*2^(8*(k%4))<4294967296:=by
  have:k%4=0∨k%4=1∨k%4=2∨k%4=3:=by omega
  rcases this with e|e|e|e<;>rw[e]<;>omega
theorem from_fin {l:List Nat}{n m:Nat}(hn:n<256^m)(hl:l.length=(m+3)/4)(hv:∀ j,j<(m+3)/4→l.getD j 0=lowL n (m-m) j):bval 4294967296 l=n∧Ld l:=by
  constructor
  · rw[←nval_bval]
    refine nval_of_digits l n (fun j hj=>by rw[hv j oM,Nat.sub_self,lowL_zero]) ?_
    refine Nat.lt_of_lt_of_le hn ?_
    rw[hl,show (256:Nat)=2^8 by rfl,show (4294967296:Nat)=2^32 by rfl,←Nat.pow_mul,←Nat.pow_mul]
    exact Nat.pow_le_pow_right oM oM
  · intro x hx
    obtain ⟨j,hj,rfl⟩:=List.mem_iff_getElem.1 hx
    have:=hv j oM
    have e:l[j]=l.getD j 0:=by simp[hj]
    rw[e,this]
    exact lowL_lt _ _ _
theorem rNatFrom (n m:Nat)(A:Option Addr)(cap:Nat)(hc:m≤cap)(hm:m≤1099511627776)(hn:n<256^m)(w:World)(h:Hp)(g:G w h)(hA:SlO 1 u8c 0 h A (byt n m)) :
    Calls Tryz.prog 180 #[.slice A m cap] w (Ret w h fun v h1=>RN h1 v n):=by
 have hs:=SS.start g
 replace hs:=(hs.a_SlO hA)
 have hbl:=byt_len n m
 refine go Tryz.func180 [(0,.slice A m cap)] rfl ?_
 refine cSL (lL hs [.v 2 (.slice none 0 0)] (lNS (lL hs [.m 6 0,.v 7 (.int .i64 (m:Nat))] (lIn 8 ((m:Nat)+3) (m+3) ?_))))
 refine lV 9 (.int .i64 ((m+3)/4:Nat)) ?_ (hr:=rint (opQuo (t:=3) (u:=3) (x:=.tmp 8) (y:=.const (.int .i64 4)) (k:=.i64) (a:=((m+3:Nat):Int)) (b:=(4:Int)) kR kR kR oM _) (quoI64 (m+3) 4 oM))
 refine lK 10 214 ((m+3)/4) 1 4 (.int .u32 0) u32c 0 hs (fun b1 w2 h3 hs=>?_)
 have hl4:(List.replicate ((m+3)/4) 0).length=((m+3)/4):=by simp
 refine lL hs [.m 3 10] (lN (CG.seq (cSL (lL hs [.v 4 (.int .i64 0)] (lN (CG.block (cTo [(0,.slice A m cap),(2,.slice none 0 0),(3,.slice (some ⟨b1,0,none⟩) ((m+3)/4) ((m+3)/4)),(4,.int .i64 0)] ?_)))))))
 refine CG.loop (fun μ_ Γ w_=>∃ (i:Nat) (l:List Nat) (h_:Hp),μ_=m-i∧Γ=[(0,.slice A m cap),(2,.slice none 0 0),(3,.slice (some ⟨b1,0,none⟩) ((m+3)/4) ((m+3)/4)),(4,.int .i64 (i:Nat))]∧SS w h w_ h_ [⟨b1,214,(l).flatMap u32c⟩] [] [fun h_=>SlO 1 u8c 0 h_ A (byt n m)]∧(i≤m)∧(l.length=(m+3)/4)∧(∀ j,j<(m+3)/4→l.getD j 0=lowL n (m-i) j)) _ ⟨0,List.replicate ((m+3)/4) 0,h3,rfl,rfl,hs.to _ _,Nat.zero_le _,hl4,(lowL_init hn)⟩ ?_
 rintro _ _ w5 ⟨i,l,h6,hm7,rfl,hs,hi,hll,hv⟩
 refine CG.seq (cSL (lL hs [.m 11 4,.m 12 0,.v 13 (.int .i64 (m:Nat))] ?_))
 cases hb8:(decide (((i:Nat):Int)<((m:Nat):Int)))
 ·
  have phb8:=oF hb8
  refine lB 14 hb8 ?_
  refine lN (cIF (CG.exit ?_))
  show CG _ _ _ _ _ _ _ _
  refine cSL (lL hs [.m 42 3] ?_)
  have him:i=m:=by omega
  rw[him] at hv
  obtain ⟨hf1,hf2⟩:=from_fin hn hll hv
  obtain ⟨h9,hs,sg10,lo11,bc12⟩:=hs.pub 0
  replace hs:=(hs.to [] []).a_SlO (SlO.of_flat (sz:=1) (f:=u32c) (d:=0) (b:=b1) (o:=0) (l:=l) (fun _=>rfl) sg10)
  refine lC 43 hs (rTrim (some ⟨b1,0,none⟩) ((m+3)/4) l ((m+3)/4) hll oM oM _ _ hs.g (hs.f.1)) ?_
  rintro _ w14 h15 hs rfl
  exact lL hs [.m 2 43] (lN (CG.ret (hs.ret [] (.slice (some ⟨b1,0,none⟩) (tl l ((m+3)/4)) ((m+3)/4)) (RN.trim hf2 hf1 hll oM (hs.f.1)))))
 have phb8:=oT hb8
 refine lB 14 hb8 ?_
 refine lN (cIT (CG.skipN (CG.seq (CG.block (cSL (lL hs [.m 17 0,.v 18 (.int .i64 (m:Nat))] (lIn 19 ((m:Nat)-1) (m-1) ?_)))))))
 refine lL hs [.m 20 4] (lIn 21 ((m-1:Nat)-(i:Nat)) ((m-1)-i) ?_)
 refine lL hs [.m 5 21] (lN (cR 19 [] mixed hs al_nil ?_))
 refine eV 0 22 (.slice (some ⟨b1,0,none⟩) ((m+3)/4) ((m+3)/4)) ?_
 refine eV 1 23 (.int .i64 ((m-1)-i:Nat)) ?_
 refine eV 2 24 (.int .i64 (((m-1)-i)/4:Nat)) ?_ (hv:=fun _=>rint (opQuo (t:=3) (u:=3) (x:=.tmp 23) (y:=.const (.int .i64 4)) (k:=.i64) (a:=(((m-1)-i:Nat):Int)) (b:=(4:Int)) kR kR kR oM _) (quoI64 ((m-1)-i) 4 oM))
 refine eV 3 25 (.slice (some ⟨b1,0,none⟩) ((m+3)/4) ((m+3)/4)) ?_
 refine eV 4 26 (.int .i64 ((m-1)-i:Nat)) ?_
 refine eV 5 27 (.int .i64 (((m-1)-i)/4:Nat)) ?_ (hv:=fun _=>rint (opQuo (t:=3) (u:=3) (x:=.tmp 26) (y:=.const (.int .i64 4)) (k:=.i64) (a:=(((m-1)-i:Nat):Int)) (b:=(4:Int)) kR kR kR oM _) (quoI64 ((m-1)-i) 4 oM))
 refine eX 6 28 (some ⟨b1,0,none⟩) ((m+3)/4) ((m+3)/4) 1 (((m-1)-i)/4:Nat) (((m-1)-i)/4:Nat) rfl ?_
 refine eQ 7 29 0 l u32c 1 0 (((m-1)-i)/4:Nat) (.int .u32 ((l).getD (((m-1)-i)/4:Nat) 0:Nat)) hs oM ?_
 refine eV 8 30 (.slice A m cap) ?_
 refine eV 9 31 (.int .i64 (i:Nat)) ?_
 refine eX 10 32 A m cap 1 (i:Nat) i ((hs.f.1).ok oM) ?_
 have hvk:=hv ((m-1-i)/4) oM
 have hor:l.getD ((m-1-i)/4) 0 ||| (n/256^(m-1-i)%256)*2^(8*((m-1-i)%4))=lowL n (m-1-i) ((m-1-i)/4):=by rw[hvk,show m-i=m-1-i+1 by omega];exact from_or
 have hlt:l.getD ((m-1-i)/4) 0<4294967296:=by rw[hvk];exact lowL_lt _ _ _
 have hvk:=hv ((m-1-i)/4) oM
 have hor:l.getD ((m-1-i)/4) 0 ||| (n/256^(m-1-i)%256)*2^(8*((m-1-i)%4))=lowL n (m-1-i) ((m-1-i)/4):=by rw[hvk,show m-i=m-1-i+1 by omega];exact from_or
 have hlt:l.getD ((m-1-i)/4) 0<4294967296:=by rw[hvk];exact lowL_lt _ _ _
 refine eHe 11 33 (.int .u8 ((byt n m).getD i 0:Nat)) hs ((hs.f.1).el i oM) (by rw[byt_get n m _ oM]) ?_
 refine eV 12 34 (.int .u32 (n/256^(m-1-i)%256:Nat)) ?_ (hv:=fun _=>rint (n:=IntKind.wrap .u32 ((n/256^(m-1-i)%256:Nat):Int)) kR (fitU32 oM oM))
 refine eV 13 35 (.int .i64 ((m-1)-i:Nat)) ?_
 refine eV 14 36 (.int .i64 (((m-1)-i)%4:Nat)) ?_ (hv:=fun _=>rint (opRem (t:=3) (u:=3) (x:=.tmp 35) (y:=.const (.int .i64 4)) (k:=.i64) (a:=(((m-1)-i:Nat):Int)) (b:=(4:Int)) kR kR kR oM _) (tmodNat ((m-1)-i) 4))
 refine eIn 15 37 (8*(((m-1)-i)%4:Nat)) (8*(((m-1)-i)%4:Nat)) ?_
 refine eV 16 38 (.int .u64 (8*(((m-1)-i)%4:Nat):Nat)) ?_ (hv:=fun _=>rint (n:=IntKind.wrap .u64 ((8*(((m-1)-i)%4:Nat):Nat):Int)) kR (fitU64 oM oM))
 refine eV 17 39 (.int .u32 ((n/256^(m-1-i)%256)*2^(8*((m-1-i)%4)):Nat)) ?_ (hv:=fun _=>opShlU32 (t:=214) (u:=119) (x:=.tmp 34) (y:=.tmp 38) (ky:=.u64) (a:=n/256^(m-1-i)%256) (n:=8*((m-1-i)%4)) kR kR kR oM (shl_fit32 oM) _)
 refine eV 18 40 (.int .u32 (lowL n (m-1-i) ((m-1-i)/4):Nat)) ?_ (hv:=fun _=>rint (opOr32 (t:=214) (u:=214) (x:=.tmp 29) (y:=.tmp 39) (a:=l.getD ((m-1-i)/4) 0) (b:=(n/256^(m-1-i)%256)*2^(8*((m-1-i)%4))) kR kR kR hlt (shl_fit32 oM) _) (congrArg Int.ofNat hor))
 refine eD0 hs (fun w16 h17 hs=>?_)
 refine tX 19 41 (some ⟨b1,0,none⟩) ((m+3)/4) ((m+3)/4) 1 (((m-1)-i)/4:Nat) (((m-1)-i)/4:Nat) rfl ?_
 refine tW 20 0 l u32c 1 (((m-1)-i)/4:Nat) (lowL n (m-1-i) ((m-1-i)/4):Nat) hs oM (fun w18 hs=>?_)
 have hl19:((l).set (((m-1)-i)/4:Nat) (lowL n (m-1-i) ((m-1-i)/4):Nat)).length=((m+3)/4):=by rw[List.length_set];exact hll
 replace hs:=hs.to [⟨b1,214,((l).set (((m-1)-i)/4:Nat) (lowL n (m-1-i) ((m-1-i)/4):Nat)).flatMap u32c⟩] []
 refine tN (CG.listed (lL hs [.m 15 4] (lIn 16 ((i:Nat)+1) (i+1) ?_)))
 refine lL hs [.m 4 16] (lD ?_)
 intro a_ ka
 have q20:(i+1)≤m:=by omega
 have q21:((l).set (((m-1)-i)/4:Nat) (lowL n (m-1-i) ((m-1-i)/4):Nat)).length=(m+3)/4:=hl19
 have q22:∀ j,j<(m+3)/4→((l).set (((m-1)-i)/4:Nat) (lowL n (m-1-i) ((m-1-i)/4):Nat)).getD j 0=lowL n (m-(i+1)) j:=(lowL_next oM hll hv rfl)
 refine ⟨_,_,?_,⟨i+1,(l).set (((m-1)-i)/4:Nat) (lowL n (m-1-i) ((m-1-i)/4):Nat),h17,rfl,rfl,hs.to _ _,q20,q21,q22⟩,ka.to [(0,.slice A m cap),(2,.slice none 0 0),(3,.slice (some ⟨b1,0,none⟩) ((m+3)/4) ((m+3)/4)),(4,.int .i64 ((i+1):Nat))] kR⟩
 omega
def qabs (q:Rat):Rat:=if q.num<0 then -q else q
theorem qabs_num (q:Rat):(qabs q).num=((iabs q.num:Nat):Int):=by
  unfold qabs iabs;split
  · rw[Rat.neg_num];omega
  · omega
theorem qabs_den (q:Rat):(qabs q).den=q.den:=by
  unfold qabs;split
  · rw[Rat.neg_den]
  · rfl
theorem LQ.ln {q:Rat}(h:LQ 100000000 q):(lim (iabs q.num)).length≤300000000:=Nat.le_trans (lim_wds _) (by have:=h.1;omega)
theorem LQ.ld {q:Rat}(h:LQ 100000000 q):(lim q.den).length≤300000000:=Nat.le_trans (lim_wds _) (by have:=h.2;omega)
theorem LQ.abs {k:Nat}{q:Rat}(h:LQ k q):LQ k (qabs q):=⟨by rw[qabs_num];exact h.1,by rw[qabs_den];exact h.2⟩
theorem LQ.sub {k l:Nat}{a b:Rat}(ha:LQ k a)(hb:LQ l b):LQ (k+l+1) (a-b):=by rw[Rat.sub_eq_add_neg];exact ha.add hb.neg
theorem LQ.inv {k:Nat}{q:Rat}(h:LQ k q):LQ k q⁻¹:=by
  by_cases hz:q.num=0
  · have:q=0:=by rw[←Rat.num_eq_zero];exact hz
    subst this;rw[Rat.inv_zero];exact h
  · obtain ⟨h1,h2⟩:=rat_inv q hz
    exact ⟨by rw[h1,iabs_sgn];exact h.2,by rw[h2];exact h.1⟩
theorem LQ.div {k l:Nat}{a b:Rat}(ha:LQ k a)(hb:LQ l b):LQ (k+l) (a/b):=by rw[Rat.div_def];exact ha.mul hb.inv
theorem LQ.int {z:Int}(h0 : -9223372036854775808≤z)(h1:z≤9223372036854775807):LQ 1 (z:Rat):=⟨by rw[Rat.num_intCast];exact wds_len_lit.2 (by unfold iabs;omega),by rw[Rat.den_intCast];exact wds_len_lit.2 oM⟩
theorem LQ.lit {z:Int}(h : -9223372036854775808≤z∧z≤9223372036854775807):LQ 1 (z:Rat):=LQ.int h.1 h.2
def dotq (a b:List Rat):Nat→Rat
  | 0=>0
  | k+1=>dotq a b k+a.getD k 0*b.getD k 0
theorem LQ.dot {a b:List Rat}{k l n:Nat}(ha:∀ i,i<n→LQ k (a.getD i 0))(hb:∀ i,i<n→LQ l (b.getD i 0)):∀ i,i≤n→LQ (i*(k+l+1)+1) (dotq a b i)
  | 0,_=>by rw[Nat.zero_mul];exact LQ.lit (z:=0) kD
  | i+1,h=>by
    have h1:=(LQ.dot ha hb i oM).add ((ha i oM).mul (hb i oM))
    refine LQ.mono h1 ?_
    rw[Nat.succ_mul];omega
theorem hOutNat (n:Nat)(hl:(wds n).length≤100000000)(w:World)(h:Hp)(g:G w h) :
    Calls Tryz.prog 122 #[nv n] w (Ret w h fun v h1=>RN h1 v n):=by
 have hs:=SS.start g
 have hnb:=nb_len64 n
 refine go Tryz.func122 [(0,nv n)] rfl ?_
 refine cSL (lA 1 69 (nc n) hs (fun b1 w2 h3 hs=>?_))
 refine lL hs [.v 2 (.slice none 0 0)] (lNS (lL hs [.o 3 (nv n) 0 0 2] (lC 4 hs (nBytes n oM _ _ hs.g) ?_)))
 rintro _ w6 h7 hs ⟨A4,rfl,hA5⟩
 replace hs:=(hs.a_SlO hA5)
 refine lC 5 hs (rNatFrom n ((nb n+7)/8) A4 ((nb n+7)/8) (Nat.le_refl _) oM (lt256 n) _ _ hs.g (hs.f.1)) ?_
 rintro _ w12 h13 hs ⟨A8,c9,rfl,hc10,hA11⟩
 replace hs:=(hs.a_SlO hA11)
 exact lL hs [.m 2 5] (lN (CG.ret (hs.ret [] (.slice A8 ((lim n).length) c9) (⟨_,_,rfl,hc10,(hs.f.1)⟩))))
theorem sgn_sgn (z:Int):sgn (decide (z.sign<(0:Int))) (iabs z)=z:=by
  rcases Int.lt_trichotomy z 0 with h|h|h
  · rw[Int.sign_eq_neg_one_of_neg h];unfold sgn iabs;simp;omega
  · subst h;rfl
  · rw[Int.sign_eq_one_of_pos h];unfold sgn iabs;simp;omega
theorem hOutInt (z:Int)(hl:(wds (iabs z)).length≤100000000)(w:World)(h:Hp)(g:G w h) :
    Calls Tryz.prog 120 #[iv z] w (Ret w h fun v h1=>RI h1 v z):=by
 have hs:=SS.start g
 refine go Tryz.func120 [(0,iv z)] rfl ?_
 refine cSL (lA 1 71 (ic z) hs (fun b1 w2 h3 hs=>?_))
 refine lA 2 93 ([.bool false,.slice none 0 0]) hs (fun b4 w5 h6 hs=>?_)
 refine lN (CG.seq (cR 7 [] mixed hs al_nil ?_))
 refine eO 0 3 [(1,0,3)] (iv z) hs ?_
 refine eO 3 6 [(1,0,3)] (iv z) hs ?_
 refine eC 1 4 hs (fun _ _ hs=>wSign z oM _ _ hs.g) ?_
 rintro _ _ _ w7 h8 hs rfl
 refine eV 2 5 (.bool (decide ((z.sign:Int)<(0:Int)))) ?_
 refine eC 4 7 hs (fun _ _ hs=>wAbs z _ _ hs.g) ?_
 rintro _ _ _ w9 h10 hs rfl
 refine eC 5 8 hs (fun _ _ hs=>hOutNat (iabs z) (by first|exact hq.2|omega) _ _ hs.g) ?_
 rintro _ _ _ w15 h16 hs ⟨A11,c12,rfl,hc13,hA14⟩
 replace hs:=(hs.a_SlO hA14)
 refine eC 6 9 hs (fun _ _ hs=>rI (decide ((z.sign:Int)<(0:Int))) (iabs z) A11 c12 hc13 _ _ hs.g (hs.f.1)) ?_
 rintro _ _ _ w21 h22 hs ⟨A17,c18,rfl,hc19,hA20⟩
 replace hs:=(hs.a_SlO hA20)
 refine eD0 hs (fun w23 h24 hs=>?_)
 refine tP 7 0 0 ([.bool (ineg (sgn (decide ((z.sign:Int)<(0:Int))) (iabs z))),.slice A17 ((lim (iabs (sgn (decide ((z.sign:Int)<(0:Int))) (iabs z)))).length) c18]) hs (fun w25 hs=>?_)
 exact tN (CG.ret (hs.ret [(0,0,2)] (.agg #[.bool (ineg (sgn (decide ((z.sign:Int)<(0:Int))) (iabs z))),.slice A17 ((lim (iabs (sgn (decide ((z.sign:Int)<(0:Int))) (iabs z)))).length) c18]) (by rw[sgn_sgn] at *;exact ⟨_,_,rfl,hc19,(hs.f.1)⟩)))
theorem hOut (q:Rat)(hq:LQ 100000000 q)(w:World)(h:Hp)(g:G w h) :
    Calls Tryz.prog 75 #[qv q] w (Ret w h fun v h1=>RQ h1 v q):=by
 have hs:=SS.start g
 refine go Tryz.func75 [(0,qv q)] rfl ?_
 refine cSL (lA 1 73 (qc q) hs (fun b1 w2 h3 hs=>?_))
 refine lA 2 95 ([.bool false,.slice none 0 0,.slice none 0 0]) hs (fun b4 w5 h6 hs=>?_)
 refine lN (CG.seq (cR 7 [] mixed hs al_nil ?_))
 refine eO 0 3 [(1,0,5)] (qv q) hs ?_
 refine eO 3 6 [(1,0,5)] (qv q) hs ?_
 refine eC 1 4 hs (fun _ _ hs=>fNum q _ _ hs.g) ?_
 rintro _ _ _ w7 h8 hs rfl
 refine eC 2 5 hs (fun _ _ hs=>hOutInt q.num hq.1 _ _ hs.g) ?_
 rintro _ _ _ w13 h14 hs ⟨A9,c10,rfl,hc11,hA12⟩
 replace hs:=(hs.a_SlO hA12)
 refine eC 4 7 hs (fun _ _ hs=>fDen q hq _ _ hs.g) ?_
 rintro _ _ _ w15 h16 hs rfl
 refine eC 5 8 hs (fun _ _ hs=>hOutNat q.den (by first|exact hq.2|omega) _ _ hs.g) ?_
 rintro _ _ _ w21 h22 hs ⟨A17,c18,rfl,hc19,hA20⟩
 replace hs:=(hs.a_SlO hA20)
 refine eV 6 9 (.agg #[.bool (ineg q.num),.slice A9 ((lim (iabs q.num)).length) c10,.slice A17 ((lim q.den).length) c18]) ?_
 refine eD0 hs (fun w23 h24 hs=>?_)
 refine tP 7 0 0 ([.bool (ineg q.num),.slice A9 ((lim (iabs q.num)).length) c10,.slice A17 ((lim q.den).length) c18]) hs (fun w25 hs=>?_)
 exact tN (CG.ret (hs.ret [(0,0,3)] (.agg #[.bool (ineg q.num),.slice A9 ((lim (iabs q.num)).length) c10,.slice A17 ((lim q.den).length) c18]) (⟨_,_,_,_,rfl,hc11,hc19,(hs.f.2.1),(hs.f.1)⟩)))
def sameQ (a b:Rat):Bool:=decide (a=b)
theorem sameQ_t {a b:Rat}(h1:cmpN (iabs a.num) (iabs b.num)=0)(h2:ineg a.num=ineg b.num)(h3:cmpN a.den b.den=0):true=sameQ a b:=by
  have e1:iabs a.num=iabs b.num:=by unfold cmpN at h1;split at h1;omega;split at h1;omega;omega
  have e3:a.den=b.den:=by unfold cmpN at h3;split at h3;omega;split at h3;omega;omega
  have e2:a.num=b.num:=by rw[←sgn_self a.num,←sgn_self b.num,e1,h2]
  symm
  exact decide_eq_true (Rat.ext e2 e3)
theorem cmpN_self (a:Nat):cmpN a a=0:=by simp[cmpN]
theorem sameQ_f {a b:Rat}(h:cmpN (iabs a.num) (iabs b.num)≠0∨ineg a.num≠ineg b.num∨cmpN a.den b.den≠0):false=sameQ a b:=by
  symm
  refine decide_eq_false ?_
  rintro rfl
  rcases h with h|h|h
  · exact h (cmpN_self _)
  · exact h rfl
  · exact h (cmpN_self _)
theorem hSame (q r:Rat)(hq:LQ 100000000 q)(hr:LQ 100000000 r)(A1:Option Addr)(c1:Nat)(D1:Option Addr)(d1:Nat)(hc1:(lim (iabs r.num)).length≤c1)(hd1:(lim r.den).length≤d1)(w:World)(h:Hp)(g:G w h)(hA1:SlO 1 u32c 0 h A1 (lim (iabs r.num)))(hD1:SlO 1 u32c 0 h D1 (lim r.den)) :
    Calls Tryz.prog 33 #[qv q,.agg #[.bool (ineg r.num),.slice A1 ((lim (iabs r.num)).length) c1,.slice D1 ((lim r.den).length) d1]] w (Ret w h fun v _=>v=.bool (sameQ q r)):=by
 have hs:=SS.start g
 replace hs:=((hs.a_SlO hA1).a_SlO hD1)
 have hpd:0<(lim r.den).length:=lim_pos.2 r.den_pos
 have hq1:=LQ.ln hq
 have hq2:=LQ.ld hq
 have hr1:=LQ.ln hr
 have hr2:=LQ.ld hr
 refine go Tryz.func33 [(0,qv q),(1,.agg #[.bool (ineg r.num),.slice A1 ((lim (iabs r.num)).length) c1,.slice D1 ((lim r.den).length) d1])] rfl ?_
 refine cSL (lA 2 73 (qc q) hs (fun b1 w2 h3 hs=>?_))
 refine lA 3 95 ([.bool (ineg r.num),.slice A1 ((lim (iabs r.num)).length) c1,.slice D1 ((lim r.den).length) d1]) hs (fun b4 w5 h6 hs=>?_)
 refine lL hs [.v 4 (.bool false)] (lNS (lL hs [.o 6 (qv q) 1 0 5] (lC 7 hs (hOut q hq _ _ hs.g) ?_)))
 rintro _ w15 h16 hs ⟨A7,c8,A11,c12,rfl,hc9,hc13,hA10,hA14⟩
 replace hs:=((hs.a_SlO hA10).a_SlO hA14)
 refine lA 5 95 ([.bool false,.slice none 0 0,.slice none 0 0]) hs (fun b17 w18 h19 hs=>?_)
 refine lP 0 0 ([.bool (ineg q.num),.slice A7 ((lim (iabs q.num)).length) c8,.slice A11 ((lim q.den).length) c12]) hs (fun w20 hs=>?_)
 refine lN (CG.seq (cSL (lL hs [.v 8 (.pointer (some ⟨b4,2,none⟩)),.o 9 (.slice D1 ((lim r.den).length) d1) 1 2 1,.v 10 (.int .i64 ((lim r.den).length:Nat))] ?_)))
 have hb21:((((lim r.den).length:Nat):Int) == (0:Int))=false:=(by simp;exact fun h=>Nat.lt_irrefl 0 (by rw[h] at hpd;exact hpd))
 have phb21:=neOfBeq hb21
 refine lB 11 hb21 ?_
 refine lN (cIF (CG.skipN (cSL (lL hs [.v 13 (.pointer (some ⟨b17,0,none⟩)),.v 14 (.pointer (some ⟨b17,1,none⟩)),.o 15 (.slice A7 ((lim (iabs q.num)).length) c8) 0 1 1,.v 16 (.pointer (some ⟨b4,0,none⟩)),.v 17 (.pointer (some ⟨b4,1,none⟩)),.o 18 (.slice A1 ((lim (iabs r.num)).length) c1) 1 1 1] (lC 19 hs (rNatCmp (iabs q.num) A7 c8 hc9 (iabs r.num) A1 c1 hc1 oM oM _ _ hs.g (hs.f.2.1) (hs.f.2.2.2.1)) ?_)))))
 rintro _ w22 h23 hs rfl
 cases hb24:((cmpN (iabs q.num) (iabs r.num):Int) == (0:Int))
 ·
  have phb24:=neOfBeq hb24
  refine lB 20 hb24 ?_
  refine lL hs [.m 21 20] (lG 22 ?_)
  refine lG 23 ?_
  refine lG 24 ?_
  refine lG 25 ?_
  refine lG 26 ?_
  refine lG 27 ?_
  refine lG 28 ?_
  refine lL hs [.v 29 (.bool false),.m 30 29] (lG 31 ?_)
  refine lG 32 ?_
  refine lG 33 ?_
  refine lG 34 ?_
  refine lG 35 ?_
  refine lG 36 ?_
  exact lL hs [.v 37 (.bool false),.m 4 37] (lN (CG.ret (hs.ret [] (.bool false) (congrArg Value.bool (sameQ_f (by first|(left;assumption)|(right;right;assumption)|(right;left;exact beq_eq_false_iff_ne.1 ‹_›)))))))
 have phb24:=eq_of_beq hb24
 refine lB 20 hb24 ?_
 refine lL hs [.m 21 20,.v 22 (.pointer (some ⟨b17,0,none⟩)),.v 23 (.pointer (some ⟨b17,0,none⟩)),.o 24 (.bool (ineg q.num)) 0 0 1,.v 25 (.pointer (some ⟨b4,0,none⟩)),.v 26 (.pointer (some ⟨b4,0,none⟩)),.o 27 (.bool (ineg r.num)) 1 0 1] ?_
 cases hb25:((ineg q.num) == (ineg r.num))
 ·
  refine lB 28 hb25 ?_
  refine lL hs [.v 29 (.bool false),.m 30 29] (lG 31 ?_)
  refine lG 32 ?_
  refine lG 33 ?_
  refine lG 34 ?_
  refine lG 35 ?_
  refine lG 36 ?_
  exact lL hs [.v 37 (.bool false),.m 4 37] (lN (CG.ret (hs.ret [] (.bool false) (congrArg Value.bool (sameQ_f (by first|(left;assumption)|(right;right;assumption)|(right;left;exact beq_eq_false_iff_ne.1 ‹_›)))))))
 refine lB 28 hb25 ?_
 refine lL hs [.v 29 (.bool true),.m 30 29,.v 31 (.pointer (some ⟨b17,2,none⟩)),.o 32 (.slice A11 ((lim q.den).length) c12) 0 2 1,.v 33 (.pointer (some ⟨b4,2,none⟩)),.o 34 (.slice D1 ((lim r.den).length) d1) 1 2 1] (lC 35 hs (rNatCmp q.den A11 c12 hc13 r.den D1 d1 hd1 oM oM _ _ hs.g (hs.f.1) (hs.f.2.2.1)) ?_)
 rintro _ w26 h27 hs rfl
 cases hb28:((cmpN q.den r.den:Int) == (0:Int))
 ·
  have phb28:=neOfBeq hb28
  refine lB 36 hb28 ?_
  exact lL hs [.v 37 (.bool false),.m 4 37] (lN (CG.ret (hs.ret [] (.bool false) (congrArg Value.bool (sameQ_f (by first|(left;assumption)|(right;right;assumption)|(right;left;exact beq_eq_false_iff_ne.1 ‹_›)))))))
 have phb28:=eq_of_beq hb28
 refine lB 36 hb28 ?_
 exact lL hs [.v 37 (.bool true),.m 4 37] (lN (CG.ret (hs.ret [] (.bool true) (congrArg Value.bool (sameQ_t aM (eq_of_beq ‹_›) aM)))))
theorem LQ.mkR {n d:Int}(hd:d≠0)(h0 : -9223372036854775808≤n)(h1:n≤9223372036854775807)(h2 : -9223372036854775808≤d)(h3:d≤9223372036854775807):LQ 1 (mkR n d):=by
  unfold Go.Proofs.YticblaklfnadoaaGreatDoor.mkR
  have hp:0<iabs d:=by unfold iabs;omega
  obtain ⟨p1,p2,p3,p4⟩:=mkRat_parts (if d<0 then -n else n) (iabs d) hp
  refine ⟨?_,?_⟩
  · rw[p1];refine wds_len_lit.2 (Nat.lt_of_le_of_lt (iabs_div_le _ _ p3) ?_)
    unfold iabs;split<;>omega
  · rw[p2];exact wds_len_lit.2 (Nat.lt_of_le_of_lt (Nat.div_le_self _ _) (by unfold iabs;omega))
theorem hIs (q:Rat)(z e:Int)(hq:LQ 100000000 q)(he:e≠0)(hz0 : -9223372036854775808≤z)(hz1:z<9223372036854775808)(he0 : -9223372036854775808≤e)(he1:e<9223372036854775808)(w:World)(h:Hp)(g:G w h) :
    Calls Tryz.prog 29 #[qv q,.int .i64 z,.int .i64 e] w (Ret w h fun v _=>v=.bool (sameQ q (mkR z e))):=by
 have hs:=SS.start g
 have hb:LQ 100000000 (mkR z e):=(LQ.mkR he hz0 oM he0 oM).mono oM
 refine go Tryz.func29 [(0,qv q),(1,.int .i64 z),(2,.int .i64 e)] rfl ?_
 refine cSL (lA 3 73 (qc q) hs (fun b1 w2 h3 hs=>?_))
 refine lL hs [.v 6 (.bool false)] (lN (CG.seq (cR 5 [] mixed hs al_nil ?_)))
 refine eO 0 7 [(0,0,5)] (qv q) hs ?_
 refine eV 1 8 (.int .i64 z) ?_
 refine eV 2 9 (.int .i64 e) ?_
 refine eC 3 10 hs (fun _ _ hs=>rOver z e oM oM oM oM oM _ _ hs.g) ?_
 rintro _ _ _ w12 h13 hs ⟨A4,c5,A8,c9,rfl,hc6,hc10,hA7,hA11⟩
 replace hs:=((hs.a_SlO hA7).a_SlO hA11)
 refine eC 4 11 hs (fun _ _ hs=>hSame q (mkR z e) hq hb A4 c5 A8 c9 hc6 hc10 _ _ hs.g (hs.f.2.1) (hs.f.1)) ?_
 rintro _ _ _ w14 h15 hs rfl
 refine eD0 hs (fun w16 h17 hs=>?_)
 refine tV 5 6 (.bool (sameQ q (mkR z e))) ?_
 exact tN (CG.ret (hs.ret [] (.bool (sameQ q (mkR z e))) rfl))
def pick (n:Int)(m:Nat):Nat:=(n%(m:Int)).toNat
def smallq (n:Int):Rat:=mkR ((pick n 9:Int)-4) (((pick (n.tdiv 9) 2:Nat):Int)+1)
abbrev RT:=Bool × Value × Value
def rqc (t:RT):List Value:=[.bool t.1,t.2.1,t.2.2]
def rqd:RT:=(false,undef,undef)
def rtv (t:RT):Value:=.agg #[.bool t.1,t.2.1,t.2.2]
structure RTs (h:Hp) (ts:List RT) (qs:List Rat):Prop where
  len:ts.length=qs.length
  at_:∀ i,i<qs.length→RQ h (rtv (ts.getD i rqd)) (qs.getD i 0)
theorem getD_snoc {α:Type}(l:List α)(x d:α)(i:Nat):(l++[x]).getD i d=if i<l.length then l.getD i d else if i=l.length then x else d:=by
  split
  · rename_i h;simp[List.getElem?_append_left h]
  · rename_i h
    split
    · rename_i h2;subst h2;simp
    · rename_i h2;simp[List.getElem?_eq_none (show (l++[x]).length≤i by simp;omega)]
theorem take_snoc' {α:Type}{l:List α}{k:Nat}(d:α)(h:k<l.length):l.take (k+1)=l.take k++[l.getD k d]:=by
  rw[List.take_add_one];simp[h]
def vc (v:Value):List Value:=[v]
structure RVs (h:Hp) (vs:List Value) (qss:List (List Rat)):Prop where
  len:vs.length=qss.length
  at_:∀ i,i<qss.length→∃ A cap,∃ ts:List RT,vs.getD i undef=.slice A ts.length cap∧ts.length≤cap∧SlO 3 rqc rqd h A ts∧RTs h ts (qss.getD i [])
structure QVs (h:Hp) (vs:List Value) (qss:List (List Rat)):Prop where
  len:vs.length=qss.length
  at_:∀ i,i<qss.length→SlV 5 qc 0 h (vs.getD i undef) (qss.getD i [])
theorem QVs.gw {h h':Hp}{vs:List Value}{qss:List (List Rat)}(r:QVs h vs qss)(u:Gw h h'):QVs h' vs qss:=⟨r.len,fun i hi=>(r.at_ i hi).gw u⟩
theorem QVs.nil {h:Hp}:QVs h [] []:=⟨rfl,fun i hi=>by simp at hi⟩
theorem QVs.snoc {h:Hp}{vs:List Value}{qss:List (List Rat)}(r:QVs h vs qss){v:Value}{l:List Rat}(hv:SlV 5 qc 0 h v l):QVs h (vs++[v]) (qss++[l]):=by
  refine ⟨by simp[r.len],fun i hi=>?_⟩
  rw[getD_snoc,getD_snoc,r.len]
  split
  · rename_i h1;exact r.at_ i h1
  · rename_i h1
    have:i=qss.length:=by simp at hi;omega
    rw[if_pos this,if_pos this];exact hv
theorem eq_more {α:Type}{d:α}{a b:List α}{k:Nat}(h:∀ i,i<k→a.getD i d=b.getD i d)(h2:a.getD k d=b.getD k d):∀ i,i<k+1→a.getD i d=b.getD i d:=fun i hi=>by
  by_cases e:i=k
  · rw[e];exact h2
  · exact h i oM
theorem row_t {α:Type}[DecidableEq α]{d:α}{a b:List α}(hl:a.length=b.length)(h:∀ i,i<a.length→a.getD i d=b.getD i d):Value.bool true=.bool (decide (a=b)):=by
  rw[decide_eq_true]
  refine List.ext_getElem hl (fun i h1 h2=>?_)
  have:=h i h1
  simpa [h1,h2] using this
theorem row_f {α:Type}[DecidableEq α]{a b:List α}(hl:a.length≠b.length):Value.bool false=.bool (decide (a=b)):=by
  rw[decide_eq_false];intro e;exact hl (by rw[e])
theorem row_fq {α:Type}[DecidableEq α]{d:α}{a b:List α}(k:Nat)(h:a.getD k d≠b.getD k d):Value.bool false=.bool (decide (a=b)):=by
  rw[decide_eq_false];intro e;exact h (by rw[e])
theorem hSameInts (A:Option Addr)(ca:Nat)(xs ys:List Int)(D:Option Addr)(cd:Nat)(hl:xs.length≤1000000)(hlp:ys.length≤1000000)(w:World)(h:Hp)(g:G w h)(hA:SlO 1 i64c 0 h A xs)(hD:SlO 1 i64c 0 h D ys) :
    Calls Tryz.prog 30 #[.slice A xs.length ca,.slice D ys.length cd] w (Ret w h fun v _=>v=.bool (decide (xs=ys))):=by
 have hs:=SS.start g
 replace hs:=((hs.a_SlO hA).a_SlO hD)
 refine go Tryz.func30 [(0,.slice A xs.length ca),(1,.slice D ys.length cd)] rfl ?_
 refine cSL (lL hs [.v 4 (.bool false)] (lN (CG.seq (cSL (lL hs [.m 6 0,.v 7 (.int .i64 (xs.length:Nat)),.m 8 1,.v 9 (.int .i64 (ys.length:Nat))] ?_)))))
 cases hb1:(((xs.length:Nat):Int) != ((ys.length:Nat):Int))
 ·
  have phb1:=eqOfBne hb1
  refine lB 10 hb1 ?_
  refine lN (cIF (CG.skipN (CG.seq (cSL (lL hs [.v 5 (.int .i64 0)] (lN (CG.block (cTo [(0,.slice A xs.length ca),(1,.slice D ys.length cd),(5,.int .i64 0)] ?_))))))))
  refine CG.loop (fun μ_ Γ w_=>∃ (k:Nat) (h_:Hp),μ_=xs.length-k∧Γ=[(0,.slice A xs.length ca),(1,.slice D ys.length cd),(5,.int .i64 (k:Nat))]∧SS w h w_ h_ [] [] [fun h_=>SlO 1 i64c 0 h_ D ys,fun h_=>SlO 1 i64c 0 h_ A xs]∧(k≤xs.length)∧(xs.length=ys.length)∧(∀ i,i<k→xs.getD i 0=ys.getD i 0)) _ ⟨0,h,rfl,rfl,hs.to _ _,Nat.zero_le _,by omega,fun i hi=>absurd hi (Nat.not_lt_zero i)⟩ ?_
  rintro _ _ w2 ⟨k,h3,hm4,rfl,hs,hk,hlqp,hsm⟩
  refine CG.seq (cSL (lL hs [.m 11 5,.m 12 0,.v 13 (.int .i64 (xs.length:Nat))] ?_))
  cases hb5:(decide (((k:Nat):Int)<((xs.length:Nat):Int)))
  ·
   have phb5:=oF hb5
   refine lB 14 hb5 ?_
   refine lN (cIF (CG.exit ?_))
   show CG _ _ _ _ _ _ _ _
   exact cSL (lL hs [.v 4 (.bool true)] (lN (CG.ret (hs.ret [] (.bool true) (row_t hlqp (fun i hi=>hsm i oM))))))
  have phb5:=oT hb5
  refine lB 14 hb5 ?_
  refine lN (cIT (CG.skipN (CG.seq (CG.block (CG.seq (cR 9 [] mixed hs al_nil ?_))))))
  refine eV 0 17 (.slice A xs.length ca) ?_
  refine eV 1 18 (.int .i64 (k:Nat)) ?_
  refine eX 2 19 A xs.length ca 1 (k:Nat) k ((hs.f.2.1).ok oM) ?_
  refine eH 3 20 (.int .i64 (xs.getD k 0)) hs ((hs.f.2.1).el k oM) ?_
  refine eV 4 21 (.slice D ys.length cd) ?_
  refine eV 5 22 (.int .i64 (k:Nat)) ?_
  refine eX 6 23 D ys.length cd 1 (k:Nat) k ((hs.f.1).ok oM) ?_
  refine eH 7 24 (.int .i64 (ys.getD k 0)) hs ((hs.f.1).el k oM) ?_
  cases hb6:((xs.getD k 0:Int) != (ys.getD k 0:Int))
  ·
   have phb6:=eqOfBne hb6
   refine eB 8 25 hb6 ?_
   refine eD0 hs (fun w7 h8 hs=>?_)
   refine tN (cIF (CG.skipN (CG.listed (lL hs [.m 15 5] (lIn 16 ((k:Nat)+1) (k+1) ?_)))))
   refine lL hs [.m 5 16] (lD ?_)
   intro a_ ka
   have q9:(k+1)≤xs.length:=by omega
   have q10:xs.length=ys.length:=hlqp
   have q11:∀ i,i<(k+1)→xs.getD i 0=ys.getD i 0:=(eq_more hsm oM)
   refine ⟨_,_,?_,⟨k+1,h8,rfl,rfl,hs.to _ _,q9,q10,q11⟩,ka.to [(0,.slice A xs.length ca),(1,.slice D ys.length cd),(5,.int .i64 ((k+1):Nat))] kR⟩
   omega
  have phb6:=neOfBne hb6
  refine eB 8 25 hb6 ?_
  refine eD0 hs (fun w12 h13 hs=>?_)
  exact tN (cIT (cSL (lL hs [.v 4 (.bool false)] (lN (CG.ret (hs.ret [] (.bool false) (row_fq k oM)))))))
 have phb1:=neOfBne hb1
 refine lB 10 hb1 ?_
 exact lN (cIT (cSL (lL hs [.v 4 (.bool false)] (lN (CG.ret (hs.ret [] (.bool false) (row_f oM)))))))
def maxR (a b:Rat):Rat:=if a<b then b else a
theorem LQ.maxR {k:Nat}{a b:Rat}(ha:LQ k a)(hb:LQ k b):LQ k (maxR a b):=by unfold Go.Proofs.YticblaklfnadoaaGreatDoor.maxR;split;exact hb;exact ha
theorem fAbs (a:Rat)(ha:LQ 100000000 a)(w:World)(h:Hp)(g:G w h) :
    Calls Tryz.prog 160 #[qv a] w (Ret w h fun v _=>v=qv (qabs a)):=by
 have hs:=SS.start g
 refine go Tryz.func160 [(0,qv a)] rfl ?_
 refine cSL (lA 1 73 (qc a) hs (fun b1 w2 h3 hs=>?_))
 refine lA 2 73 ([.bool false,.int .u64 0,.string ⟨#[]⟩,.int .u64 0,.string ⟨#[]⟩]) hs (fun b4 w5 h6 hs=>?_)
 refine lN (CG.seq (cR 7 [] mixed hs al_nil ?_))
 refine eV 0 3 (.pointer (some ⟨b1,0,none⟩)) ?_
 refine eO 1 4 [(1,0,3)] (iv a.num) hs ?_
 refine eV 4 7 (.pointer (some ⟨b1,3,none⟩)) ?_
 refine eO 5 8 [(1,3,2)] (nv (qd a)) hs ?_
 refine eC 2 5 hs (fun _ _ hs=>wAbs a.num _ _ hs.g) ?_
 rintro _ _ _ w7 h8 hs rfl
 refine eC 3 6 hs (fun _ _ hs=>wFromN (iabs a.num) _ _ hs.g) ?_
 rintro _ _ _ w9 h10 hs rfl
 refine eV 6 9 (.agg #[.bool (ineg (((iabs a.num):Nat):Int)),.int .u64 (lo (iabs (((iabs a.num):Nat):Int))),.string (hi (iabs (((iabs a.num):Nat):Int))),.int .u64 (lo (qd a)),.string (hi (qd a))]) ?_
 refine eD0 hs (fun w11 h12 hs=>?_)
 refine tP 7 0 0 ([.bool (ineg (((iabs a.num):Nat):Int)),.int .u64 (lo (iabs (((iabs a.num):Nat):Int))),.string (hi (iabs (((iabs a.num):Nat):Int))),.int .u64 (lo (qd a)),.string (hi (qd a))]) hs (fun w13 hs=>?_)
 exact tN (CG.ret (hs.ret [(0,0,5)] (.agg #[.bool (ineg (((iabs a.num):Nat):Int)),.int .u64 (lo (iabs (((iabs a.num):Nat):Int))),.string (hi (iabs (((iabs a.num):Nat):Int))),.int .u64 (lo (qd a)),.string (hi (qd a))]) (qv_lit (qabs_num a) (by unfold qd;rw[qabs_den]))))
theorem fDot (A:Option Addr)(ca:Nat)(a:List Rat)(D:Option Addr)(cd:Nat)(b:List Rat)(K L:Nat)(hl:a.length=b.length)(hn:a.length≤1000000)(hb:a.length*(K+L+1)+K+L+2≤100000000)(ha:∀ i,i<a.length→LQ K (a.getD i 0))(hbb:∀ i,i<a.length→LQ L (b.getD i 0))(w:World)(h:Hp)(g:G w h)(hA:SlO 5 qc 0 h A a)(hD:SlO 5 qc 0 h D b)(tb:Tab h) :
    Calls Tryz.prog 127 #[.slice A a.length ca,.slice D b.length cd] w (Ret w h fun v _=>v=.tuple #[qv (dotq a b a.length),.bool true]):=by
 have hs:=SS.start g
 replace hs:=(((hs.a_SlO hA).a_SlO hD).add (K:=fun h_=>Tab h_) tb)
 refine go Tryz.func127 [(0,.slice A a.length ca),(1,.slice D b.length cd)] rfl ?_
 refine cSL (lA 4 73 ([.bool false,.int .u64 0,.string ⟨#[]⟩,.int .u64 0,.string ⟨#[]⟩]) hs (fun b1 w2 h3 hs=>?_))
 refine lL hs [.v 5 (.bool false)] (lN (CG.seq (cSL (lL hs [.m 9 0,.v 10 (.int .i64 (a.length:Nat)),.m 11 1,.v 12 (.int .i64 (b.length:Nat))] ?_))))
 have hb4:(((a.length:Nat):Int) != ((b.length:Nat):Int))=false:=bneF oM
 have phb4:=eqOfBne hb4
 refine lB 13 hb4 ?_
 refine lN (cIF (CG.skipN (cSL (lA 6 73 ([.bool false,.int .u64 0,.string ⟨#[]⟩,.int .u64 0,.string ⟨#[]⟩]) hs (fun b5 w6 h7 hs=>?_)))))
 refine lN (CG.seq (cSL (lL hs [.m 15 0,.v 16 (.int .i64 (a.length:Nat)),.v 17 (.int .i64 0)] (lN (CG.block (cTo [(1,.slice D b.length cd),(4,.pointer (some ⟨b1,0,none⟩)),(5,.bool false),(6,.pointer (some ⟨b5,0,none⟩)),(15,.slice A a.length ca),(16,.int .i64 (a.length:Nat)),(17,.int .i64 0)] ?_))))))
 refine CG.loop (fun μ_ Γ w_=>∃ (k:Nat) (h_:Hp),μ_=a.length-k∧Γ=[(1,.slice D b.length cd),(4,.pointer (some ⟨b1,0,none⟩)),(5,.bool false),(6,.pointer (some ⟨b5,0,none⟩)),(15,.slice A a.length ca),(16,.int .i64 (a.length:Nat)),(17,.int .i64 (k:Nat))]∧SS w h w_ h_ [⟨b5,73,qc (dotq a b k)⟩,⟨b1,73,[.bool false,.int .u64 0,.string ⟨#[]⟩,.int .u64 0,.string ⟨#[]⟩]⟩] [] [fun h_=>Tab h_,fun h_=>SlO 5 qc 0 h_ D b,fun h_=>SlO 5 qc 0 h_ A a]∧(k≤a.length)) _ ⟨0,h7,rfl,rfl,hs.to _ _,Nat.zero_le _⟩ ?_
 rintro _ _ w8 ⟨k,h9,hm10,rfl,hs,hk⟩
 have hmk:k*(K+L+1)≤a.length*(K+L+1):=Nat.mul_le_mul_right _ hk
 have hdk:LQ (100000000-K-L-1) (dotq a b k):=(LQ.dot ha hbb k hk).mono oM
 refine cSL ?_
 cases hb11:(decide (((k:Nat):Int)<((a.length:Nat):Int)))
 ·
  have phb11:=oF hb11
  refine lB 18 hb11 ?_
  refine lN (CG.seq (cIF (CG.exit ?_)))
  show CG _ _ _ _ _ _ _ _
  refine cSL (lL hs [.o 31 (qv (dotq a b k)) 0 0 5] (lP 1 0 (qc (dotq a b k)) hs (fun w12 hs=>?_)))
  exact lL hs [.v 5 (.bool true)] (lN (CG.ret (hs.ret [(1,0,5)] (.tuple #[qv (dotq a b k),.bool true]) (by rw[show a.length=k by omega]))))
 have phb11:=oT hb11
 refine lB 18 hb11 ?_
 refine lN (CG.seq (cIT (CG.skipN (CG.seq (CG.block (cSL (lL hs [.m 19 17] (lX 20 A a.length ca 5 (k:Nat) k ((hs.f.2.2.1).ok oM) ?_))))))))
 refine lH 21 (qv (a.getD k 0)) hs ((hs.f.2.2.1).el k oM) ?_
 refine lA 8 73 ([.bool false,.int .u64 0,.string ⟨#[]⟩,.int .u64 0,.string ⟨#[]⟩]) hs (fun b13 w14 h15 hs=>?_)
 refine lL hs [.m 7 19] (lP 0 0 (qc (a.getD k 0)) hs (fun w16 hs=>?_))
 refine lN (cR 8 [] mixed hs al_nil ?_)
 refine eO 0 22 [(1,0,5)] (qv (dotq a b k)) hs ?_
 refine eO 1 23 [(0,0,5)] (qv (a.getD k 0)) hs ?_
 refine eV 2 24 (.slice D b.length cd) ?_
 refine eV 3 25 (.int .i64 (k:Nat)) ?_
 refine eX 4 26 D b.length cd 5 (k:Nat) k ((hs.f.2.1).ok oM) ?_
 refine eH 5 27 (qv (b.getD k 0)) hs ((hs.f.2.1).el k oM) ?_
 have hq17:=LQ.mul (ha k oM) (hbb k oM)
 refine eC 6 28 hs (fun _ _ hs=>fMul (a.getD k 0) (b.getD k 0) (LQ.mono (ha k oM) oM) (LQ.mono (hbb k oM) oM) _ _ hs.g (hs.f.1)) ?_
 rintro _ _ _ w18 h19 hs rfl
 have hq20:=LQ.add hdk hq17
 refine eC 7 29 hs (fun _ _ hs=>fAdd (dotq a b k) ((a.getD k 0)*(b.getD k 0)) (LQ.mono hdk oM) (LQ.mono hq17 oM) _ _ hs.g (hs.f.1)) ?_
 rintro _ _ _ w21 h22 hs rfl
 refine eD0 hs (fun w23 h24 hs=>?_)
 refine tP 8 1 0 (qc ((dotq a b k)+((a.getD k 0)*(b.getD k 0)))) hs (fun w25 hs=>?_)
 refine tN (CG.listed (lIn 30 ((k:Nat)+1) (k+1) ?_))
 refine lL hs [.m 17 30] (lD ?_)
 intro a_ ka
 have q26:(k+1)≤a.length:=by omega
 replace hs:=hs.drop 1 0
 refine ⟨_,_,?_,⟨k+1,h24,rfl,rfl,hs.to _ _,q26⟩,ka.to [(1,.slice D b.length cd),(4,.pointer (some ⟨b1,0,none⟩)),(5,.bool false),(6,.pointer (some ⟨b5,0,none⟩)),(15,.slice A a.length ca),(16,.int .i64 (a.length:Nat)),(17,.int .i64 ((k+1):Nat))] kR⟩
 omega
structure Lay where
  k:Int
  W:List (List Rat)
  B:List Rat
def lay0:Lay:=⟨0,[],[]⟩
abbrev LV:=Int × Value × Value
def lvc (t:LV):List Value:=[.int .i64 t.1,t.2.1,t.2.2]
def lvd:LV:=(0,undef,undef)
structure NetL (h:Hp) (ts:List LV) (ls:List Lay):Prop where
  len:ts.length=ls.length
  at_:∀ i,i<ls.length→(ts.getD i lvd).1=(ls.getD i lay0).k∧(∃ A c,∃ us:List Value,(ts.getD i lvd).2.1=.slice A us.length c∧us.length≤c∧SlO 1 vc undef h A us∧QVs h us (ls.getD i lay0).W)∧SlV 5 qc 0 h (ts.getD i lvd).2.2 (ls.getD i lay0).B
theorem NetL.gw {h h':Hp}{ts:List LV}{ls:List Lay}(r:NetL h ts ls)(u:Gw h h'):NetL h' ts ls:=⟨r.len,fun i hi=>by
  obtain ⟨h1,⟨A,c,us,h2,h3,h4,h5⟩,h6⟩:=r.at_ i hi
  exact ⟨h1,⟨A,c,us,h2,h3,h4.gw u,h5.gw u⟩,h6.gw u⟩⟩
structure RNetL (h:Hp) (ts:List LV) (ls:List Lay):Prop where
  len:ts.length=ls.length
  at_:∀ i,i<ls.length→(ts.getD i lvd).1=(ls.getD i lay0).k∧(∃ A c,∃ us:List Value,(ts.getD i lvd).2.1=.slice A us.length c∧us.length≤c∧SlO 1 vc undef h A us∧RVs h us (ls.getD i lay0).W) ∧
    (∃ A c,∃ rs:List RT,(ts.getD i lvd).2.2=.slice A rs.length c∧rs.length≤c∧SlO 3 rqc rqd h A rs∧RTs h rs (ls.getD i lay0).B)
theorem NetL.nil {h:Hp}:NetL h [] []:=⟨rfl,fun i hi=>by simp at hi⟩
theorem NetL.snoc {h:Hp}{ts:List LV}{ls:List Lay}(r:NetL h ts ls){t:LV}{L:Lay}(hx:t.1=L.k∧(∃ A c,∃ us:List Value,t.2.1=.slice A us.length c∧us.length≤c∧SlO 1 vc undef h A us∧QVs h us L.W)∧SlV 5 qc 0 h t.2.2 L.B):NetL h (ts++[t]) (ls++[L]):=by
  refine ⟨by simp[r.len],fun i hi=>?_⟩
  rw[getD_snoc,getD_snoc,r.len]
  split
  · rename_i h1;exact r.at_ i h1
  · rename_i h1
    have:i=ls.length:=by simp at hi;omega
    rw[if_pos this,if_pos this];exact hx
def natc (n:Nat):List Value:=[.int .i64 (n:Int)]
def Smalls (l:List Rat):Prop:=∀ q∈l,∃ z,q=smallq z
structure LayMk (L:Lay) (kq:Nat) (r c:Nat):Prop where
  k:L.k=(kq:Int)
  rows:L.W.length=r
  row:∀ q∈L.W,q.length=c∧Smalls q
  bl:L.B.length=r
  bs:Smalls L.B
structure LayFit (L:Lay):Prop where
  rl:L.W.length≤1000000
  rls:∀ i,i<L.W.length→(L.W.getD i []).length≤1000000
  rf:∀ i,i<L.W.length→∀ j,j<(L.W.getD i []).length→LQ 100000000 ((L.W.getD i []).getD j 0)
  bl:L.B.length≤1000000
  bf:∀ i,i<L.B.length→LQ 100000000 (L.B.getD i 0)
def RightP (W:List (List Rat)):Prop:=0<W.length∧0<(W.getD 0 []).length∧∀ i,i<W.length→(W.getD i []).length=(W.getD 0 []).length
noncomputable def rightq (W:List (List Rat)):Bool:=@decide (RightP W) (Classical.propDecidable _)
theorem right_step {W:List (List Rat)}{k:Nat}(hR:∀ i,i<k→(W.getD i []).length=(W.getD 0 []).length)(h:(W.getD k []).length=(W.getD 0 []).length):∀ i,i<k+1→(W.getD i []).length=(W.getD 0 []).length:=fun i hi=>by
  by_cases e:i=k
  · rw[e];exact h
  · exact hR i oM
theorem rq_t {W:List (List Rat)}(h:RightP W):Value.bool true=.bool (rightq W):=by unfold rightq;rw[@decide_eq_true _ (Classical.propDecidable _) h]
theorem rq_f {W:List (List Rat)}(h:¬RightP W):Value.bool false=.bool (rightq W):=by unfold rightq;rw[@decide_eq_false _ (Classical.propDecidable _) h]
theorem rq_is {W:List (List Rat)}(h:rightq W=true):RightP W:=by unfold rightq at h;exact @oT _ (Classical.propDecidable _) h
theorem rq_not {W:List (List Rat)}(h:rightq W=false):¬RightP W:=by unfold rightq at h;exact @oF _ (Classical.propDecidable _) h
theorem mRightG (A:Option Addr)(cap:Nat)(us:List Value)(W:List (List Rat))(hl:W.length≤1000000)(hls:∀ i,i<W.length→(W.getD i []).length≤1000000)(w:World)(h:Hp)(g:G w h)(hA:SlO 1 vc undef h A us)(hU:QVs h us W) :
    Calls Tryz.prog 126 #[.slice A us.length cap] w (Ret w h fun v _=>v=.bool (rightq W)):=by
 have hs:=SS.start g
 replace hs:=((hs.a_SlO hA).add (K:=fun h_=>QVs h_ us W) hU)
 have hlu:=(hs.f.1).len
 refine go Tryz.func126 [(0,.slice A us.length cap)] rfl ?_
 refine cSL (lL hs [.v 2 (.bool false)] (lN (CG.seq (cSL (lL hs [.m 5 0,.v 6 (.int .i64 (us.length:Nat))] ?_)))))
 cases hb1:(((us.length:Nat):Int) == (0:Int))
 ·
  have phb1:=neOfBeq hb1
  refine lB 7 hb1 ?_
  refine lL hs [.m 8 7,.m 9 0] (lX 10 A us.length cap 1 0 0 ((hs.f.2.1).ok oM) ?_)
  obtain ⟨Aqz,cqz,eqz,hcqz,hRqz⟩:=(hs.f.1).at_ 0 oM
  replace hs:=(hs.a_SlO hRqz)
  refine lHe 11 (us.getD 0 undef) hs ((hs.f.2.2.1).el 0 oM) eqz ?_
  refine lL hs [.v 12 (.int .i64 ((W.getD 0 []).length:Nat))] ?_
  cases hb2:((((W.getD 0 []).length:Nat):Int) == (0:Int))
  ·
   have phb2:=neOfBeq hb2
   refine lB 13 hb2 ?_
   refine lL hs [.v 14 (.bool false)] (lN (cIF (CG.skipN (CG.seq (cSL (lL hs [.m 15 0,.v 16 (.int .i64 (us.length:Nat)),.v 17 (.int .i64 0)] (lN (CG.block (cTo [(0,.slice A us.length cap),(15,.slice A us.length cap),(16,.int .i64 (us.length:Nat)),(17,.int .i64 0)] ?_)))))))))
   refine CG.loop (fun μ_ Γ w_=>∃ (k:Nat) (h_:Hp),μ_=us.length-k∧Γ=[(0,.slice A us.length cap),(15,.slice A us.length cap),(16,.int .i64 (us.length:Nat)),(17,.int .i64 (k:Nat))]∧SS w h w_ h_ [] [] [fun h_=>SlO 5 qc 0 h_ Aqz (W.getD 0 []),fun h_=>QVs h_ us W,fun h_=>SlO 1 vc undef h_ A us]∧(k≤us.length)∧(∀ i,i<k→(W.getD i []).length=(W.getD 0 []).length)) _ ⟨0,h,rfl,rfl,hs.to _ _,Nat.zero_le _,fun i hi=>absurd hi (Nat.not_lt_zero i)⟩ ?_
   rintro _ _ w3 ⟨k,h4,hm5,rfl,hs,hk,hR⟩
   refine cSL ?_
   cases hb6:(decide (((k:Nat):Int)<((us.length:Nat):Int)))
   ·
    have phb6:=oF hb6
    refine lB 18 hb6 ?_
    refine lN (CG.seq (cIF (CG.exit ?_)))
    show CG _ _ _ _ _ _ _ _
    exact cSL (lL hs [.v 2 (.bool true)] (lN (CG.ret (hs.ret [] (.bool true) (rq_t ⟨by omega,by omega,fun i hi=>hR i oM⟩)))))
   have phb6:=oT hb6
   refine lB 18 hb6 ?_
   refine lN (CG.seq (cIT (CG.skipN (CG.seq (CG.block (cSL (lX 19 A us.length cap 1 (k:Nat) k ((hs.f.2.2.1).ok oM) ?_)))))))
   obtain ⟨Aqx,cqx,eqx,hcqx,hRqx⟩:=(hs.f.2.1).at_ k oM
   replace hs:=(hs.a_SlO hRqx)
   refine lHe 20 (us.getD k undef) hs ((hs.f.2.2.2.1).el k oM) eqx ?_
   refine lL hs [.m 4 20] (lNS (lL hs [.m 21 4,.v 22 (.int .i64 ((W.getD k []).length:Nat)),.m 23 0] (lX 24 A us.length cap 1 0 0 ((hs.f.2.2.2.1).ok oM) ?_)))
   obtain ⟨Aqy,cqy,eqy,hcqy,hRqy⟩:=(hs.f.2.2.1).at_ 0 oM
   replace hs:=(hs.a_SlO hRqy)
   refine lHe 25 (us.getD 0 undef) hs ((hs.f.2.2.2.2.1).el 0 oM) eqy ?_
   refine lL hs [.v 26 (.int .i64 ((W.getD 0 []).length:Nat))] ?_
   cases hb7:((((W.getD k []).length:Nat):Int) != (((W.getD 0 []).length:Nat):Int))
   ·
    have phb7:=eqOfBne hb7
    refine lB 27 hb7 ?_
    refine lN (cIF (CG.skipN (CG.listed (lIn 28 ((k:Nat)+1) (k+1) ?_))))
    refine lL hs [.m 17 28] (lD ?_)
    intro a_ ka
    have q8:(k+1)≤us.length:=by omega
    have q9:∀ i,i<(k+1)→(W.getD i []).length=(W.getD 0 []).length:=right_step hR oM
    replace hs:=hs.tl.tl
    refine ⟨_,_,?_,⟨k+1,h4,rfl,rfl,hs.to _ _,q8,q9⟩,ka.to [(0,.slice A us.length cap),(15,.slice A us.length cap),(16,.int .i64 (us.length:Nat)),(17,.int .i64 ((k+1):Nat))] kR⟩
    omega
   have phb7:=neOfBne hb7
   refine lB 27 hb7 ?_
   exact lN (cIT (cSL (lL hs [.v 2 (.bool false)] (lN (CG.ret (hs.ret [] (.bool false) (rq_f (fun h_=>by have h1_:=h_.1;have h2_:=h_.2.1;have h3_:=h_.2.2 k oM;omega))))))))
  have phb2:=eq_of_beq hb2
  refine lB 13 hb2 ?_
  exact lL hs [.v 14 (.bool true)] (lN (cIT (cSL (lL hs [.v 2 (.bool false)] (lN (CG.ret (hs.ret [] (.bool false) (rq_f (fun h_=>by have h1_:=h_.1;have h2_:=h_.2.1;omega)))))))))
 have phb1:=eq_of_beq hb1
 refine lB 7 hb1 ?_
 refine lL hs [.m 8 7] (lG 9 ?_)
 refine lG 10 ?_
 refine lG 11 ?_
 refine lG 12 ?_
 refine lG 13 ?_
 exact lL hs [.v 14 (.bool true)] (lN (cIT (cSL (lL hs [.v 2 (.bool false)] (lN (CG.ret (hs.ret [] (.bool false) (rq_f (fun h_=>by have h1_:=h_.1;have h2_:=h_.2.1;omega)))))))))
theorem nKnownG (k:Int)(w:World)(h:Hp)(g:G w h) :
    Calls Tryz.prog 47 #[.int .i64 k] w (Ret w h fun v _=>v=.bool (decide (1≤k∧k≤3))):=by
 have hs:=SS.start g
 refine go Tryz.func47 [(0,.int .i64 k)] rfl ?_
 refine cSL (lL hs [.v 2 (.bool false)] (lNS (lL hs [.m 3 0] ?_)))
 cases hb1:((k:Int) == (1:Int))
 ·
  have phb1:=neOfBeq hb1
  refine lB 4 hb1 ?_
  refine lL hs [.m 5 4,.m 6 0] ?_
  cases hb2:((k:Int) == (2:Int))
  ·
   have phb2:=neOfBeq hb2
   refine lB 7 hb2 ?_
   refine lL hs [.v 8 (.bool false),.m 9 8,.m 10 0] ?_
   cases hb3:((k:Int) == (3:Int))
   ·
    have phb3:=neOfBeq hb3
    refine lB 11 hb3 ?_
    exact lL hs [.v 12 (.bool false),.m 2 12] (lN (CG.ret (hs.ret [] (.bool false) (congrArg Value.bool (decide_eq_false oM).symm))))
   have phb3:=eq_of_beq hb3
   refine lB 11 hb3 ?_
   exact lL hs [.v 12 (.bool true),.m 2 12] (lN (CG.ret (hs.ret [] (.bool true) (congrArg Value.bool (decide_eq_true oM).symm))))
  have phb2:=eq_of_beq hb2
  refine lB 7 hb2 ?_
  refine lL hs [.v 8 (.bool true),.m 9 8] (lG 10 ?_)
  refine lG 11 ?_
  exact lL hs [.v 12 (.bool true),.m 2 12] (lN (CG.ret (hs.ret [] (.bool true) (congrArg Value.bool (decide_eq_true oM).symm))))
 have phb1:=eq_of_beq hb1
 refine lB 4 hb1 ?_
 refine lL hs [.m 5 4] (lG 6 ?_)
 refine lG 7 ?_
 refine lL hs [.v 8 (.bool true),.m 9 8] (lG 10 ?_)
 refine lG 11 ?_
 exact lL hs [.v 12 (.bool true),.m 2 12] (lN (CG.ret (hs.ret [] (.bool true) (congrArg Value.bool (decide_eq_true oM).symm))))
def Fine (ls:List Lay)(k:Nat):Prop:=RightP (ls.getD k lay0).W∧(ls.getD k lay0).W.length≤12∧(ls.getD k lay0).B.length=(ls.getD k lay0).W.length∧(k=0→((ls.getD k lay0).W.getD 0 []).length≤20)∧(0<k→((ls.getD k lay0).W.getD 0 []).length=(ls.getD (k-1) lay0).W.length)
def Kd (ls:List Lay)(k:Nat):Prop:=1≤(ls.getD k lay0).k∧(ls.getD k lay0).k≤3
open Classical in
noncomputable def chkFrom (ls:List Lay) (k:Nat):Nat→Int
  | 0=>0
  | n+1=>if Fine ls k then (if Kd ls k then chkFrom ls (k+1) n else 10) else 5
noncomputable def chkq (ls:List Lay):Int:=if 1≤ls.length∧ls.length≤4 then chkFrom ls 0 ls.length else 5
theorem chk_len {ls:List Lay}(h:¬(1≤ls.length∧ls.length≤4)):Value.int .i64 5=.int .i64 (chkq ls):=by unfold chkq;rw[if_neg h]
theorem chk_start {ls:List Lay}(h:1≤ls.length∧ls.length≤4):chkq ls=chkFrom ls 0 (ls.length-0):=by unfold chkq;rw[if_pos h];rfl
theorem chk_sub {ls:List Lay}{k:Nat}(h:k<ls.length):ls.length-k=(ls.length-(k+1))+1:=by omega
theorem chk_end {ls:List Lay}{k:Nat}(h:chkq ls=chkFrom ls k (ls.length-k))(hk:ls.length≤k):Value.int .i64 0=.int .i64 (chkq ls):=by rw[h,Nat.sub_eq_zero_of_le hk];rfl
theorem chk_bad {ls:List Lay}{k:Nat}(h:chkq ls=chkFrom ls k (ls.length-k))(hk:k<ls.length)(hf:¬Fine ls k):Value.int .i64 5=.int .i64 (chkq ls):=by rw[h,chk_sub hk,chkFrom,if_neg hf]
theorem chk_kind {ls:List Lay}{k:Nat}(h:chkq ls=chkFrom ls k (ls.length-k))(hk:k<ls.length)(hf:Fine ls k)(hd:¬Kd ls k):Value.int .i64 10=.int .i64 (chkq ls):=by rw[h,chk_sub hk,chkFrom,if_pos hf,if_neg hd]
theorem chk_step {ls:List Lay}{k:Nat}(h:chkq ls=chkFrom ls k (ls.length-k))(hk:k<ls.length)(hf:Fine ls k)(hd:Kd ls k):chkq ls=chkFrom ls (k+1) (ls.length-(k+1)):=by rw[h,chk_sub hk,chkFrom,if_pos hf,if_pos hd]
structure LayLen (L:Lay):Prop where
  rl:L.W.length≤1000000
  rls:∀ i,i<L.W.length→(L.W.getD i []).length≤1000000
  bl:L.B.length≤1000000
theorem nCheckG (A:Option Addr)(cap:Nat)(ts:List LV)(ls:List Lay)(hn:ls.length≤1000000)(hF:∀ i,i<ls.length→LayLen (ls.getD i lay0))(w:World)(h:Hp)(g:G w h)(hA:SlO 3 lvc lvd h A ts)(hN:NetL h ts ls) :
    Calls Tryz.prog 78 #[.agg #[.slice A ts.length cap]] w (Ret w h fun v _=>v=.int .i64 (chkq ls)):=by
 have hs:=SS.start g
 replace hs:=((hs.a_SlO hA).add (K:=fun h_=>NetL h_ ts ls) hN)
 have hl:=(hs.f.1).len
 refine go Tryz.func78 [(0,.agg #[.slice A ts.length cap])] rfl ?_
 refine cSL (lA 1 28 ([.slice A ts.length cap]) hs (fun b1 w2 h3 hs=>?_))
 refine lL hs [.v 2 (.int .i64 0)] (lN (CG.seq (cSL (lL hs [.v 5 (.pointer (some ⟨b1,0,none⟩)),.o 6 (.slice A ts.length cap) 0 0 1,.v 7 (.int .i64 (ts.length:Nat))] ?_))))
 cases hb4:(decide (((ts.length:Nat):Int)<(1:Int)))
 ·
  have phb4:=oF hb4
  refine lB 8 hb4 ?_
  refine lL hs [.m 9 8,.v 10 (.pointer (some ⟨b1,0,none⟩)),.o 11 (.slice A ts.length cap) 0 0 1,.v 12 (.int .i64 (ts.length:Nat))] ?_
  cases hb5:(decide ((4:Int)<((ts.length:Nat):Int)))
  ·
   have phb5:=oF hb5
   refine lB 13 hb5 ?_
   refine lL hs [.v 14 (.bool false)] (lN (cIF (CG.skipN (CG.seq (cSL (lL hs [.v 15 (.pointer (some ⟨b1,0,none⟩)),.o 16 (.slice A ts.length cap) 0 0 1,.v 17 (.int .i64 (ts.length:Nat)),.v 18 (.int .i64 0)] (lN (CG.block (cTo [(1,.pointer (some ⟨b1,0,none⟩)),(16,.slice A ts.length cap),(17,.int .i64 (ts.length:Nat)),(18,.int .i64 0)] ?_)))))))))
   refine CG.loop (fun μ_ Γ w_=>∃ (k:Nat) (h_:Hp),μ_=ls.length-k∧Γ=[(1,.pointer (some ⟨b1,0,none⟩)),(16,.slice A ts.length cap),(17,.int .i64 (ts.length:Nat)),(18,.int .i64 (k:Nat))]∧SS w h w_ h_ [⟨b1,28,[.slice A ts.length cap]⟩] [] [fun h_=>NetL h_ ts ls,fun h_=>SlO 3 lvc lvd h_ A ts]∧(k≤ls.length)∧(chkq ls=chkFrom ls k (ls.length-k))) _ ⟨0,h3,rfl,rfl,hs.to _ _,Nat.zero_le _,chk_start oM⟩ ?_
   rintro _ _ w6 ⟨k,h7,hm8,rfl,hs,hk,hi⟩
   refine cSL ?_
   cases hb9:(decide (((k:Nat):Int)<((ts.length:Nat):Int)))
   ·
    have phb9:=oF hb9
    refine lB 19 hb9 ?_
    refine lN (CG.seq (cIF (CG.exit ?_)))
    show CG _ _ _ _ _ _ _ _
    exact cSL (lL hs [.v 2 (.int .i64 0)] (lN (CG.ret (hs.ret [] (.int .i64 0) (chk_end hi oM)))))
   have phb9:=oT hb9
   refine lB 19 hb9 ?_
   refine lN (CG.seq (cIT (CG.skipN (CG.seq (CG.block (cSL (lL hs [.m 20 18] (lX 21 A ts.length cap 3 (k:Nat) k ((hs.f.2.1).ok oM) ?_))))))))
   obtain ⟨ekx,⟨AWx,cWx,usx,eWx,hcWx,hAWx,hUx⟩,⟨ABx,cBx,eBx,hcBx,hABx⟩⟩:=(hs.f.1).at_ k oM
   have lux:=hUx.len
   replace hs:=(((hs.a_SlO hAWx).add (K:=fun h_=>QVs h_ usx (ls.getD k lay0).W) hUx).a_SlO hABx)
   refine lHe 22 (.agg #[.int .i64 ((ts.getD k lvd).1),(ts.getD k lvd).2.1,(ts.getD k lvd).2.2]) hs ((hs.f.2.2.2.2.1).el k oM) (by rw[ekx,eWx,eBx]) ?_
   refine lA 4 77 ([.int .i64 0,.slice none 0 0,.slice none 0 0]) hs (fun b10 w11 h12 hs=>?_)
   refine lL hs [.m 3 20] (lP 0 0 ([.int .i64 ((ls.getD k lay0).k),.slice AWx usx.length cWx,.slice ABx ((ls.getD k lay0).B.length) cBx]) hs (fun w13 hs=>?_))
   refine lN (CG.seq (cSL (lL hs [.v 23 (.pointer (some ⟨b10,1,none⟩)),.o 24 (.slice AWx usx.length cWx) 0 1 1] (lC 25 hs (mRightG AWx cWx usx (ls.getD k lay0).W (hF k oM).rl (hF k oM).rls _ _ hs.g (hs.f.2.2.1) (hs.f.2.1)) ?_))))
   rintro _ w14 h15 hs rfl
   cases hb16:(rightq (ls.getD k lay0).W)
   ·
    have phb16:=rq_not hb16
    refine lL hs [.v 26 (.bool true),.m 27 26] (lG 28 ?_)
    refine lG 29 ?_
    refine lG 30 ?_
    refine lG 31 ?_
    refine lL hs [.v 32 (.bool true),.m 33 32] (lG 34 ?_)
    refine lG 35 ?_
    refine lG 36 ?_
    refine lG 37 ?_
    refine lG 38 ?_
    refine lG 39 ?_
    refine lG 40 ?_
    exact lL hs [.v 41 (.bool true)] (lN (cIT (cSL (lL hs [.v 2 (.int .i64 5)] (lN (CG.ret (hs.ret [] (.int .i64 5) (chk_bad hi oM (fun ⟨f1,f2,f3,f4,f5⟩=>by first|exact absurd f1 aM|omega|(have:=f4 oM;omega)|(have:=f5 oM;omega)|(have:=hwd oM;have:=f5 oM;omega))))))))))
   have phb16:=rq_is hb16
   refine lL hs [.v 26 (.bool false),.m 27 26] ?_
   obtain ⟨hr1,hr2,hr3⟩:=‹RightP (ls.getD k lay0).W›
   refine lL hs [.v 28 (.pointer (some ⟨b10,1,none⟩)),.o 29 (.slice AWx usx.length cWx) 0 1 1,.v 30 (.int .i64 (usx.length:Nat))] ?_
   cases hb17:(decide ((12:Int)<((usx.length:Nat):Int)))
   ·
    have phb17:=oF hb17
    refine lB 31 hb17 ?_
    refine lL hs [.v 32 (.bool false),.m 33 32,.v 34 (.pointer (some ⟨b10,2,none⟩)),.o 35 (.slice ABx ((ls.getD k lay0).B.length) cBx) 0 2 1,.v 36 (.int .i64 ((ls.getD k lay0).B.length:Nat)),.v 37 (.pointer (some ⟨b10,1,none⟩)),.o 38 (.slice AWx usx.length cWx) 0 1 1,.v 39 (.int .i64 (usx.length:Nat))] ?_
    cases hb18:((((ls.getD k lay0).B.length:Nat):Int) != ((usx.length:Nat):Int))
    ·
     have phb18:=eqOfBne hb18
     refine lB 40 hb18 ?_
     refine lL hs [.v 41 (.bool false)] (lN (cIF (CG.skipN (CG.seq (CG.seq (cR 30 [] mixed hs al_nil ?_))))))
     refine eV 0 42 (.int .i64 (k:Nat)) ?_
     cases hb19:(((k:Nat):Int) == (0:Int))
     ·
      have phb19:=neOfBeq hb19
      refine eB 1 43 hb19 ?_
      refine eV 2 44 (.bool false) ?_
      refine eG 3 45 ?_
      refine eG 4 46 ?_
      refine eG 5 47 ?_
      refine eG 6 48 ?_
      refine eG 7 49 ?_
      refine eG 8 50 ?_
      refine eV 9 51 (.bool false) ?_
      refine eV 10 52 (.bool false) ?_
      refine eV 11 53 (.int .i64 (k:Nat)) ?_
      cases hb20:(decide ((0:Int)<((k:Nat):Int)))
      ·
       have phb20:=oF hb20
       refine eB 12 54 hb20 ?_
       refine eV 13 55 (.bool false) ?_
       refine eG 14 56 ?_
       refine eG 15 57 ?_
       refine eG 16 58 ?_
       refine eG 17 59 ?_
       refine eG 18 60 ?_
       refine eG 19 61 ?_
       refine eG 20 62 ?_
       refine eG 21 63 ?_
       refine eG 22 64 ?_
       refine eG 23 65 ?_
       refine eG 24 66 ?_
       refine eG 25 67 ?_
       refine eG 26 68 ?_
       refine eG 27 69 ?_
       refine eV 28 70 (.bool false) ?_
       refine eV 29 71 (.bool false) ?_
       refine eD0 hs (fun w21 h22 hs=>?_)
       refine tN (cTo [(1,.pointer (some ⟨b1,0,none⟩)),(16,.slice A ts.length cap),(17,.int .i64 (ts.length:Nat)),(18,.int .i64 (k:Nat)),(4,.pointer (some ⟨b10,0,none⟩)),(71,.bool false)] ?_)
       refine cIF (CG.skipN (cSL (lL hs [.v 72 (.pointer (some ⟨b10,0,none⟩)),.o 73 (.int .i64 ((ls.getD k lay0).k)) 0 0 1] (lC 74 hs (nKnownG (ls.getD k lay0).k _ _ hs.g) ?_))))
       rintro _ w23 h24 hs rfl
       cases hb25:(decide (1≤(ls.getD k lay0).k∧(ls.getD k lay0).k≤3))
       ·
        have phb25:=oF hb25
        exact lL hs [.v 75 (.bool true)] (lN (cIT (cSL (lL hs [.v 2 (.int .i64 10)] (lN (CG.ret (hs.ret [] (.int .i64 10) (chk_kind hi oM (⟨‹RightP _›,by omega,by omega,fun _=>by omega,fun h_=>by first|omega|(have:=hwd h_;omega)⟩) (by first|assumption|(intro h_;have h1_:=h_.1;have h2_:=h_.2;omega))))))))))
       have phb25:=oT hb25
       refine lL hs [.v 75 (.bool false)] (lN (cIF (CG.skipN (CG.listed (lIn 76 ((k:Nat)+1) (k+1) ?_)))))
       refine lL hs [.m 18 76] (lD ?_)
       intro a_ ka
       have q26:(k+1)≤ls.length:=by omega
       have q27:chkq ls=chkFrom ls (k+1) (ls.length-(k+1)):=chk_step hi oM ⟨‹RightP _›,by omega,by omega,fun _=>by omega,fun _=>by omega⟩ aM
       replace hs:=hs.tl.tl.tl
       replace hs:=hs.drop 1 0
       refine ⟨_,_,?_,⟨k+1,h24,rfl,rfl,hs.to _ _,q26,q27⟩,ka.to [(1,.pointer (some ⟨b1,0,none⟩)),(16,.slice A ts.length cap),(17,.int .i64 (ts.length:Nat)),(18,.int .i64 ((k+1):Nat))] kR⟩
       omega
      have phb20:=oT hb20
      refine eB 12 54 hb20 ?_
      refine eV 13 55 (.bool true) ?_
      refine eV 14 56 (.pointer (some ⟨b10,1,none⟩)) ?_
      refine eO 15 57 [(0,1,1)] (.slice AWx usx.length cWx) hs ?_
      refine eX 16 58 AWx usx.length cWx 1 0 0 ((hs.f.2.2.1).ok oM) ?_
      obtain ⟨Arq,crq,erq,hcrq,hRrq⟩:=(hs.f.2.1).at_ 0 oM
      replace hs:=(hs.a_SlO hRrq)
      refine eHe 17 59 (usx.getD 0 undef) hs ((hs.f.2.2.2.1).el 0 oM) erq ?_
      refine eV 18 60 (.int .i64 ((((ls.getD k lay0).W).getD 0 []).length:Nat)) ?_
      refine eV 19 61 (.pointer (some ⟨b1,0,none⟩)) ?_
      refine eO 20 62 [(1,0,1)] (.slice A ts.length cap) hs ?_
      refine eV 21 63 (.int .i64 (k:Nat)) ?_
      refine eIn 22 64 ((k:Nat)-1) (k-1) ?_
      refine eX 23 65 A ts.length cap 3 (k-1:Nat) (k-1) ((hs.f.2.2.2.2.2.1).ok oM) ?_
      refine eV 24 66 (.pointer (some ⟨(aB A),aO A+(k-1)*3+1,none⟩)) ?_
      obtain ⟨eky,⟨AWy,cWy,usy,eWy,hcWy,hAWy,hUy⟩,⟨ABy,cBy,eBy,hcBy,hABy⟩⟩:=(hs.f.2.2.2.2.1).at_ (k-1) oM
      have luy:=hUy.len
      replace hs:=(((hs.a_SlO hAWy).add (K:=fun h_=>QVs h_ usy (ls.getD (k-1) lay0).W) hUy).a_SlO hABy)
      refine eHe 25 67 ((ts.getD (k-1) lvd).2.1) hs (((hs.f.2.2.2.2.2.2.2.2.1).el (k-1) oM).part 1 1) eWy ?_
      refine eV 26 68 (.int .i64 (usy.length:Nat)) ?_
      cases hb28:((((((ls.getD k lay0).W).getD 0 []).length:Nat):Int) != ((usy.length:Nat):Int))
      ·
       have phb28:=eqOfBne hb28
       refine eB 27 69 hb28 ?_
       refine eV 28 70 (.bool false) ?_
       refine eV 29 71 (.bool false) ?_
       refine eD0 hs (fun w29 h30 hs=>?_)
       refine tN (cTo [(1,.pointer (some ⟨b1,0,none⟩)),(16,.slice A ts.length cap),(17,.int .i64 (ts.length:Nat)),(18,.int .i64 (k:Nat)),(4,.pointer (some ⟨b10,0,none⟩)),(71,.bool false)] ?_)
       refine cIF (CG.skipN (cSL (lL hs [.v 72 (.pointer (some ⟨b10,0,none⟩)),.o 73 (.int .i64 ((ls.getD k lay0).k)) 0 0 1] (lC 74 hs (nKnownG (ls.getD k lay0).k _ _ hs.g) ?_))))
       rintro _ w31 h32 hs rfl
       cases hb33:(decide (1≤(ls.getD k lay0).k∧(ls.getD k lay0).k≤3))
       ·
        have phb33:=oF hb33
        exact lL hs [.v 75 (.bool true)] (lN (cIT (cSL (lL hs [.v 2 (.int .i64 10)] (lN (CG.ret (hs.ret [] (.int .i64 10) (chk_kind hi oM (⟨‹RightP _›,by omega,by omega,fun _=>by omega,fun h_=>by first|omega|(have:=hwd h_;omega)⟩) (by first|assumption|(intro h_;have h1_:=h_.1;have h2_:=h_.2;omega))))))))))
       have phb33:=oT hb33
       refine lL hs [.v 75 (.bool false)] (lN (cIF (CG.skipN (CG.listed (lIn 76 ((k:Nat)+1) (k+1) ?_)))))
       refine lL hs [.m 18 76] (lD ?_)
       intro a_ ka
       have q34:(k+1)≤ls.length:=by omega
       have q35:chkq ls=chkFrom ls (k+1) (ls.length-(k+1)):=chk_step hi oM ⟨‹RightP _›,by omega,by omega,fun _=>by omega,fun _=>by omega⟩ aM
       replace hs:=hs.tl.tl.tl.tl.tl.tl.tl
       replace hs:=hs.drop 1 0
       refine ⟨_,_,?_,⟨k+1,h32,rfl,rfl,hs.to _ _,q34,q35⟩,ka.to [(1,.pointer (some ⟨b1,0,none⟩)),(16,.slice A ts.length cap),(17,.int .i64 (ts.length:Nat)),(18,.int .i64 ((k+1):Nat))] kR⟩
       omega
      have phb28:=neOfBne hb28
      refine eB 27 69 hb28 ?_
      refine eV 28 70 (.bool true) ?_
      refine eV 29 71 (.bool true) ?_
      refine eD0 hs (fun w36 h37 hs=>?_)
      refine tN (cTo [(1,.pointer (some ⟨b1,0,none⟩)),(16,.slice A ts.length cap),(17,.int .i64 (ts.length:Nat)),(18,.int .i64 (k:Nat)),(4,.pointer (some ⟨b10,0,none⟩)),(71,.bool true)] ?_)
      exact cIT (cSL (lL hs [.v 2 (.int .i64 5)] (lN (CG.ret (hs.ret [] (.int .i64 5) (chk_bad hi oM (fun ⟨f1,f2,f3,f4,f5⟩=>by first|exact absurd f1 aM|omega|(have:=f4 oM;omega)|(have:=f5 oM;omega)|(have:=hwd oM;have:=f5 oM;omega))))))))
     have phb19:=eq_of_beq hb19
     refine eB 1 43 hb19 ?_
     refine eV 2 44 (.bool true) ?_
     refine eV 3 45 (.pointer (some ⟨b10,1,none⟩)) ?_
     refine eO 4 46 [(0,1,1)] (.slice AWx usx.length cWx) hs ?_
     refine eX 5 47 AWx usx.length cWx 1 0 0 ((hs.f.2.2.1).ok oM) ?_
     obtain ⟨Arp,crp,erp,hcrp,hRrp⟩:=(hs.f.2.1).at_ 0 oM
     replace hs:=(hs.a_SlO hRrp)
     refine eHe 6 48 (usx.getD 0 undef) hs ((hs.f.2.2.2.1).el 0 oM) erp ?_
     refine eV 7 49 (.int .i64 ((((ls.getD k lay0).W).getD 0 []).length:Nat)) ?_
     cases hb38:(decide ((20:Int)<(((((ls.getD k lay0).W).getD 0 []).length:Nat):Int)))
     ·
      have phb38:=oF hb38
      refine eB 8 50 hb38 ?_
      refine eV 9 51 (.bool false) ?_
      refine eV 10 52 (.bool false) ?_
      refine eV 11 53 (.int .i64 (k:Nat)) ?_
      have ⟨hb39,phb39⟩:=dF (p:=(0:Int)<((k:Nat):Int)) oM
      refine eB 12 54 hb39 ?_
      refine eV 13 55 (.bool false) ?_
      refine eG 14 56 ?_
      refine eG 15 57 ?_
      refine eG 16 58 ?_
      refine eG 17 59 ?_
      refine eG 18 60 ?_
      refine eG 19 61 ?_
      refine eG 20 62 ?_
      refine eG 21 63 ?_
      refine eG 22 64 ?_
      refine eG 23 65 ?_
      refine eG 24 66 ?_
      refine eG 25 67 ?_
      refine eG 26 68 ?_
      refine eG 27 69 ?_
      refine eV 28 70 (.bool false) ?_
      refine eV 29 71 (.bool false) ?_
      refine eD0 hs (fun w40 h41 hs=>?_)
      refine tN (cTo [(1,.pointer (some ⟨b1,0,none⟩)),(16,.slice A ts.length cap),(17,.int .i64 (ts.length:Nat)),(18,.int .i64 (k:Nat)),(4,.pointer (some ⟨b10,0,none⟩)),(71,.bool false)] ?_)
      refine cIF (CG.skipN (cSL (lL hs [.v 72 (.pointer (some ⟨b10,0,none⟩)),.o 73 (.int .i64 ((ls.getD k lay0).k)) 0 0 1] (lC 74 hs (nKnownG (ls.getD k lay0).k _ _ hs.g) ?_))))
      rintro _ w42 h43 hs rfl
      cases hb44:(decide (1≤(ls.getD k lay0).k∧(ls.getD k lay0).k≤3))
      ·
       have phb44:=oF hb44
       exact lL hs [.v 75 (.bool true)] (lN (cIT (cSL (lL hs [.v 2 (.int .i64 10)] (lN (CG.ret (hs.ret [] (.int .i64 10) (chk_kind hi oM (⟨‹RightP _›,by omega,by omega,fun _=>by omega,fun h_=>by first|omega|(have:=hwd h_;omega)⟩) (by first|assumption|(intro h_;have h1_:=h_.1;have h2_:=h_.2;omega))))))))))
      have phb44:=oT hb44
      refine lL hs [.v 75 (.bool false)] (lN (cIF (CG.skipN (CG.listed (lIn 76 ((k:Nat)+1) (k+1) ?_)))))
      refine lL hs [.m 18 76] (lD ?_)
      intro a_ ka
      have q45:(k+1)≤ls.length:=by omega
      have q46:chkq ls=chkFrom ls (k+1) (ls.length-(k+1)):=chk_step hi oM ⟨‹RightP _›,by omega,by omega,fun _=>by omega,fun _=>by omega⟩ aM
      replace hs:=hs.tl.tl.tl.tl
      replace hs:=hs.drop 1 0
      refine ⟨_,_,?_,⟨k+1,h43,rfl,rfl,hs.to _ _,q45,q46⟩,ka.to [(1,.pointer (some ⟨b1,0,none⟩)),(16,.slice A ts.length cap),(17,.int .i64 (ts.length:Nat)),(18,.int .i64 ((k+1):Nat))] kR⟩
      omega
     have phb38:=oT hb38
     refine eB 8 50 hb38 ?_
     refine eV 9 51 (.bool true) ?_
     refine eV 10 52 (.bool true) ?_
     refine eG 11 53 ?_
     refine eG 12 54 ?_
     refine eG 13 55 ?_
     refine eG 14 56 ?_
     refine eG 15 57 ?_
     refine eG 16 58 ?_
     refine eG 17 59 ?_
     refine eG 18 60 ?_
     refine eG 19 61 ?_
     refine eG 20 62 ?_
     refine eG 21 63 ?_
     refine eG 22 64 ?_
     refine eG 23 65 ?_
     refine eG 24 66 ?_
     refine eG 25 67 ?_
     refine eG 26 68 ?_
     refine eG 27 69 ?_
     refine eG 28 70 ?_
     refine eV 29 71 (.bool true) ?_
     refine eD0 hs (fun w47 h48 hs=>?_)
     refine tN (cTo [(1,.pointer (some ⟨b1,0,none⟩)),(16,.slice A ts.length cap),(17,.int .i64 (ts.length:Nat)),(18,.int .i64 (k:Nat)),(4,.pointer (some ⟨b10,0,none⟩)),(71,.bool true)] ?_)
     exact cIT (cSL (lL hs [.v 2 (.int .i64 5)] (lN (CG.ret (hs.ret [] (.int .i64 5) (chk_bad hi oM (fun ⟨f1,f2,f3,f4,f5⟩=>by first|exact absurd f1 aM|omega|(have:=f4 oM;omega)|(have:=f5 oM;omega)|(have:=hwd oM;have:=f5 oM;omega))))))))
    have phb18:=neOfBne hb18
    refine lB 40 hb18 ?_
    exact lL hs [.v 41 (.bool true)] (lN (cIT (cSL (lL hs [.v 2 (.int .i64 5)] (lN (CG.ret (hs.ret [] (.int .i64 5) (chk_bad hi oM (fun ⟨f1,f2,f3,f4,f5⟩=>by first|exact absurd f1 aM|omega|(have:=f4 oM;omega)|(have:=f5 oM;omega)|(have:=hwd oM;have:=f5 oM;omega))))))))))
   have phb17:=oT hb17
   refine lB 31 hb17 ?_
   refine lL hs [.v 32 (.bool true),.m 33 32] (lG 34 ?_)
   refine lG 35 ?_
   refine lG 36 ?_
   refine lG 37 ?_
   refine lG 38 ?_
   refine lG 39 ?_
   refine lG 40 ?_
   exact lL hs [.v 41 (.bool true)] (lN (cIT (cSL (lL hs [.v 2 (.int .i64 5)] (lN (CG.ret (hs.ret [] (.int .i64 5) (chk_bad hi oM (fun ⟨f1,f2,f3,f4,f5⟩=>by first|exact absurd f1 aM|omega|(have:=f4 oM;omega)|(have:=f5 oM;omega)|(have:=hwd oM;have:=f5 oM;omega))))))))))
  have phb5:=oT hb5
  refine lB 13 hb5 ?_
  exact lL hs [.v 14 (.bool true)] (lN (cIT (cSL (lL hs [.v 2 (.int .i64 5)] (lN (CG.ret (hs.ret [] (.int .i64 5) (chk_len oM))))))))
 have phb4:=oT hb4
 refine lB 8 hb4 ?_
 refine lL hs [.m 9 8] (lG 10 ?_)
 refine lG 11 ?_
 refine lG 12 ?_
 refine lG 13 ?_
 exact lL hs [.v 14 (.bool true)] (lN (cIT (cSL (lL hs [.v 2 (.int .i64 5)] (lN (CG.ret (hs.ret [] (.int .i64 5) (chk_len oM))))))))
structure Mat (W:List (List Rat)) (r c:Nat):Prop where
  rows:W.length=r
  rpos:0<r
  cpos:0<c
  row:∀ i,i<r→(W.getD i []).length=c
structure Net3 (ls:List Lay) (d:Nat→Nat):Prop where
  len:1≤ls.length∧ls.length≤4
  first:d 0≤20
  lay:∀ i,i<ls.length→Mat (ls.getD i lay0).W (d (i+1)) (d i)∧(ls.getD i lay0).B.length=d (i+1)∧d (i+1)≤12∧((ls.getD i lay0).k=1∨(ls.getD i lay0).k=2∨(ls.getD i lay0).k=3)
theorem Net3.small {ls:List Lay}{d:Nat→Nat}(o:Net3 ls d)(i:Nat)(h:i<ls.length):d i≤20:=by
  cases i with
  | zero=>exact o.first
  | succ i=>have:=(o.lay i oM).2.2.1;omega
theorem one_abs_pos (u:Rat):0<((1:Int):Rat)+qabs u:=by
  have h:(0:Rat)≤qabs u:=by rw[←Rat.num_nonneg,qabs_num];omega
  have h1:(0:Rat)<((1:Int):Rat):=by decide
  grind
theorem one_abs_ne (u:Rat):(((1:Int):Rat)+qabs u).num≠0:=by
  have:=one_abs_pos u
  intro e
  have e2:((1:Int):Rat)+qabs u=0:=by rw[←Rat.num_eq_zero];exact e
  rw[e2] at this;exact absurd this kD
def act (k:Int)(u:Rat):Rat:=if k=2 then maxR u 0 else if k=3 then u/(((1:Int):Rat)+qabs u) else u
theorem LQ.act {m:Nat}{u:Rat}(k:Int)(h:LQ m u)(hm:0<m):LQ (2*m+2) (act k u):=by
  unfold Go.Proofs.YticblaklfnadoaaGreatDoor.act
  split
  · exact (LQ.maxR h ((LQ.lit (z:=0) kD).mono oM)).mono oM
  · split
    · exact (h.div ((LQ.lit (z:=1) kD).add h.abs)).mono oM
    · exact h.mono oM
def layq (L:Lay)(x:List Rat):List Rat:=(List.range L.W.length).map fun i=>act L.k (dotq (L.W.getD i []) x x.length+L.B.getD i 0)
def outq (ls:List Lay)(xs:List Rat):Nat→List Rat
  | 0=>xs
  | k+1=>layq (ls.getD k lay0) (outq ls xs k)
theorem outq_len {ls:List Lay}{d:Nat→Nat}(o:Net3 ls d){xs:List Rat}(hx:xs.length=d 0)(k:Nat)(hk:k≤ls.length):(outq ls xs k).length=d k:=by
  cases k with
  | zero=>exact hx
  | succ k=>show (layq _ _).length=_;unfold layq;rw[List.length_map,List.length_range];exact (o.lay k oM).1.rows
structure NetB (ls:List Lay) (xs:List Rat):Prop where
  w:∀ k i j,LQ 1000000 (((ls.getD k lay0).W.getD i []).getD j 0)
  b:∀ k i,LQ 1000000 ((ls.getD k lay0).B.getD i 0)
  x:∀ k,k≤ls.length→∀ j,LQ 1000000 ((outq ls xs k).getD j 0)
theorem getD_set_self {l:List Rat}{i:Nat}{x:Rat}(h:i<l.length):(l.set i x).getD i 0=x:=by
  rw[List.getD_eq_getElem?_getD,List.getElem?_set_self h];rfl
theorem fstep {pl:List Rat}{f:Nat→Rat}{i:Nat}{x:Rat}(hp:∀ j,j<i→pl.getD j 0=f j)(hi:i<pl.length)(hx:x=f i):∀ j,j<i+1→(pl.set i x).getD j 0=f j:=by
  intro j hj
  by_cases e:j=i
  · subst e;rw[getD_set_self hi,hx]
  · rw[List.getD_eq_getElem?_getD,List.getElem?_set_ne (Ne.symm e),←List.getD_eq_getElem?_getD];exact hp j oM
theorem dot_b1 {n:Nat}(h:n≤20):n*(1000000+1000000+1)+1000000+1000000+2≤100000000:=by rw[Nat.mul_comm n];omega
theorem dot_b2 {n:Nat}(h:n≤20):n*(1000000+1000000+1)+1≤41000000:=by rw[Nat.mul_comm n];omega
theorem map_of {pl:List Rat}{f:Nat→Rat}{i n:Nat}(hp:∀ j,j<i→pl.getD j 0=f j)(hi:i=n)(hl:pl.length=n):pl=(List.range n).map f:=by
  subst hi
  refine List.ext_getElem (by simp[hl]) (fun j h1 h2=>?_)
  have:=hp j oM
  rw[List.getD_eq_getElem?_getD,List.getElem?_eq_getElem h1] at this
  simp only[List.getElem_map,List.getElem_range]
  exact this
def sumq (L:Lay)(x:List Rat):List Rat:=(List.range L.W.length).map fun i=>dotq (L.W.getD i []) x x.length+L.B.getD i 0
def insq (ls:List Lay)(xs:List Rat)(n:Nat):List (List Rat):=(List.range n).map (outq ls xs)
def sumsq (ls:List Lay)(xs:List Rat)(n:Nat):List (List Rat):=(List.range n).map fun k=>sumq (ls.getD k lay0) (outq ls xs k)
theorem insq_succ (ls:List Lay)(xs:List Rat)(n:Nat):insq ls xs (n+1)=insq ls xs n++[outq ls xs n]:=by unfold insq;rw[List.range_succ,List.map_append];rfl
theorem sumsq_succ (ls:List Lay)(xs:List Rat)(n:Nat):sumsq ls xs (n+1)=sumsq ls xs n++[sumq (ls.getD n lay0) (outq ls xs n)]:=by unfold sumsq;rw[List.range_succ,List.map_append];rfl
theorem fDotN (A:Option Addr)(ca:Nat)(a:List Rat)(D:Option Addr)(cd:Nat)(b:List Rat)(n m1 m2:Nat)(h1:a.length=m1)(h2:b.length=m2)(e1:m1=n)(e2:m2=n)(K L:Nat)(hn:n≤1000000)(hb:n*(K+L+1)+K+L+2≤100000000)(ha:∀ i,LQ K (a.getD i 0))(hbb:∀ i,LQ L (b.getD i 0))(w:World)(h:Hp)(g:G w h)(hA:SlO 5 qc 0 h A a)(hD:SlO 5 qc 0 h D b)(tb:Tab h) :
    Calls Tryz.prog 127 #[.slice A m1 ca,.slice D m2 cd] w (Ret w h fun v _=>v=.tuple #[qv (dotq a b n),.bool true]):=by
  subst h1 h2 e1
  exact fDot A ca a D cd b K L e2.symm hn hb (fun i _=>ha i) (fun i _=>hbb i) w h g hA hD tb
theorem nAct1 (u:Rat)(w:World)(h:Hp)(g:G w h) :
    Calls Tryz.prog 128 #[.int .i64 1,qv u] w (Ret w h fun v _=>v=qv u):=by
 have hs:=SS.start g
 refine go Tryz.func128 [(0,.int .i64 1),(1,qv u)] rfl ?_
 refine cSL (lA 3 73 (qc u) hs (fun b1 w2 h3 hs=>?_))
 refine lA 4 73 ([.bool false,.int .u64 0,.string ⟨#[]⟩,.int .u64 0,.string ⟨#[]⟩]) hs (fun b4 w5 h6 hs=>?_)
 refine lN (CG.seq (cSL (lL hs [.m 7 0] (lN (CG.block (cSL (lL hs [.v 9 (.bool false),.m 8 9] (lN (cIF (cSL (lL hs [.v 14 (.bool false),.m 13 14] (lN (cIF (CG.skipN (cSL (lL hs [.o 25 (qv u) 1 0 5] (lP 0 0 (qc u) hs (fun w7 hs=>?_))))))))))))))))))
 exact lN (CG.ret (hs.ret [(0,0,5)] (qv u) rfl))
theorem nAct2 (u:Rat)(hu:LQ 45000000 u)(w:World)(h:Hp)(g:G w h) :
    Calls Tryz.prog 128 #[.int .i64 2,qv u] w (Ret w h fun v _=>v=qv (maxR u 0)):=by
 have hs:=SS.start g
 refine go Tryz.func128 [(0,.int .i64 2),(1,qv u)] rfl ?_
 refine cSL (lA 3 73 (qc u) hs (fun b1 w2 h3 hs=>?_))
 refine lA 4 73 ([.bool false,.int .u64 0,.string ⟨#[]⟩,.int .u64 0,.string ⟨#[]⟩]) hs (fun b4 w5 h6 hs=>?_)
 refine lN (CG.seq (cSL (lL hs [.m 7 0] (lN (CG.block (cSL (lL hs [.v 9 (.bool true),.m 8 9] (lN (cIT (cSL (lL hs [.o 10 (qv u) 1 0 5,.v 11 (qv 0)] (lC 12 hs (fMax u 0 (LQ.mono hu oM) (LQ.mono (LQ.lit (z:=0) kD) oM) _ _ hs.g) ?_))))))))))))
 rintro _ w7 h8 hs rfl
 refine lP 0 0 (qc (maxR u 0)) hs (fun w9 hs=>?_)
 exact lN (CG.ret (hs.ret [(0,0,5)] (qv (maxR u 0)) rfl))
theorem nAct3 (u:Rat)(hu:LQ 45000000 u)(w:World)(h:Hp)(g:G w h)(tb:Tab h) :
    Calls Tryz.prog 128 #[.int .i64 3,qv u] w (Ret w h fun v _=>v=qv (u/(((1:Int):Rat)+qabs u))):=by
 have hs:=SS.start g
 replace hs:=(hs.add (K:=fun h_=>Tab h_) tb)
 refine go Tryz.func128 [(0,.int .i64 3),(1,qv u)] rfl ?_
 refine cSL (lA 3 73 (qc u) hs (fun b1 w2 h3 hs=>?_))
 refine lA 4 73 ([.bool false,.int .u64 0,.string ⟨#[]⟩,.int .u64 0,.string ⟨#[]⟩]) hs (fun b4 w5 h6 hs=>?_)
 refine lN (CG.seq (cSL (lL hs [.m 7 0] (lN (CG.block (cSL (lL hs [.v 9 (.bool false),.m 8 9] (lN (cIF (cSL (lL hs [.v 14 (.bool true),.m 13 14] (lN (cIT (CG.seq ?_))))))))))))))
 have hsr:=hs
 refine cR 10 [⟨9,5,.cells (List.toArray [.bool false,.int .u64 0,.string ⟨#[]⟩,.int .u64 0,.string ⟨#[]⟩]) 73 (0,0)⟩] mixed hs (al_cons (alOk kR (fun _ _=>by kernel_rfl)) al_nil) ?_
 refine eO 0 16 [(1,0,5)] (qv u) hs ?_
 refine eO 2 18 [(1,0,5)] (qv u) hs ?_
 refine eC 1 17 hs (fun _ _ hs=>fOf 1 oM oM _ _ hs.g) ?_
 rintro _ _ _ w7 h8 hs rfl
 have hq9:LQ (45000000) (qabs u):=LQ.abs hu
 refine eC 3 19 hs (fun _ _ hs=>fAbs u (LQ.mono hu oM) _ _ hs.g) ?_
 rintro _ _ _ w10 h11 hs rfl
 have hq12:=LQ.add (LQ.lit (z:=1) kD) hq9
 refine eC 4 20 hs (fun _ _ hs=>fAdd ((1:Int):Rat) (qabs u) (LQ.mono (LQ.lit (z:=1) kD) oM) (LQ.mono hq9 oM) _ _ hs.g (hs.f.1)) ?_
 rintro _ _ _ w13 h14 hs rfl
 have hq15:=LQ.div hu hq12
 refine eC 5 21 hs (fun _ _ hs=>fDivN u (((1:Int):Rat)+(qabs u)) (LQ.mono hu oM) (LQ.mono hq12 oM) (one_abs_ne u) _ _ hs.g (hs.f.1)) ?_
 rintro _ _ _ w16 h17 hs rfl
 refine eV 6 15 (.tuple #[qv (u/(((1:Int):Rat)+(qabs u))),.bool true]) ?_
 refine eV 7 22 (qv (u/(((1:Int):Rat)+(qabs u)))) ?_
 refine eV 8 23 (.bool true) ?_
 refine eD1p [] hsr hs 73 [.bool false,.int .u64 0,.string ⟨#[]⟩,.int .u64 0,.string ⟨#[]⟩] (fun w18 h19 b20 hs=>?_)
 refine tP 10 0 0 (qc (u/(((1:Int):Rat)+(qabs u)))) hs (fun w21 hs=>?_)
 refine tV 11 6 (.bool true) ?_
 refine tNS ?_
 refine lL hs [.o 24 (qv (u/(((1:Int):Rat)+(qabs u)))) 0 0 5] (lP 1 0 (qc (u/(((1:Int):Rat)+(qabs u)))) hs (fun w22 hs=>?_))
 exact lN (CG.ret (hs.ret [(1,0,5)] (qv (u/(((1:Int):Rat)+(qabs u)))) rfl))
theorem nAct (k:Int)(hk:k=1∨k=2∨k=3)(u:Rat)(hu:LQ 45000000 u)(w:World)(h:Hp)(g:G w h)(tb:Tab h):Calls Tryz.prog 128 #[.int .i64 k,qv u] w (Ret w h fun v _=>v=qv (act k u)):=by
  rcases hk with rfl|rfl|rfl
  · exact nAct1 u w h g
  · exact nAct2 u hu w h g
  · exact nAct3 u hu w h g tb
theorem nSuitsT (A:Option Addr)(cap:Nat)(ts:List LV)(ls:List Lay)(d:Nat→Nat)(hO:Net3 ls d)(X:Option Addr)(c0:Nat)(xs:List Rat)(hx:xs.length=d 0)(w:World)(h:Hp)(g:G w h)(hA:SlO 3 lvc lvd h A ts)(hN:NetL h ts ls)(hX:SlO 5 qc 0 h X xs) :
    Calls Tryz.prog 79 #[.agg #[.slice A ts.length cap],.slice X xs.length c0] w (Ret w h fun v _=>v=.bool true):=by
 have hs:=SS.start g
 replace hs:=(((hs.a_SlO hA).add (K:=fun h_=>NetL h_ ts ls) hN).a_SlO hX)
 have hl:=(hs.f.2.1).len
 obtain ⟨o1,o2⟩:=hO.len
 have o3:=hO.first
 refine go Tryz.func79 [(0,.agg #[.slice A ts.length cap]),(1,.slice X xs.length c0)] rfl ?_
 refine cSL (lA 2 28 ([.slice A ts.length cap]) hs (fun b1 w2 h3 hs=>?_))
 refine lL hs [.v 4 (.bool false)] (lNS (lL hs [.m 5 1,.v 6 (.int .i64 (xs.length:Nat)),.v 7 (.pointer (some ⟨b1,0,none⟩)),.o 8 (.slice A ts.length cap) 0 0 1] (lX 9 A ts.length cap 3 0 0 ((hs.f.2.2.1).ok oM) ?_)))
 refine lL hs [.v 10 (.pointer (some ⟨(aB A),aO A+0*3+1,none⟩))] ?_
 obtain ⟨ekx,⟨AWx,cWx,usx,eWx,hcWx,hAWx,hUx⟩,⟨ABx,cBx,eBx,hcBx,hABx⟩⟩:=(hs.f.2.1).at_ 0 oM
 obtain ⟨mtx,lbx,r12x,kdx⟩:=hO.lay 0 oM
 have lux:=hUx.len;have mrx:=mtx.rows;have mpx:=mtx.rpos;have mcx:=mtx.cpos;have m0x:=mtx.row 0 oM
 replace hs:=(((hs.a_SlO hAWx).add (K:=fun h_=>QVs h_ usx (ls.getD 0 lay0).W) hUx).a_SlO hABx)
 refine lHe 11 ((ts.getD 0 lvd).2.1) hs (((hs.f.2.2.2.2.2.1).el 0 oM).part 1 1) eWx ?_
 refine lX 12 AWx usx.length cWx 1 0 0 ((hs.f.2.2.1).ok oM) ?_
 obtain ⟨Arp,crp,erp,hcrp,hRrp⟩:=(hs.f.2.1).at_ 0 oM
 replace hs:=(hs.a_SlO hRrp)
 refine lHe 13 (usx.getD 0 undef) hs ((hs.f.2.2.2.1).el 0 oM) erp ?_
 refine lL hs [.v 14 (.int .i64 ((((ls.getD 0 lay0).W).getD 0 []).length:Nat))] ?_
 have hb4:(((xs.length:Nat):Int) == (((((ls.getD 0 lay0).W).getD 0 []).length:Nat):Int))=true:=beqT oM
 have phb4:=eq_of_beq hb4
 refine lB 15 hb4 ?_
 exact lL hs [.m 4 15] (lN (CG.ret (hs.ret [] (.bool true) rfl)))
theorem nSuitsF (A:Option Addr)(cap:Nat)(ts:List LV)(ls:List Lay)(d:Nat→Nat)(hO:Net3 ls d)(X:Option Addr)(c0:Nat)(xs:List Rat)(hx:xs.length≠d 0)(w:World)(h:Hp)(g:G w h)(hA:SlO 3 lvc lvd h A ts)(hN:NetL h ts ls)(hX:SlO 5 qc 0 h X xs) :
    Calls Tryz.prog 79 #[.agg #[.slice A ts.length cap],.slice X xs.length c0] w (Ret w h fun v _=>v=.bool false):=by
 have hs:=SS.start g
 replace hs:=(((hs.a_SlO hA).add (K:=fun h_=>NetL h_ ts ls) hN).a_SlO hX)
 have hl:=(hs.f.2.1).len
 obtain ⟨o1,o2⟩:=hO.len
 have o3:=hO.first
 refine go Tryz.func79 [(0,.agg #[.slice A ts.length cap]),(1,.slice X xs.length c0)] rfl ?_
 refine cSL (lA 2 28 ([.slice A ts.length cap]) hs (fun b1 w2 h3 hs=>?_))
 refine lL hs [.v 4 (.bool false)] (lNS (lL hs [.m 5 1,.v 6 (.int .i64 (xs.length:Nat)),.v 7 (.pointer (some ⟨b1,0,none⟩)),.o 8 (.slice A ts.length cap) 0 0 1] (lX 9 A ts.length cap 3 0 0 ((hs.f.2.2.1).ok oM) ?_)))
 refine lL hs [.v 10 (.pointer (some ⟨(aB A),aO A+0*3+1,none⟩))] ?_
 obtain ⟨ekx,⟨AWx,cWx,usx,eWx,hcWx,hAWx,hUx⟩,⟨ABx,cBx,eBx,hcBx,hABx⟩⟩:=(hs.f.2.1).at_ 0 oM
 obtain ⟨mtx,lbx,r12x,kdx⟩:=hO.lay 0 oM
 have lux:=hUx.len;have mrx:=mtx.rows;have mpx:=mtx.rpos;have mcx:=mtx.cpos;have m0x:=mtx.row 0 oM
 replace hs:=(((hs.a_SlO hAWx).add (K:=fun h_=>QVs h_ usx (ls.getD 0 lay0).W) hUx).a_SlO hABx)
 refine lHe 11 ((ts.getD 0 lvd).2.1) hs (((hs.f.2.2.2.2.2.1).el 0 oM).part 1 1) eWx ?_
 refine lX 12 AWx usx.length cWx 1 0 0 ((hs.f.2.2.1).ok oM) ?_
 obtain ⟨Arp,crp,erp,hcrp,hRrp⟩:=(hs.f.2.1).at_ 0 oM
 replace hs:=(hs.a_SlO hRrp)
 refine lHe 13 (usx.getD 0 undef) hs ((hs.f.2.2.2.1).el 0 oM) erp ?_
 refine lL hs [.v 14 (.int .i64 ((((ls.getD 0 lay0).W).getD 0 []).length:Nat))] ?_
 have hb4:(((xs.length:Nat):Int) == (((((ls.getD 0 lay0).W).getD 0 []).length:Nat):Int))=false:=beqF oM
 have phb4:=neOfBeq hb4
 refine lB 15 hb4 ?_
 exact lL hs [.m 4 15] (lN (CG.ret (hs.ret [] (.bool false) rfl)))
theorem nForward (A:Option Addr)(cap:Nat)(ts:List LV)(ls:List Lay)(d:Nat→Nat)(hO:Net3 ls d)(X:Option Addr)(c0:Nat)(xs:List Rat)(hx:xs.length=d 0)(hc0:xs.length≤c0)(hB:NetB ls xs)(w:World)(h:Hp)(g:G w h)(hA:SlO 3 lvc lvd h A ts)(hN:NetL h ts ls)(hX:SlO 5 qc 0 h X xs)(tb:Tab h) :
    Calls Tryz.prog 80 #[.agg #[.slice A ts.length cap],.slice X xs.length c0] w (Ret w h fun v h1=>∃ A1 c1 u1 A2 c2 u2 Ax cx,v=.agg #[.slice A1 (u1:List Value).length c1,.slice A2 (u2:List Value).length c2,.slice Ax (outq ls xs ls.length).length cx]∧u1.length≤c1∧u2.length≤c2∧(outq ls xs ls.length).length≤cx∧SlO 1 vc undef h1 A1 u1∧SlO 1 vc undef h1 A2 u2∧QVs h1 u1 (insq ls xs ls.length)∧QVs h1 u2 (sumsq ls xs ls.length)∧SlO 5 qc 0 h1 Ax (outq ls xs ls.length)):=by
 have hs:=SS.start g
 replace hs:=((((hs.a_SlO hA).add (K:=fun h_=>NetL h_ ts ls) hN).a_SlO hX).add (K:=fun h_=>Tab h_) tb)
 have hl:=(hs.f.2.2.1).len
 obtain ⟨o1,o2⟩:=hO.len
 have o3:=hO.first
 refine go Tryz.func80 [(0,.agg #[.slice A ts.length cap]),(1,.slice X xs.length c0)] rfl ?_
 refine cSL (lA 2 28 ([.slice A ts.length cap]) hs (fun b1 w2 h3 hs=>?_))
 refine lA 4 165 ([.slice none 0 0,.slice none 0 0,.slice none 0 0]) hs (fun b4 w5 h6 hs=>?_)
 refine lNS (lL hs [.m 14 1,.v 15 (.agg #[.slice none 0 0,.slice none 0 0,.slice X xs.length c0])] (lA 5 165 ([.slice none 0 0,.slice none 0 0,.slice none 0 0]) hs (fun b7 w8 h9 hs=>?_)))
 refine lP 0 0 ([.slice none 0 0,.slice none 0 0,.slice X xs.length c0]) hs (fun w10 hs=>?_)
 refine lN (CG.seq (cSL (lL hs [.v 16 (.pointer (some ⟨b1,0,none⟩)),.o 17 (.slice A ts.length cap) 2 0 1,.v 18 (.int .i64 (ts.length:Nat)),.v 19 (.int .i64 0)] (lN (CG.block ?_)))))
 replace hs:=hs.nil 75 1
 replace hs:=hs.nil 75 1
 refine cTo [(4,.pointer (some ⟨b4,0,none⟩)),(5,.pointer (some ⟨b7,0,none⟩)),(17,.slice A ts.length cap),(18,.int .i64 (ts.length:Nat)),(19,.int .i64 0)] ?_
 replace hs:=hs.add (K:=fun h_=>SlO 5 qc 0 h_ X (outq ls xs 0)) ((hs.f.2.1))
 replace hs:=hs.add (K:=fun h_=>QVs h_ ([]) (sumsq ls xs 0)) (QVs.nil)
 replace hs:=hs.add (K:=fun h_=>QVs h_ ([]) (insq ls xs 0)) (QVs.nil)
 refine CG.loop (fun μ_ Γ w_=>∃ (k:Nat) (s1A:Option Addr) (s1c:Nat) (s2A:Option Addr) (s2c:Nat) (l1:List Value) (l2:List Value) (Ax:Option Addr) (cx:Nat) (h_:Hp),μ_=ls.length-k∧Γ=[(4,.pointer (some ⟨b4,0,none⟩)),(5,.pointer (some ⟨b7,0,none⟩)),(17,.slice A ts.length cap),(18,.int .i64 (ts.length:Nat)),(19,.int .i64 (k:Nat))]∧SS w h w_ h_ [⟨b7,165,[.slice s1A ((l1).length) s1c,.slice s2A ((l2).length) s2c,.slice Ax ((outq ls xs k).length) cx]⟩,⟨b4,165,[.slice none 0 0,.slice none 0 0,.slice none 0 0]⟩,⟨b1,28,[.slice A ts.length cap]⟩] [⟨75,1,s1A,s1c,(l1).length,(l1).flatMap vc⟩,⟨75,1,s2A,s2c,(l2).length,(l2).flatMap vc⟩] [fun h_=>QVs h_ l1 (insq ls xs k),fun h_=>QVs h_ l2 (sumsq ls xs k),fun h_=>SlO 5 qc 0 h_ Ax (outq ls xs k),fun h_=>Tab h_,fun h_=>SlO 5 qc 0 h_ X xs,fun h_=>NetL h_ ts ls,fun h_=>SlO 3 lvc lvd h_ A ts]∧(k≤ls.length)∧(l1.length=k)∧(l2.length=k)∧((outq ls xs k).length≤cx)) _ ⟨0,none,0,none,0,[],[],X,c0,h9,rfl,rfl,hs.to _ _,Nat.zero_le _,rfl,rfl,hc0⟩ ?_
 rintro _ _ w11 ⟨k,s1A,s1c,s2A,s2c,l1,l2,Ax,cx,h12,hm13,rfl,hs,hk,hl1,hl2,hcx⟩
 have hlx:=outq_len hO hx k oM
 have hsm:=fun h0=>hO.small k h0
 refine cSL ?_
 cases hb14:(decide (((k:Nat):Int)<((ts.length:Nat):Int)))
 ·
  have phb14:=oF hb14
  refine lB 20 hb14 ?_
  refine lN (CG.seq (cIF (CG.exit ?_)))
  show CG _ _ _ _ _ _ _ _
  refine cSL ?_
  obtain ⟨h15,hs,hc16⟩:=hs.pubr 0 (A:=s1A) (c:=s1c) (l:=l1) (f:=vc) (ty:=75) (sz:=1) undef (fun _=>rfl)
  obtain ⟨h18,hs,hc19⟩:=hs.pubr 0 (A:=s2A) (c:=s2c) (l:=l2) (f:=vc) (ty:=75) (sz:=1) undef (fun _=>rfl)
  refine lL hs [.o 83 (.agg #[.slice s1A ((l1).length) s1c,.slice s2A ((l2).length) s2c,.slice Ax ((outq ls xs k).length) cx]) 0 0 3] (lP 1 0 ([.slice s1A ((l1).length) s1c,.slice s2A ((l2).length) s2c,.slice Ax ((outq ls xs k).length) cx]) hs (fun w21 hs=>?_))
  refine lN (CG.ret ?_)
  have hkn:k=ls.length:=by omega
  exact hs.ret [(1,0,3)] (.agg #[.slice s1A ((l1).length) s1c,.slice s2A ((l2).length) s2c,.slice Ax ((outq ls xs k).length) cx]) (by rw[←hkn];exact ⟨_,_,l1,_,_,l2,_,_,rfl,hc16,hc19,hcx,(hs.f.2.1),(hs.f.1),(hs.f.2.2.1),(hs.f.2.2.2.1),(hs.f.2.2.2.2.1)⟩)
 have phb14:=oT hb14
 refine lB 20 hb14 ?_
 refine lN (CG.seq (cIT (CG.skipN (CG.seq (CG.block (cSL (lX 21 A ts.length cap 3 (k:Nat) k ((hs.f.2.2.2.2.2.2.1).ok oM) ?_)))))))
 obtain ⟨ekx,⟨AWx,cWx,usx,eWx,hcWx,hAWx,hUx⟩,⟨ABx,cBx,eBx,hcBx,hABx⟩⟩:=(hs.f.2.2.2.2.2.1).at_ k oM
 obtain ⟨mtx,lbx,r12x,kdx⟩:=hO.lay k oM
 have lux:=hUx.len;have mrx:=mtx.rows;have mpx:=mtx.rpos;have mcx:=mtx.cpos;have m0x:=mtx.row 0 oM
 replace hs:=(((hs.a_SlO hAWx).add (K:=fun h_=>QVs h_ usx (ls.getD k lay0).W) hUx).a_SlO hABx)
 refine lHe 22 (.agg #[.int .i64 ((ts.getD k lvd).1),(ts.getD k lvd).2.1,(ts.getD k lvd).2.2]) hs ((hs.f.2.2.2.2.2.2.2.2.2.1).el k oM) (by rw[ekx,eWx,eBx]) ?_
 refine lA 7 77 ([.int .i64 0,.slice none 0 0,.slice none 0 0]) hs (fun b22 w23 h24 hs=>?_)
 refine lP 0 0 ([.int .i64 ((ls.getD k lay0).k),.slice AWx usx.length cWx,.slice ABx ((ls.getD k lay0).B.length) cBx]) hs (fun w25 hs=>?_)
 refine lNS (lL hs [.v 23 (.pointer (some ⟨b22,1,none⟩)),.o 24 (.slice AWx usx.length cWx) 0 1 1,.v 25 (.int .i64 (usx.length:Nat))] (lK 26 73 usx.length 5 56 (.agg #[.bool false,.int .u64 0,.string ⟨#[]⟩,.int .u64 0,.string ⟨#[]⟩]) qc 0 hs (fun b26 w27 h28 hs=>?_)))
 have hl29:(List.replicate usx.length 0).length=usx.length:=by simp
 refine lL hs [.m 8 26] (lNS (lL hs [.v 27 (.pointer (some ⟨b22,1,none⟩)),.o 28 (.slice AWx usx.length cWx) 1 1 1,.v 29 (.int .i64 (usx.length:Nat))] (lK 30 73 usx.length 5 56 (.agg #[.bool false,.int .u64 0,.string ⟨#[]⟩,.int .u64 0,.string ⟨#[]⟩]) qc 0 hs (fun b30 w31 h32 hs=>?_))))
 have hl33:(List.replicate usx.length 0).length=usx.length:=by simp
 refine lL hs [.m 9 30] (lN (CG.seq (cSL (lL hs [.v 31 (.pointer (some ⟨b22,1,none⟩)),.o 32 (.slice AWx usx.length cWx) 2 1 1,.v 33 (.int .i64 (usx.length:Nat)),.v 34 (.int .i64 0)] (lN (CG.block (cTo [(4,.pointer (some ⟨b4,0,none⟩)),(5,.pointer (some ⟨b7,0,none⟩)),(17,.slice A ts.length cap),(18,.int .i64 (ts.length:Nat)),(19,.int .i64 (k:Nat)),(7,.pointer (some ⟨b22,0,none⟩)),(8,.slice (some ⟨b26,0,none⟩) usx.length usx.length),(9,.slice (some ⟨b30,0,none⟩) usx.length usx.length),(32,.slice AWx usx.length cWx),(33,.int .i64 (usx.length:Nat)),(34,.int .i64 0)] ?_)))))))
 refine CG.loop (fun μ_ Γ w_=>∃ (i:Nat) (ql:List Rat) (pl:List Rat) (h_:Hp),μ_=usx.length-i∧Γ=[(4,.pointer (some ⟨b4,0,none⟩)),(5,.pointer (some ⟨b7,0,none⟩)),(17,.slice A ts.length cap),(18,.int .i64 (ts.length:Nat)),(19,.int .i64 (k:Nat)),(7,.pointer (some ⟨b22,0,none⟩)),(8,.slice (some ⟨b26,0,none⟩) usx.length usx.length),(9,.slice (some ⟨b30,0,none⟩) usx.length usx.length),(32,.slice AWx usx.length cWx),(33,.int .i64 (usx.length:Nat)),(34,.int .i64 (i:Nat))]∧SS w h w_ h_ [⟨b30,73,(pl).flatMap qc⟩,⟨b26,73,(ql).flatMap qc⟩,⟨b22,77,[.int .i64 ((ls.getD k lay0).k),.slice AWx usx.length cWx,.slice ABx ((ls.getD k lay0).B.length) cBx]⟩,⟨b7,165,[.slice s1A ((l1).length) s1c,.slice s2A ((l2).length) s2c,.slice Ax ((outq ls xs k).length) cx]⟩,⟨b4,165,[.slice none 0 0,.slice none 0 0,.slice none 0 0]⟩,⟨b1,28,[.slice A ts.length cap]⟩] [⟨75,1,s1A,s1c,(l1).length,(l1).flatMap vc⟩,⟨75,1,s2A,s2c,(l2).length,(l2).flatMap vc⟩] [fun h_=>SlO 5 qc 0 h_ ABx (ls.getD k lay0).B,fun h_=>QVs h_ usx (ls.getD k lay0).W,fun h_=>SlO 1 vc undef h_ AWx usx,fun h_=>QVs h_ l1 (insq ls xs k),fun h_=>QVs h_ l2 (sumsq ls xs k),fun h_=>SlO 5 qc 0 h_ Ax (outq ls xs k),fun h_=>Tab h_,fun h_=>SlO 5 qc 0 h_ X xs,fun h_=>NetL h_ ts ls,fun h_=>SlO 3 lvc lvd h_ A ts]∧(i≤usx.length)∧(ql.length=usx.length)∧(pl.length=usx.length)∧(∀ j,j<i→ql.getD j 0=dotq ((ls.getD k lay0).W.getD j []) (outq ls xs k) (outq ls xs k).length+(ls.getD k lay0).B.getD j 0)∧(∀ j,j<i→pl.getD j 0=act (ls.getD k lay0).k (dotq ((ls.getD k lay0).W.getD j []) (outq ls xs k) (outq ls xs k).length+(ls.getD k lay0).B.getD j 0))) _ ⟨0,List.replicate usx.length 0,List.replicate usx.length 0,h32,rfl,rfl,hs.to _ _,Nat.zero_le _,by simp,by simp,fun j hj=>absurd hj (Nat.not_lt_zero j),fun j hj=>absurd hj (Nat.not_lt_zero j)⟩ ?_
 rintro _ _ w34 ⟨i,ql,pl,h35,hm36,rfl,hs,hi,hlq,hlp,hq,hp⟩
 refine cSL ?_
 cases hb37:(decide (((i:Nat):Int)<((usx.length:Nat):Int)))
 ·
  have phb37:=oF hb37
  refine lB 35 hb37 ?_
  refine lN (CG.seq (cIF (CG.exit ?_)))
  show CG _ _ _ _ _ _ _ _
  refine cSL (lL hs [.v 67 (.pointer (some ⟨b7,0,none⟩)),.o 68 (.slice s1A ((l1).length) s1c) 3 0 1,.v 69 (.pointer (some ⟨b7,2,none⟩)),.o 70 (.slice Ax ((outq ls xs k).length) cx) 3 2 1] (lR 71 75 1 ([.slice Ax ((outq ls xs k).length) cx]) hs (fun b38 w39 h40 hs=>?_)))
  refine lY 72 0 75 1 s1c s1A l1 vc (.slice Ax ((outq ls xs k).length) cx:Value) 24 b38 (.slice none 0 0) hs (hs.f.1) (fun A42 c43 w44 h45 hs=>?_)
  refine lL hs [.v 73 (.pointer (some ⟨b7,0,none⟩))] (lP 3 0 ([.slice A42 ((l1++[(.slice Ax ((outq ls xs k).length) cx:Value)]).length) c43]) hs (fun w47 hs=>?_))
  refine lNS ?_
  have hql:ql=sumq (ls.getD k lay0) (outq ls xs k):=map_of hq (show i=(ls.getD k lay0).W.length by omega) (show ql.length=(ls.getD k lay0).W.length by omega)
  have hlsq:(sumq (ls.getD k lay0) (outq ls xs k)).length=usx.length:=by rw[←hql];exact hlq
  rw[hql] at hs
  obtain ⟨h48,hs,sg49,lo50,bc51⟩:=hs.pub 1
  replace hs:=(hs.to [⟨b30,73,(pl).flatMap qc⟩,⟨b22,77,[.int .i64 ((ls.getD k lay0).k),.slice AWx usx.length cWx,.slice ABx ((ls.getD k lay0).B.length) cBx]⟩,⟨b7,165,[.slice A42 ((l1++[(.slice Ax ((outq ls xs k).length) cx:Value)]).length) c43,.slice s2A ((l2).length) s2c,.slice Ax ((outq ls xs k).length) cx]⟩,⟨b4,165,[.slice none 0 0,.slice none 0 0,.slice none 0 0]⟩,⟨b1,28,[.slice A ts.length cap]⟩] [⟨75,1,A42,c43,(l1++[(.slice Ax ((outq ls xs k).length) cx:Value)]).length,(l1++[(.slice Ax ((outq ls xs k).length) cx:Value)]).flatMap vc⟩,⟨75,1,s2A,s2c,(l2).length,(l2).flatMap vc⟩]).a_SlO (SlO.of_flat (sz:=5) (f:=qc) (d:=0) (b:=b26) (o:=0) (l:=sumq (ls.getD k lay0) (outq ls xs k)) (fun _=>rfl) sg49)
  refine lL hs [.v 74 (.pointer (some ⟨b7,1,none⟩)),.o 75 (.slice s2A ((l2).length) s2c) 2 1 1,.m 76 8] (lR 77 75 1 ([.slice (some ⟨b26,0,none⟩) usx.length usx.length]) hs (fun b53 w54 h55 hs=>?_))
  refine lY 78 1 75 1 s2c s2A l2 vc (.slice (some ⟨b26,0,none⟩) usx.length usx.length:Value) 24 b53 (.slice none 0 0) hs (hs.f.1) (fun A57 c58 w59 h60 hs=>?_)
  refine lL hs [.v 79 (.pointer (some ⟨b7,1,none⟩))] (lP 2 1 ([.slice A57 ((l2++[(.slice (some ⟨b26,0,none⟩) usx.length usx.length:Value)]).length) c58]) hs (fun w62 hs=>?_))
  refine lN (CG.listed ?_)
  have hpl:pl=outq ls xs (k+1):=map_of hp (show i=(ls.getD k lay0).W.length by omega) (show pl.length=(ls.getD k lay0).W.length by omega)
  have hll:usx.length=(outq ls xs (k+1)).length:=by rw[←hpl];omega
  rw[hpl] at hs
  obtain ⟨h63,hs,sg64,lo65,bc66⟩:=hs.pub 0
  replace hs:=(hs.to [⟨b22,77,[.int .i64 ((ls.getD k lay0).k),.slice AWx usx.length cWx,.slice ABx ((ls.getD k lay0).B.length) cBx]⟩,⟨b7,165,[.slice A42 ((l1++[(.slice Ax ((outq ls xs k).length) cx:Value)]).length) c43,.slice A57 ((l2++[(.slice (some ⟨b26,0,none⟩) usx.length usx.length:Value)]).length) c58,.slice Ax ((outq ls xs k).length) cx]⟩,⟨b4,165,[.slice none 0 0,.slice none 0 0,.slice none 0 0]⟩,⟨b1,28,[.slice A ts.length cap]⟩] [⟨75,1,A42,c43,(l1++[(.slice Ax ((outq ls xs k).length) cx:Value)]).length,(l1++[(.slice Ax ((outq ls xs k).length) cx:Value)]).flatMap vc⟩,⟨75,1,A57,c58,(l2++[(.slice (some ⟨b26,0,none⟩) usx.length usx.length:Value)]).length,(l2++[(.slice (some ⟨b26,0,none⟩) usx.length usx.length:Value)]).flatMap vc⟩]).a_SlO (SlO.of_flat (sz:=5) (f:=qc) (d:=0) (b:=b30) (o:=0) (l:=outq ls xs (k+1)) (fun _=>rfl) sg64)
  refine lV 80 (.slice (some ⟨b30,0,none⟩) ((outq ls xs (k+1)).length) usx.length) ?_ (hr:=rval kR (by rw[←hll]))
  refine lL hs [.v 81 (.pointer (some ⟨b7,2,none⟩))] (lP 1 2 ([.slice (some ⟨b30,0,none⟩) ((outq ls xs (k+1)).length) usx.length]) hs (fun w68 hs=>?_))
  refine lN (CG.listed (lIn 82 ((k:Nat)+1) (k+1) ?_))
  refine lL hs [.m 19 82] (lD ?_)
  intro a_ ka
  have q69:QVs h63 (l1++[(.slice Ax ((outq ls xs k).length) cx:Value)]) (insq ls xs (k+1)):=(by rw[insq_succ];exact (hs.f.2.2.2.2.2.2.2.1).snoc ⟨_,_,rfl,hcx,(hs.f.2.2.2.2.2.2.2.2.2.1)⟩)
  have q70:QVs h63 (l2++[(.slice (some ⟨b26,0,none⟩) usx.length usx.length:Value)]) (sumsq ls xs (k+1)):=(by rw[sumsq_succ];exact (hs.f.2.2.2.2.2.2.2.2.1).snoc ⟨_,usx.length,by rw[hlsq],Nat.le_of_eq hlsq,(hs.f.2.2.1)⟩)
  have q71:SlO 5 qc 0 h63 (some ⟨b30,0,none⟩) (outq ls xs (k+1)):=(hs.f.1)
  have q72:(k+1)≤ls.length:=by omega
  have q73:(l1++[(.slice Ax ((outq ls xs k).length) cx:Value)]).length=(k+1):=by simp;omega
  have q74:(l2++[(.slice (some ⟨b26,0,none⟩) usx.length usx.length:Value)]).length=(k+1):=by simp;omega
  have q75:(outq ls xs (k+1)).length≤usx.length:=by omega
  replace hs:=(((hs.tl.tl.tl.tl.tl.tl.tl.tl.tl.tl.add (K:=fun h_=>SlO 5 qc 0 h_ (some ⟨b30,0,none⟩) (outq ls xs (k+1))) q71).add (K:=fun h_=>QVs h_ (l2++[(.slice (some ⟨b26,0,none⟩) usx.length usx.length:Value)]) (sumsq ls xs (k+1))) q70).add (K:=fun h_=>QVs h_ (l1++[(.slice Ax ((outq ls xs k).length) cx:Value)]) (insq ls xs (k+1))) q69)
  replace hs:=hs.drop 1 0
  refine ⟨_,_,?_,⟨k+1,A42,c43,A57,c58,l1++[(.slice Ax ((outq ls xs k).length) cx:Value)],l2++[(.slice (some ⟨b26,0,none⟩) usx.length usx.length:Value)],some ⟨b30,0,none⟩,usx.length,h63,rfl,rfl,hs.to _ _,q72,q73,q74,q75⟩,ka.to [(4,.pointer (some ⟨b4,0,none⟩)),(5,.pointer (some ⟨b7,0,none⟩)),(17,.slice A ts.length cap),(18,.int .i64 (ts.length:Nat)),(19,.int .i64 ((k+1):Nat))] kR⟩
  omega
 have phb37:=oT hb37
 refine lB 35 hb37 ?_
 refine lN (CG.seq (cIT (CG.skipN (CG.seq (CG.block (cSL (lL hs [.m 36 34] (lX 37 AWx usx.length cWx 1 (i:Nat) i ((hs.f.2.2.1).ok oM) ?_))))))))
 obtain ⟨Arp,crp,erp,hcrp,hRrp⟩:=(hs.f.2.1).at_ i oM
 replace hs:=(hs.a_SlO hRrp)
 refine lHe 38 (usx.getD i undef) hs ((hs.f.2.2.2.1).el i oM) erp ?_
 refine lL hs [.m 10 36,.m 11 38] (lNS (lL hs [.m 40 11,.v 41 (.pointer (some ⟨b7,2,none⟩)),.o 42 (.slice Ax ((outq ls xs k).length) cx) 3 2 1] (lC 43 hs (fDotN Arp crp ((ls.getD k lay0).W.getD i []) Ax cx (outq ls xs k) (outq ls xs k).length _ _ rfl rfl (by rw[mtx.row i oM,hlx]) rfl 1000000 1000000 oM (dot_b1 (show (outq ls xs k).length≤20 by omega)) (hB.w k i) (hB.x k oM) _ _ hs.g (hs.f.1) (hs.f.2.2.2.2.2.2.1) (hs.f.2.2.2.2.2.2.2.1)) ?_)))
 rintro _ w76 h77 hs rfl
 have hdt:LQ 41000000 (dotq ((ls.getD k lay0).W.getD i []) (outq ls xs k) (outq ls xs k).length):=(LQ.dot (n:=(outq ls xs k).length) (fun j _=>hB.w k i j) (fun j _=>hB.x k oM j) _ (Nat.le_refl _)).mono (dot_b2 (show (outq ls xs k).length≤20 by omega))
 refine lL hs [.m 39 43,.v 44 (qv (dotq ((ls.getD k lay0).W.getD i []) (outq ls xs k) (outq ls xs k).length)),.v 45 (.bool true)] (lA 12 73 ([.bool false,.int .u64 0,.string ⟨#[]⟩,.int .u64 0,.string ⟨#[]⟩]) hs (fun b78 w79 h80 hs=>?_))
 refine lP 0 0 (qc (dotq ((ls.getD k lay0).W.getD i []) (outq ls xs k) (outq ls xs k).length)) hs (fun w81 hs=>?_)
 refine lL hs [.m 13 45] (lN (CG.seq (cR 9 [] mixed hs al_nil ?_)))
 refine eV 0 46 (.slice (some ⟨b26,0,none⟩) usx.length usx.length) ?_
 refine eV 1 47 (.int .i64 (i:Nat)) ?_
 refine eO 2 48 [(0,0,5)] (qv (dotq ((ls.getD k lay0).W.getD i []) (outq ls xs k) (outq ls xs k).length)) hs ?_
 refine eV 3 49 (.pointer (some ⟨b22,2,none⟩)) ?_
 refine eO 4 50 [(3,2,1)] (.slice ABx ((ls.getD k lay0).B.length) cBx) hs ?_
 refine eV 5 51 (.int .i64 (i:Nat)) ?_
 refine eX 6 52 ABx ((ls.getD k lay0).B.length) cBx 5 (i:Nat) i ((hs.f.2.1).ok oM) ?_
 refine eH 7 53 (qv (((ls.getD k lay0).B).getD i 0)) hs ((hs.f.2.1).el i oM) ?_
 have hq82:=LQ.add hdt (hB.b k i)
 refine eC 8 54 hs (fun _ _ hs=>fAdd (dotq ((ls.getD k lay0).W.getD i []) (outq ls xs k) (outq ls xs k).length) (((ls.getD k lay0).B).getD i 0) (LQ.mono hdt oM) (LQ.mono (hB.b k i) oM) _ _ hs.g (hs.f.2.2.2.2.2.2.2.1)) ?_
 rintro _ _ _ w83 h84 hs rfl
 refine eD0 hs (fun w85 h86 hs=>?_)
 refine tX 9 55 (some ⟨b26,0,none⟩) usx.length usx.length 5 (i:Nat) i rfl ?_
 refine tW 10 2 ql qc 5 i ((dotq ((ls.getD k lay0).W.getD i []) (outq ls xs k) (outq ls xs k).length)+(((ls.getD k lay0).B).getD i 0)) hs oM (fun w87 hs=>?_)
 have hl88:((ql).set i ((dotq ((ls.getD k lay0).W.getD i []) (outq ls xs k) (outq ls xs k).length)+(((ls.getD k lay0).B).getD i 0))).length=usx.length:=by rw[List.length_set];exact hlq
 replace hs:=hs.to [⟨b78,73,qc (dotq ((ls.getD k lay0).W.getD i []) (outq ls xs k) (outq ls xs k).length)⟩,⟨b30,73,(pl).flatMap qc⟩,⟨b26,73,((ql).set i ((dotq ((ls.getD k lay0).W.getD i []) (outq ls xs k) (outq ls xs k).length)+(((ls.getD k lay0).B).getD i 0))).flatMap qc⟩,⟨b22,77,[.int .i64 ((ls.getD k lay0).k),.slice AWx usx.length cWx,.slice ABx ((ls.getD k lay0).B.length) cBx]⟩,⟨b7,165,[.slice s1A ((l1).length) s1c,.slice s2A ((l2).length) s2c,.slice Ax ((outq ls xs k).length) cx]⟩,⟨b4,165,[.slice none 0 0,.slice none 0 0,.slice none 0 0]⟩,⟨b1,28,[.slice A ts.length cap]⟩] [⟨75,1,s1A,s1c,(l1).length,(l1).flatMap vc⟩,⟨75,1,s2A,s2c,(l2).length,(l2).flatMap vc⟩]
 refine tN (cR 9 [] mixed hs al_nil ?_)
 refine eV 0 56 (.slice (some ⟨b30,0,none⟩) usx.length usx.length) ?_
 refine eV 1 57 (.int .i64 (i:Nat)) ?_
 refine eV 2 58 (.pointer (some ⟨b22,0,none⟩)) ?_
 refine eO 3 59 [(3,0,1)] (.int .i64 ((ls.getD k lay0).k)) hs ?_
 refine eV 4 60 (.slice (some ⟨b26,0,none⟩) usx.length usx.length) ?_
 refine eV 5 61 (.int .i64 (i:Nat)) ?_
 refine eX 6 62 (some ⟨b26,0,none⟩) usx.length usx.length 5 (i:Nat) i rfl ?_
 refine eQ 7 63 2 ((ql).set i ((dotq ((ls.getD k lay0).W.getD i []) (outq ls xs k) (outq ls xs k).length)+(((ls.getD k lay0).B).getD i 0))) qc 5 0 i (qv (((ql).set i ((dotq ((ls.getD k lay0).W.getD i []) (outq ls xs k) (outq ls xs k).length)+(((ls.getD k lay0).B).getD i 0))).getD i 0)) hs oM ?_
 refine eC 8 64 hs (fun _ _ hs=>nAct _ kdx (((ql).set i ((dotq ((ls.getD k lay0).W.getD i []) (outq ls xs k) (outq ls xs k).length)+(((ls.getD k lay0).B).getD i 0))).getD i 0) (by rw[getD_set_self oM];exact LQ.mono (LQ.add hdt (hB.b k i)) oM) _ _ hs.g (hs.f.2.2.2.2.2.2.2.1)) ?_
 rintro _ _ _ w89 h90 hs rfl
 refine eD0 hs (fun w91 h92 hs=>?_)
 refine tX 9 65 (some ⟨b30,0,none⟩) usx.length usx.length 5 (i:Nat) i rfl ?_
 refine tW 10 1 pl qc 5 i (act (ls.getD k lay0).k (((ql).set i ((dotq ((ls.getD k lay0).W.getD i []) (outq ls xs k) (outq ls xs k).length)+(((ls.getD k lay0).B).getD i 0))).getD i 0)) hs oM (fun w93 hs=>?_)
 have hl94:((pl).set i (act (ls.getD k lay0).k (((ql).set i ((dotq ((ls.getD k lay0).W.getD i []) (outq ls xs k) (outq ls xs k).length)+(((ls.getD k lay0).B).getD i 0))).getD i 0))).length=usx.length:=by rw[List.length_set];exact hlp
 replace hs:=hs.to [⟨b78,73,qc (dotq ((ls.getD k lay0).W.getD i []) (outq ls xs k) (outq ls xs k).length)⟩,⟨b30,73,((pl).set i (act (ls.getD k lay0).k (((ql).set i ((dotq ((ls.getD k lay0).W.getD i []) (outq ls xs k) (outq ls xs k).length)+(((ls.getD k lay0).B).getD i 0))).getD i 0))).flatMap qc⟩,⟨b26,73,((ql).set i ((dotq ((ls.getD k lay0).W.getD i []) (outq ls xs k) (outq ls xs k).length)+(((ls.getD k lay0).B).getD i 0))).flatMap qc⟩,⟨b22,77,[.int .i64 ((ls.getD k lay0).k),.slice AWx usx.length cWx,.slice ABx ((ls.getD k lay0).B.length) cBx]⟩,⟨b7,165,[.slice s1A ((l1).length) s1c,.slice s2A ((l2).length) s2c,.slice Ax ((outq ls xs k).length) cx]⟩,⟨b4,165,[.slice none 0 0,.slice none 0 0,.slice none 0 0]⟩,⟨b1,28,[.slice A ts.length cap]⟩] [⟨75,1,s1A,s1c,(l1).length,(l1).flatMap vc⟩,⟨75,1,s2A,s2c,(l2).length,(l2).flatMap vc⟩]
 refine tN (cTo [(4,.pointer (some ⟨b4,0,none⟩)),(5,.pointer (some ⟨b7,0,none⟩)),(17,.slice A ts.length cap),(18,.int .i64 (ts.length:Nat)),(19,.int .i64 (k:Nat)),(7,.pointer (some ⟨b22,0,none⟩)),(8,.slice (some ⟨b26,0,none⟩) usx.length usx.length),(9,.slice (some ⟨b30,0,none⟩) usx.length usx.length),(32,.slice AWx usx.length cWx),(33,.int .i64 (usx.length:Nat)),(34,.int .i64 (i:Nat))] ?_)
 refine CG.listed (lIn 66 ((i:Nat)+1) (i+1) ?_)
 refine lL hs [.m 34 66] (lD ?_)
 intro a_ ka
 have q95:(i+1)≤usx.length:=by omega
 have q96:((ql).set i ((dotq ((ls.getD k lay0).W.getD i []) (outq ls xs k) (outq ls xs k).length)+(((ls.getD k lay0).B).getD i 0))).length=usx.length:=hl88
 have q97:((pl).set i (act (ls.getD k lay0).k (((ql).set i ((dotq ((ls.getD k lay0).W.getD i []) (outq ls xs k) (outq ls xs k).length)+(((ls.getD k lay0).B).getD i 0))).getD i 0))).length=usx.length:=hl94
 have q98:∀ j,j<(i+1)→((ql).set i ((dotq ((ls.getD k lay0).W.getD i []) (outq ls xs k) (outq ls xs k).length)+(((ls.getD k lay0).B).getD i 0))).getD j 0=dotq ((ls.getD k lay0).W.getD j []) (outq ls xs k) (outq ls xs k).length+(ls.getD k lay0).B.getD j 0:=(fstep hq oM rfl)
 have q99:∀ j,j<(i+1)→((pl).set i (act (ls.getD k lay0).k (((ql).set i ((dotq ((ls.getD k lay0).W.getD i []) (outq ls xs k) (outq ls xs k).length)+(((ls.getD k lay0).B).getD i 0))).getD i 0))).getD j 0=act (ls.getD k lay0).k (dotq ((ls.getD k lay0).W.getD j []) (outq ls xs k) (outq ls xs k).length+(ls.getD k lay0).B.getD j 0):=(fstep hp oM (congrArg _ (getD_set_self oM)))
 replace hs:=hs.tl
 replace hs:=hs.drop 1 0
 refine ⟨_,_,?_,⟨i+1,(ql).set i ((dotq ((ls.getD k lay0).W.getD i []) (outq ls xs k) (outq ls xs k).length)+(((ls.getD k lay0).B).getD i 0)),(pl).set i (act (ls.getD k lay0).k (((ql).set i ((dotq ((ls.getD k lay0).W.getD i []) (outq ls xs k) (outq ls xs k).length)+(((ls.getD k lay0).B).getD i 0))).getD i 0)),h92,rfl,rfl,hs.to _ _,q95,q96,q97,q98,q99⟩,ka.to [(4,.pointer (some ⟨b4,0,none⟩)),(5,.pointer (some ⟨b7,0,none⟩)),(17,.slice A ts.length cap),(18,.int .i64 (ts.length:Nat)),(19,.int .i64 (k:Nat)),(7,.pointer (some ⟨b22,0,none⟩)),(8,.slice (some ⟨b26,0,none⟩) usx.length usx.length),(9,.slice (some ⟨b30,0,none⟩) usx.length usx.length),(32,.slice AWx usx.length cWx),(33,.int .i64 (usx.length:Nat)),(34,.int .i64 ((i+1):Nat))] kR⟩
 omega
def slq (k:Int)(x d:Rat):Rat:=if k=1 then d else if k=2 then (if 0<x then d else 0) else d/((((1:Int):Rat)+qabs x)*(((1:Int):Rat)+qabs x))
theorem num_pos' {x:Rat}:0<x↔0<x.num:=by rw[Rat.lt_iff];simp
theorem rep_zero {n:Nat}:∀ j,(List.replicate n (0:Rat)).getD j 0=0:=fun j=>by
  rw[List.getD_eq_getElem?_getD,List.getElem?_replicate];split<;>rfl
theorem dotq_zero (a b:List Rat)(h:∀ j,b.getD j 0=0):∀ n,dotq a b n=0
  | 0=>rfl
  | n+1=>by show dotq a b n+_*_=0;rw[dotq_zero a b h n,h,Rat.mul_zero,Rat.add_zero]
theorem chkFrom_ok {ls:List Lay}:∀ (n k:Nat),chkFrom ls k n=0→∀ i,k≤i→i<k+n→Fine ls i∧Kd ls i
  | 0,k,_,i,h1,h2=>absurd h2 oM
  | n + 1,k,h,i,h1,h2=>by
    unfold chkFrom at h
    split at h
    · rename_i hf
      split at h
      · rename_i hd
        by_cases e:i=k
        · subst e;exact ⟨hf,hd⟩
        · exact chkFrom_ok n (k+1) h i oM oM
      · exact absurd h kD
    · exact absurd h kD
def dOf (ls:List Lay)(i:Nat):Nat:=if i=0 then ((ls.getD 0 lay0).W.getD 0 []).length else (ls.getD (i-1) lay0).W.length
theorem chk_net3 {ls:List Lay}(h:chkq ls=0):Net3 ls (dOf ls):=by
  unfold chkq at h
  split at h
  · rename_i hl
    have H:=chkFrom_ok ls.length 0 h
    refine ⟨hl,?_,fun i hi=>?_⟩
    · obtain ⟨⟨_,_,_,f4,_⟩,_⟩:=H 0 oM oM
      show (if 0=0 then _ else _)≤20
      rw[if_pos rfl];exact f4 rfl
    · obtain ⟨⟨f1,f2,f3,f4,f5⟩,k1,k2⟩:=H i oM oM
      obtain ⟨r1,r2,r3⟩:=f1
      have e1:dOf ls (i+1)=(ls.getD i lay0).W.length:=by show (if i+1=0 then _ else _)=_;rw[if_neg oM];rfl
      have e2:((ls.getD i lay0).W.getD 0 []).length=dOf ls i:=by
        by_cases h0:i=0
        · subst h0;show _=(if 0=0 then _ else _);rw[if_pos rfl]
        · rw[f5 oM];show _=(if i=0 then _ else _);rw[if_neg h0]
      rw[e1]
      refine ⟨⟨rfl,r1,by rw[←e2];exact r2,fun j hj=>by rw[←e2];exact r3 j hj⟩,f3,f2,by omega⟩
  · exact absurd h kD
structure LaySz (L:Lay):Prop where
  rl:L.W.length≤8
  rls:∀ i,(L.W.getD i []).length≤8
  bl:L.B.length≤8
  w:∀ i j,LQ 1 ((L.W.getD i []).getD j 0)
  b:∀ i,LQ 1 (L.B.getD i 0)
  b4:L.B.length≤4
  w4:(L.W.getD 0 []).length≤4
theorem LaySz.len {L:Lay}(h:LaySz L):LayLen L:=⟨by have:=h.rl;omega,fun i _=>by have:=h.rls i;omega,by have:=h.bl;omega⟩
theorem lq0 {k:Nat}(h:1≤k):LQ k 0:=(LQ.lit (z:=0) kD).mono h
def grow:Nat→Nat
  | 0=>1
  | k+1=>16*grow k+40
theorem layq_lq {L:Lay}{x:List Rat}{m:Nat}(h:LaySz L)(hx:∀ j,LQ m (x.getD j 0))(hl:x.length≤8)(hm:1≤m)(j:Nat):LQ (16*m+40) ((layq L x).getD j 0):=by
  unfold layq
  by_cases hj:j<L.W.length
  · rw[List.getD_eq_getElem?_getD,List.getElem?_eq_getElem (by simpa using hj),List.getElem_map,List.getElem_range]
    show LQ _ (act _ _)
    have h1:=LQ.dot (n:=x.length) (fun i _=>h.w j i) (fun i _=>hx i) x.length (Nat.le_refl _)
    have h2:=(h1.add (h.b j)).mono (l:=8*m+19) (by
      have:x.length*(1+m+1)≤8*(1+m+1):=Nat.mul_le_mul_right _ hl
      omega)
    exact (LQ.act _ h2 oM).mono oM
  · rw[List.getD_eq_getElem?_getD,List.getElem?_eq_none (by simpa using hj)]
    exact lq0 oM
theorem outq_lq {ls:List Lay}{d:Nat→Nat}(o:Net3 ls d)(hL:∀ k,LaySz (ls.getD k lay0)){xs:List Rat}(hx:xs.length=d 0)(hq:∀ j,LQ 1 (xs.getD j 0)):∀ k,k≤ls.length→∀ j,LQ (grow k) ((outq ls xs k).getD j 0)
  | 0,_,j=>hq j
  | k + 1,hk,j=>by
    show LQ (16*grow k+40) ((layq _ _).getD j 0)
    refine layq_lq (hL k) (outq_lq o hL hx hq k oM) ?_ ?_ j
    · rw[outq_len o hx k oM]
      have h0:=(o.lay k oM).1.row 0 (o.lay k oM).1.rpos
      have:=(hL k).rls 0
      omega
    · cases k with
      | zero=>exact Nat.le_refl _
      | succ k=>show 1≤16*grow k+40;omega
theorem grow_le (k:Nat)(h:k≤4):grow k≤1000000:=by
  have:k=0∨k=1∨k=2∨k=3∨k=4:=by omega
  rcases this with rfl|rfl|rfl|rfl|rfl<;>decide
theorem lay0_sz:LaySz lay0:=⟨by decide,fun i=>by simp[lay0],by decide,fun i j=>by simp[lay0];exact lq0 oM,fun i=>by simp[lay0];exact lq0 oM,by decide,by decide⟩
theorem netB {ls:List Lay}{d:Nat→Nat}(o:Net3 ls d)(hL:∀ k,LaySz (ls.getD k lay0)){xs:List Rat}(hx:xs.length=d 0)(hq:∀ j,LQ 1 (xs.getD j 0)):NetB ls xs :=
  ⟨fun k i j=>((hL k).w i j).mono oM,fun k i=>((hL k).b i).mono oM,fun k hk j=>(outq_lq o hL hx hq k hk j).mono (grow_le k (by have:=o.len.2;omega))⟩
noncomputable def ansE (ls:List Lay)(xs:List Rat):Int:=if chkq ls=0 then (if xs.length=dOf ls 0 then 0 else 5) else 1
noncomputable def ansL (ls:List Lay)(xs:List Rat):List Rat:=if chkq ls=0∧xs.length=dOf ls 0 then outq ls xs ls.length else []
def topF (l:List Rat):Nat→Nat
  | 0=>0
  | k+1=>if 0<cmpR (l.getD k 0) (l.getD (topF l k) 0) then k else topF l k
theorem topF_le (l:List Rat):∀ k,topF l k≤k
  | 0=>Nat.le_refl _
  | k+1=>by unfold topF;split;omega;have:=topF_le l k;omega
theorem topF_t {l:List Rat}{k:Nat}(h:0<cmpR (l.getD k 0) (l.getD (topF l k) 0)):topF l (k+1)=k:=by show (if _ then _ else _)=_;rw[if_pos h]
theorem topF_f {l:List Rat}{k:Nat}(h:¬0<cmpR (l.getD k 0) (l.getD (topF l k) 0)):topF l (k+1)=topF l k:=by show (if _ then _ else _)=_;rw[if_neg h]
noncomputable def clsq (ls:List Lay)(xs:List Rat):Int:=if chkq ls=0∧xs.length=dOf ls 0 then ((topF (ansL ls xs) (ansL ls xs).length:Nat):Int) else 0
theorem ansE0 {ls:List Lay}{xs:List Rat}(h1:chkq ls=0)(h2:xs.length=dOf ls 0):ansE ls xs=0:=by unfold ansE;rw[if_pos h1,if_pos h2]
theorem ansE1 {ls:List Lay}{xs:List Rat}(h1:chkq ls≠0):ansE ls xs=1:=by unfold ansE;rw[if_neg h1]
theorem ansE5 {ls:List Lay}{xs:List Rat}(h1:chkq ls=0)(h2:xs.length≠dOf ls 0):ansE ls xs=5:=by unfold ansE;rw[if_pos h1,if_neg h2]
theorem ansL0 {ls:List Lay}{xs:List Rat}(h1:chkq ls=0)(h2:xs.length=dOf ls 0):ansL ls xs=outq ls xs ls.length:=by unfold ansL;rw[if_pos ⟨h1,h2⟩]
theorem ansL1 {ls:List Lay}{xs:List Rat}(h:¬(chkq ls=0∧xs.length=dOf ls 0)):ansL ls xs=[]:=by unfold ansL;rw[if_neg h]
theorem bneF' {a b:Int}(h:a=b):((a:Int) != (b:Int))=false:=by simpa using h
theorem nAnswer1 (A:Option Addr)(cap:Nat)(ts:List LV)(ls:List Lay)(hn:ls.length≤1000000)(hF:∀ i,i<ls.length→LayLen (ls.getD i lay0))(X:Option Addr)(c0:Nat)(xs:List Rat)(hc0:xs.length≤c0)(hB:chkq ls=0→xs.length=dOf ls 0→NetB ls xs)(h1:chkq ls≠0)(w:World)(h:Hp)(g:G w h)(hA:SlO 3 lvc lvd h A ts)(hN:NetL h ts ls)(hX:SlO 5 qc 0 h X xs)(tb:Tab h) :
    Calls Tryz.prog 25 #[.agg #[.slice A ts.length cap],.slice X xs.length c0] w (Ret w h fun v h1=>∃ A c,v=.tuple #[.slice A (ansL ls xs).length c,.int .i64 (ansE ls xs)]∧(ansL ls xs).length≤c∧SlO 5 qc 0 h1 A (ansL ls xs)):=by
 have hs:=SS.start g
 replace hs:=((((hs.a_SlO hA).add (K:=fun h_=>NetL h_ ts ls) hN).a_SlO hX).add (K:=fun h_=>Tab h_) tb)
 refine go Tryz.func25 [(0,.agg #[.slice A ts.length cap]),(1,.slice X xs.length c0)] rfl ?_
 refine cSL (lA 2 28 ([.slice A ts.length cap]) hs (fun b1 w2 h3 hs=>?_))
 refine lL hs [.v 4 (.slice none 0 0),.v 5 (.int .i64 0)] (lN (CG.seq (cSL (lL hs [.o 6 (.agg #[.slice A ts.length cap]) 0 0 1] (lC 7 hs (nCheckG A cap ts ls hn hF _ _ hs.g (hs.f.2.2.2.1) (hs.f.2.2.1)) ?_)))))
 rintro _ w4 h5 hs rfl
 have hb6:((chkq ls:Int) != (0:Int))=true:=bneT h1
 have phb6:=neOfBne hb6
 refine lB 8 hb6 ?_
 exact lN (cIT (cSL (lL hs [.v 4 (.slice none 0 0),.v 5 (.int .i64 1)] (lN (CG.ret (hs.ret [] (.tuple #[.slice none 0 0,.int .i64 1]) (⟨none,0,by rw[ansE1 h1,ansL1 (fun e=>h1 e.1)];rfl,by rw[ansL1 (fun e=>h1 e.1)];exact Nat.le_refl _,by rw[ansL1 (fun e=>h1 e.1)];exact SlO.nil⟩)))))))
theorem nAnswer5 (A:Option Addr)(cap:Nat)(ts:List LV)(ls:List Lay)(hn:ls.length≤1000000)(hF:∀ i,i<ls.length→LayLen (ls.getD i lay0))(X:Option Addr)(c0:Nat)(xs:List Rat)(hc0:xs.length≤c0)(hB:chkq ls=0→xs.length=dOf ls 0→NetB ls xs)(h1:chkq ls=0)(h2:xs.length≠dOf ls 0)(w:World)(h:Hp)(g:G w h)(hA:SlO 3 lvc lvd h A ts)(hN:NetL h ts ls)(hX:SlO 5 qc 0 h X xs)(tb:Tab h) :
    Calls Tryz.prog 25 #[.agg #[.slice A ts.length cap],.slice X xs.length c0] w (Ret w h fun v h1=>∃ A c,v=.tuple #[.slice A (ansL ls xs).length c,.int .i64 (ansE ls xs)]∧(ansL ls xs).length≤c∧SlO 5 qc 0 h1 A (ansL ls xs)):=by
 have hs:=SS.start g
 replace hs:=((((hs.a_SlO hA).add (K:=fun h_=>NetL h_ ts ls) hN).a_SlO hX).add (K:=fun h_=>Tab h_) tb)
 refine go Tryz.func25 [(0,.agg #[.slice A ts.length cap]),(1,.slice X xs.length c0)] rfl ?_
 refine cSL (lA 2 28 ([.slice A ts.length cap]) hs (fun b1 w2 h3 hs=>?_))
 refine lL hs [.v 4 (.slice none 0 0),.v 5 (.int .i64 0)] (lN (CG.seq (cSL (lL hs [.o 6 (.agg #[.slice A ts.length cap]) 0 0 1] (lC 7 hs (nCheckG A cap ts ls hn hF _ _ hs.g (hs.f.2.2.2.1) (hs.f.2.2.1)) ?_)))))
 rintro _ w4 h5 hs rfl
 have hb6:((chkq ls:Int) != (0:Int))=false:=bneF' h1
 have phb6:=eqOfBne hb6
 refine lB 8 hb6 ?_
 refine lN (cIF (CG.skipN (CG.seq (cSL (lL hs [.o 9 (.agg #[.slice A ts.length cap]) 0 0 1,.m 10 1] (lC 11 hs (nSuitsF A cap ts ls (dOf ls) (chk_net3 h1) X c0 xs h2 _ _ hs.g (hs.f.2.2.2.1) (hs.f.2.2.1) (hs.f.2.1)) ?_))))))
 rintro _ w7 h8 hs rfl
 exact lL hs [.v 12 (.bool true)] (lN (cIT (cSL (lL hs [.v 4 (.slice none 0 0),.v 5 (.int .i64 5)] (lN (CG.ret (hs.ret [] (.tuple #[.slice none 0 0,.int .i64 5]) (⟨none,0,by rw[ansE5 h1 h2,ansL1 (fun e=>h2 e.2)];rfl,by rw[ansL1 (fun e=>h2 e.2)];exact Nat.le_refl _,by rw[ansL1 (fun e=>h2 e.2)];exact SlO.nil⟩))))))))
theorem nAnswer0 (A:Option Addr)(cap:Nat)(ts:List LV)(ls:List Lay)(hn:ls.length≤1000000)(hF:∀ i,i<ls.length→LayLen (ls.getD i lay0))(X:Option Addr)(c0:Nat)(xs:List Rat)(hc0:xs.length≤c0)(hB:chkq ls=0→xs.length=dOf ls 0→NetB ls xs)(h1:chkq ls=0)(h2:xs.length=dOf ls 0)(w:World)(h:Hp)(g:G w h)(hA:SlO 3 lvc lvd h A ts)(hN:NetL h ts ls)(hX:SlO 5 qc 0 h X xs)(tb:Tab h) :
    Calls Tryz.prog 25 #[.agg #[.slice A ts.length cap],.slice X xs.length c0] w (Ret w h fun v h1=>∃ A c,v=.tuple #[.slice A (ansL ls xs).length c,.int .i64 (ansE ls xs)]∧(ansL ls xs).length≤c∧SlO 5 qc 0 h1 A (ansL ls xs)):=by
 have hs:=SS.start g
 replace hs:=((((hs.a_SlO hA).add (K:=fun h_=>NetL h_ ts ls) hN).a_SlO hX).add (K:=fun h_=>Tab h_) tb)
 refine go Tryz.func25 [(0,.agg #[.slice A ts.length cap]),(1,.slice X xs.length c0)] rfl ?_
 refine cSL (lA 2 28 ([.slice A ts.length cap]) hs (fun b1 w2 h3 hs=>?_))
 refine lL hs [.v 4 (.slice none 0 0),.v 5 (.int .i64 0)] (lN (CG.seq (cSL (lL hs [.o 6 (.agg #[.slice A ts.length cap]) 0 0 1] (lC 7 hs (nCheckG A cap ts ls hn hF _ _ hs.g (hs.f.2.2.2.1) (hs.f.2.2.1)) ?_)))))
 rintro _ w4 h5 hs rfl
 have hb6:((chkq ls:Int) != (0:Int))=false:=bneF' h1
 have phb6:=eqOfBne hb6
 refine lB 8 hb6 ?_
 refine lN (cIF (CG.skipN (CG.seq (cSL (lL hs [.o 9 (.agg #[.slice A ts.length cap]) 0 0 1,.m 10 1] (lC 11 hs (nSuitsT A cap ts ls (dOf ls) (chk_net3 h1) X c0 xs h2 _ _ hs.g (hs.f.2.2.2.1) (hs.f.2.2.1) (hs.f.2.1)) ?_))))))
 rintro _ w7 h8 hs rfl
 refine lL hs [.v 12 (.bool false)] (lN (cIF (CG.skipN (cSL (lL hs [.o 13 (.agg #[.slice A ts.length cap]) 0 0 1,.m 14 1] (lC 15 hs (nForward A cap ts ls (dOf ls) (chk_net3 h1) X c0 xs h2 hc0 (hB h1 h2) _ _ hs.g (hs.f.2.2.2.1) (hs.f.2.2.1) (hs.f.2.1) (hs.f.1)) ?_))))))
 rintro _ w9 h10 hs ⟨A1,c1,u1,A2,c2,u2,Ax,cx,rfl,-,-,hcx,-,-,-,-,hXk⟩
 replace hs:=(hs.a_SlO hXk)
 exact lL hs [.v 16 (.slice Ax ((outq ls xs ls.length).length) cx),.m 4 16,.v 5 (.int .i64 0)] (lN (CG.ret (hs.ret [] (.tuple #[.slice Ax ((outq ls xs ls.length).length) cx,.int .i64 0]) (⟨_,_,by rw[ansE0 h1 h2,ansL0 h1 h2],by rw[ansL0 h1 h2];exact hcx,by rw[ansL0 h1 h2];exact (hs.f.1)⟩))))
theorem nAnswer (A:Option Addr)(cap:Nat)(ts:List LV)(ls:List Lay)(hn:ls.length≤1000000)(hF:∀ i,i<ls.length→LayLen (ls.getD i lay0))(X:Option Addr)(c0:Nat)(xs:List Rat)(hc0:xs.length≤c0)(hB:chkq ls=0→xs.length=dOf ls 0→NetB ls xs)(w:World)(h:Hp)(g:G w h)(hA:SlO 3 lvc lvd h A ts)(hN:NetL h ts ls)(hX:SlO 5 qc 0 h X xs)(tb:Tab h):Calls Tryz.prog 25 #[.agg #[.slice A ts.length cap],.slice X xs.length c0] w (Ret w h (fun v h1=>∃ A c,v=.tuple #[.slice A (ansL ls xs).length c,.int .i64 (ansE ls xs)]∧(ansL ls xs).length≤c∧SlO 5 qc 0 h1 A (ansL ls xs))):=by
  by_cases h1:chkq ls=0
  · by_cases h2:xs.length=dOf ls 0
    · exact nAnswer0 A cap ts ls hn hF X c0 xs hc0 hB h1 h2 w h g hA hN hX tb
    · exact nAnswer5 A cap ts ls hn hF X c0 xs hc0 hB h1 h2 w h g hA hN hX tb
  · exact nAnswer1 A cap ts ls hn hF X c0 xs hc0 hB h1 w h g hA hN hX tb
theorem nClassE (A:Option Addr)(cap:Nat)(ts:List LV)(ls:List Lay)(hn:ls.length≤1000000)(hF:∀ i,i<ls.length→LayLen (ls.getD i lay0))(X:Option Addr)(c0:Nat)(xs:List Rat)(hc0:xs.length≤c0)(hB:chkq ls=0→xs.length=dOf ls 0→NetB ls xs)(he:ansE ls xs≠0)(w:World)(h:Hp)(g:G w h)(hA:SlO 3 lvc lvd h A ts)(hN:NetL h ts ls)(hX:SlO 5 qc 0 h X xs)(tb:Tab h) :
    Calls Tryz.prog 26 #[.agg #[.slice A ts.length cap],.slice X xs.length c0] w (Ret w h fun v _=>v=.tuple #[.int .i64 (clsq ls xs),.int .i64 (ansE ls xs)]):=by
 have hs:=SS.start g
 replace hs:=((((hs.a_SlO hA).add (K:=fun h_=>NetL h_ ts ls) hN).a_SlO hX).add (K:=fun h_=>Tab h_) tb)
 refine go Tryz.func26 [(0,.agg #[.slice A ts.length cap]),(1,.slice X xs.length c0)] rfl ?_
 refine cSL (lA 2 28 ([.slice A ts.length cap]) hs (fun b1 w2 h3 hs=>?_))
 refine lL hs [.v 4 (.int .i64 0),.v 5 (.int .i64 0)] (lNS (lL hs [.o 11 (.agg #[.slice A ts.length cap]) 0 0 1,.m 12 1] (lC 13 hs (nAnswer A cap ts ls hn hF X c0 xs hc0 hB _ _ hs.g (hs.f.2.2.2.1) (hs.f.2.2.1) (hs.f.2.1) (hs.f.1)) ?_)))
 rintro _ w4 h5 hs ⟨Aa,ca,rfl,hca,hAa⟩
 replace hs:=(hs.a_SlO hAa)
 refine lL hs [.m 10 13,.v 14 (.slice Aa ((ansL ls xs).length) ca),.v 15 (.int .i64 (ansE ls xs)),.m 6 14,.m 7 15] (lN (CG.seq (cSL (lL hs [.m 16 7] ?_))))
 have hb6:((ansE ls xs:Int) != (0:Int))=true:=bneT he
 have phb6:=neOfBne hb6
 refine lB 17 hb6 ?_
 exact lN (cIT (cSL (lL hs [.m 18 7,.v 4 (.int .i64 0),.m 5 18] (lN (CG.ret (hs.ret [] (.tuple #[.int .i64 0,.int .i64 (ansE ls xs)]) (by have hc:clsq ls xs=0:=if_neg (fun e=>he (ansE0 e.1 e.2));rw[hc])))))))
theorem nClassO (A:Option Addr)(cap:Nat)(ts:List LV)(ls:List Lay)(hn:ls.length≤1000000)(hF:∀ i,i<ls.length→LayLen (ls.getD i lay0))(X:Option Addr)(c0:Nat)(xs:List Rat)(hc0:xs.length≤c0)(hB:chkq ls=0→xs.length=dOf ls 0→NetB ls xs)(h1:chkq ls=0)(h2:xs.length=dOf ls 0)(w:World)(h:Hp)(g:G w h)(hA:SlO 3 lvc lvd h A ts)(hN:NetL h ts ls)(hX:SlO 5 qc 0 h X xs)(tb:Tab h) :
    Calls Tryz.prog 26 #[.agg #[.slice A ts.length cap],.slice X xs.length c0] w (Ret w h fun v _=>v=.tuple #[.int .i64 (clsq ls xs),.int .i64 (ansE ls xs)]):=by
 have hs:=SS.start g
 replace hs:=((((hs.a_SlO hA).add (K:=fun h_=>NetL h_ ts ls) hN).a_SlO hX).add (K:=fun h_=>Tab h_) tb)
 have hlq:∀ j,LQ 100000000 ((ansL ls xs).getD j 0):=fun j=>by rw[ansL0 h1 h2];exact ((hB h1 h2).x _ (Nat.le_refl _) j).mono oM
 have hlen:(ansL ls xs).length≤20:=by rw[ansL0 h1 h2,outq_len (chk_net3 h1) h2 _ (Nat.le_refl _)];have o_:=(chk_net3 h1).len;have:=((chk_net3 h1).lay (ls.length-1) oM).2.2.1;rw[show ls.length-1+1=ls.length by omega] at this;omega
 refine go Tryz.func26 [(0,.agg #[.slice A ts.length cap]),(1,.slice X xs.length c0)] rfl ?_
 refine cSL (lA 2 28 ([.slice A ts.length cap]) hs (fun b1 w2 h3 hs=>?_))
 refine lL hs [.v 4 (.int .i64 0),.v 5 (.int .i64 0)] (lNS (lL hs [.o 11 (.agg #[.slice A ts.length cap]) 0 0 1,.m 12 1] (lC 13 hs (nAnswer A cap ts ls hn hF X c0 xs hc0 hB _ _ hs.g (hs.f.2.2.2.1) (hs.f.2.2.1) (hs.f.2.1) (hs.f.1)) ?_)))
 rintro _ w4 h5 hs ⟨Aa,ca,rfl,hca,hAa⟩
 replace hs:=(hs.a_SlO hAa)
 refine lL hs [.m 10 13,.v 14 (.slice Aa ((ansL ls xs).length) ca),.v 15 (.int .i64 (ansE ls xs)),.m 6 14,.m 7 15] (lN (CG.seq (cSL (lL hs [.m 16 7] ?_))))
 have hb6:((ansE ls xs:Int) != (0:Int))=false:=bneF' (ansE0 h1 h2)
 have phb6:=eqOfBne hb6
 refine lB 17 hb6 ?_
 refine lN (cIF (CG.skipN (cSL (lL hs [.v 8 (.int .i64 0)] (lN (CG.seq (cSL (lL hs [.m 19 6,.v 20 (.int .i64 ((ansL ls xs).length:Nat)),.v 21 (.int .i64 0)] (lN (CG.block (cTo [(4,.int .i64 0),(5,.int .i64 0),(6,.slice Aa ((ansL ls xs).length) ca),(20,.int .i64 ((ansL ls xs).length:Nat)),(21,.int .i64 0),(8,.int .i64 0)] ?_)))))))))))
 refine CG.loop (fun μ_ Γ w_=>∃ (k:Nat) (b_:Nat) (h_:Hp),μ_=(ansL ls xs).length-k∧Γ=[(4,.int .i64 0),(5,.int .i64 0),(6,.slice Aa ((ansL ls xs).length) ca),(20,.int .i64 ((ansL ls xs).length:Nat)),(21,.int .i64 (k:Nat)),(8,.int .i64 (b_:Nat))]∧SS w h w_ h_ [⟨b1,28,[.slice A ts.length cap]⟩] [] [fun h_=>SlO 5 qc 0 h_ Aa (ansL ls xs),fun h_=>Tab h_,fun h_=>SlO 5 qc 0 h_ X xs,fun h_=>NetL h_ ts ls,fun h_=>SlO 3 lvc lvd h_ A ts]∧(k≤(ansL ls xs).length)∧(b_=topF (ansL ls xs) k)) _ ⟨0,0,h5,rfl,rfl,hs.to _ _,Nat.zero_le _,rfl⟩ ?_
 rintro _ _ w7 ⟨k,b_,h8,hm9,rfl,hs,hk,hb⟩
 have hble:=topF_le (ansL ls xs) k
 refine cSL ?_
 cases hb10:(decide (((k:Nat):Int)<(((ansL ls xs).length:Nat):Int)))
 ·
  have phb10:=oF hb10
  refine lB 22 hb10 ?_
  refine lN (CG.seq (cIF (CG.exit ?_)))
  show CG _ _ _ _ _ _ _ _
  refine cSL (lL hs [.m 36 8,.m 4 36,.v 5 (.int .i64 0)] (lN (CG.ret ?_)))
  have hkn:k=(ansL ls xs).length:=by omega
  have hcl:clsq ls xs=((b_:Nat):Int):=by unfold clsq;rw[if_pos ⟨h1,h2⟩,←hkn,hb]
  have hae:=ansE0 h1 h2
  exact hs.ret [] (.tuple #[.int .i64 (b_:Nat),.int .i64 0]) (by rw[hcl,hae])
 have phb10:=oT hb10
 refine lB 22 hb10 ?_
 refine lN (CG.seq (cIT (CG.skipN (CG.seq (CG.block (cSL (lL hs [.m 23 21,.m 9 23] (lN (CG.seq (cR 10 [] mixed hs al_nil ?_))))))))))
 refine eV 0 24 (.slice Aa ((ansL ls xs).length) ca) ?_
 refine eV 1 25 (.int .i64 (k:Nat)) ?_
 refine eX 2 26 Aa ((ansL ls xs).length) ca 5 (k:Nat) k ((hs.f.1).ok oM) ?_
 refine eH 3 27 (qv ((ansL ls xs).getD k 0)) hs ((hs.f.1).el k oM) ?_
 refine eV 4 28 (.slice Aa ((ansL ls xs).length) ca) ?_
 refine eV 5 29 (.int .i64 (b_:Nat)) ?_
 refine eX 6 30 Aa ((ansL ls xs).length) ca 5 (b_:Nat) b_ ((hs.f.1).ok oM) ?_
 refine eH 7 31 (qv ((ansL ls xs).getD b_ 0)) hs ((hs.f.1).el b_ oM) ?_
 refine eC 8 32 hs (fun _ _ hs=>fCmp ((ansL ls xs).getD k 0) ((ansL ls xs).getD b_ 0) (hlq _) (hlq _) _ _ hs.g) ?_
 rintro _ _ _ w11 h12 hs rfl
 cases hb13:(decide ((0:Int)<(cmpR ((ansL ls xs).getD k 0) ((ansL ls xs).getD b_ 0):Int)))
 ·
  have phb13:=oF hb13
  refine eB 9 33 hb13 ?_
  refine eD0 hs (fun w14 h15 hs=>?_)
  refine tN (cIF (CG.skipN (CG.listed (lIn 35 ((k:Nat)+1) (k+1) ?_))))
  refine lL hs [.m 21 35] (lD ?_)
  intro a_ ka
  have q16:(k+1)≤(ansL ls xs).length:=by omega
  have q17:b_=topF (ansL ls xs) (k+1):=(by subst hb;first|rw[topF_t aM]|rw[topF_f aM])
  refine ⟨_,_,?_,⟨k+1,b_,h15,rfl,rfl,hs.to _ _,q16,q17⟩,ka.to [(4,.int .i64 0),(5,.int .i64 0),(6,.slice Aa ((ansL ls xs).length) ca),(20,.int .i64 ((ansL ls xs).length:Nat)),(21,.int .i64 ((k+1):Nat)),(8,.int .i64 (b_:Nat))] kR⟩
  omega
 have phb13:=oT hb13
 refine eB 9 33 hb13 ?_
 refine eD0 hs (fun w18 h19 hs=>?_)
 refine tN (cIT (CG.listed (lL hs [.m 34 9,.m 8 34] (lN (CG.listed (lIn 35 ((k:Nat)+1) (k+1) ?_))))))
 refine lL hs [.m 21 35] (lD ?_)
 intro a_ ka
 have q20:(k+1)≤(ansL ls xs).length:=by omega
 have q21:k=topF (ansL ls xs) (k+1):=(by subst hb;first|rw[topF_t aM]|rw[topF_f aM])
 refine ⟨_,_,?_,⟨k+1,k,h19,rfl,rfl,hs.to _ _,q20,q21⟩,ka.to [(4,.int .i64 0),(5,.int .i64 0),(6,.slice Aa ((ansL ls xs).length) ca),(20,.int .i64 ((ansL ls xs).length:Nat)),(21,.int .i64 ((k+1):Nat)),(8,.int .i64 (k:Nat))] kR⟩
 omega
theorem nClass (A:Option Addr)(cap:Nat)(ts:List LV)(ls:List Lay)(hn:ls.length≤1000000)(hF:∀ i,i<ls.length→LayLen (ls.getD i lay0))(X:Option Addr)(c0:Nat)(xs:List Rat)(hc0:xs.length≤c0)(hB:chkq ls=0→xs.length=dOf ls 0→NetB ls xs)(w:World)(h:Hp)(g:G w h)(hA:SlO 3 lvc lvd h A ts)(hN:NetL h ts ls)(hX:SlO 5 qc 0 h X xs)(tb:Tab h):Calls Tryz.prog 26 #[.agg #[.slice A ts.length cap],.slice X xs.length c0] w (Ret w h (fun v _=>v=.tuple #[.int .i64 (clsq ls xs),.int .i64 (ansE ls xs)])):=by
  by_cases h1:chkq ls=0
  · by_cases h2:xs.length=dOf ls 0
    · exact nClassO A cap ts ls hn hF X c0 xs hc0 hB h1 h2 w h g hA hN hX tb
    · exact nClassE A cap ts ls hn hF X c0 xs hc0 hB (by rw[ansE5 h1 h2];decide) w h g hA hN hX tb
  · exact nClassE A cap ts ls hn hF X c0 xs hc0 hB (by rw[ansE1 h1];decide) w h g hA hN hX tb
def sizesq (ls:List Lay):List Nat:=dOf ls 0::ls.map (·.W.length)
section fut
variable {P:Program} {n:Nat} {N R:Po} {X:Nat→Po} {ops:Array Oper} {k0 K:Nat} {L:Array Bool} {Γ:Env} {w:World} {h:Hp} {w0:World} {h0:Hp} {B:List Bx} {Rs:List Rw} {F:List (Hp→Prop)}
end fut
theorem getD_app_ {α:Type}{a b:List α}{i:Nat}{d:α}:(a++b).getD i d=if i<a.length then a.getD i d else b.getD (i-a.length) d:=by
  simp only[List.getD_eq_getElem?_getD,List.getElem?_append];split<;>rfl
theorem getD_set_ {α:Type}{l:List α}{n i:Nat}{d x:α}(h:n<l.length):(l.set n x).getD i d=if i=n then x else l.getD i d:=by
  split
  · rename_i e;subst e;simp[h]
  · rename_i e;rw[List.getD_eq_getElem?_getD,List.getElem?_set_ne (Ne.symm e),←List.getD_eq_getElem?_getD]
structure LayS4 (L:Lay):Prop where
  rl:L.W.length≤4
  rls:∀ i,(L.W.getD i []).length≤4
  bl:L.B.length≤4
  w:∀ i j,LQ 1 ((L.W.getD i []).getD j 0)
  b:∀ i,LQ 1 (L.B.getD i 0)
def flatL (L:Lay):List Rat:=L.W.flatten++L.B
def flatq (ls:List Lay):List Rat:=ls.flatMap flatL
theorem flatq_snoc (ls:List Lay)(L:Lay):flatq (ls++[L])=flatq ls++L.W.flatten++L.B:=by simp[flatq,flatL]
theorem flatq_take {ls:List Lay}{k:Nat}(h:k<ls.length):flatq (ls.take (k+1))=flatq (ls.take k)++(ls.getD k lay0).W.flatten++(ls.getD k lay0).B:=by rw[take_snoc' lay0 h,flatq_snoc]
theorem flat_take {W:List (List Rat)}{i:Nat}(h:i<W.length):(W.take (i+1)).flatten=(W.take i).flatten++W.getD i []:=by rw[take_snoc' [] h];simp
theorem flat_len {c:Nat}:∀ {W:List (List Rat)},(∀ r∈W,r.length=c)→W.flatten.length=W.length*c
  | [],_=>by simp
  | r::W,h=>by
    rw[List.flatten_cons,List.length_append,h r (by simp),flat_len (fun s hs=>h s (by simp[hs])),List.length_cons,Nat.succ_mul];omega
theorem getD_mem' {α:Type}{l:List α}{x d:α}(h:x∈l):∃ i,i<l.length∧l.getD i d=x:=by
  obtain ⟨i,hi,e⟩:=List.mem_iff_getElem.1 h
  exact ⟨i,hi,by simp[hi,e]⟩
theorem Mat.mem {W:List (List Rat)}{r c:Nat}(m:Mat W r c):∀ x∈W,x.length=c:=fun x hx=>by
  obtain ⟨i,hi,e⟩:=getD_mem' (d:=[]) hx
  rw[←e];exact m.row i (by rw[←m.rows];exact hi)
theorem take_flat_len {W:List (List Rat)}{r c:Nat}(m:Mat W r c)(i:Nat)(hi:i≤r):(W.take i).flatten.length=i*c:=by
  rw[flat_len (c:=c) (fun x hx=>m.mem x (List.mem_of_mem_take hx)),List.length_take,m.rows];congr 1;omega
theorem flatq_len {ls:List Lay}{d:Nat→Nat}(o:Net3 ls d)(k:Nat)(hk:k≤ls.length):(flatq (ls.take k)).length≤k*252:=by
  induction k with
  | zero=>simp[flatq]
  | succ k ih =>
    have h1:=ih oM
    obtain ⟨m,hb,h12,_⟩:=o.lay k oM
    have hc:=o.small k oM
    rw[flatq_take oM,List.length_append,List.length_append,flat_len m.mem,m.rows,hb]
    have:d (k+1)*d k≤12*20:=Nat.mul_le_mul h12 hc
    omega
theorem nflat (A:Option Addr)(cap:Nat)(ts:List LV)(ls:List Lay)(d:Nat→Nat)(hO:Net3 ls d)(w:World)(h:Hp)(g:G w h)(hA:SlO 3 lvc lvd h A ts)(hN:NetL h ts ls) :
    Calls Tryz.prog 63 #[.agg #[.slice A ts.length cap]] w (Ret w h fun v h1=>∃ A c,v=.slice A (flatq ls).length c∧(flatq ls).length≤c∧SlO 5 qc 0 h1 A (flatq ls)):=by
 have hs:=SS.start g
 replace hs:=((hs.a_SlO hA).add (K:=fun h_=>NetL h_ ts ls) hN)
 have hl:=(hs.f.1).len
 obtain ⟨o1,o2⟩:=hO.len
 have o3:=hO.first
 refine go Tryz.func63 [(0,.agg #[.slice A ts.length cap])] rfl ?_
 refine cSL (lA 1 28 ([.slice A ts.length cap]) hs (fun b1 w2 h3 hs=>?_))
 refine lL hs [.v 2 (.slice none 0 0)] (lNS (lL hs [.v 3 (.slice none 0 0)] (lN (CG.seq (cSL (lL hs [.v 8 (.pointer (some ⟨b1,0,none⟩)),.o 9 (.slice A ts.length cap) 0 0 1,.v 10 (.int .i64 (ts.length:Nat)),.v 11 (.int .i64 0)] (lN (CG.block ?_))))))))
 replace hs:=hs.nil 73 5
 refine cTo [(2,.slice none 0 0),(9,.slice A ts.length cap),(10,.int .i64 (ts.length:Nat)),(11,.int .i64 0),(3,.slice none 0 0)] ?_
 refine CG.loop (fun μ_ Γ w_=>∃ (k:Nat) (saA:Option Addr) (sac:Nat) (al:List Rat) (h_:Hp),μ_=ls.length-k∧Γ=[(2,.slice none 0 0),(9,.slice A ts.length cap),(10,.int .i64 (ts.length:Nat)),(11,.int .i64 (k:Nat)),(3,.slice saA ((al).length) sac)]∧SS w h w_ h_ [⟨b1,28,[.slice A ts.length cap]⟩] [⟨73,5,saA,sac,(al).length,(al).flatMap qc⟩] [fun h_=>NetL h_ ts ls,fun h_=>SlO 3 lvc lvd h_ A ts]∧(k≤ls.length)∧(al=flatq (ls.take k))) _ ⟨0,none,0,[],h3,rfl,rfl,hs.to _ _,Nat.zero_le _,rfl⟩ ?_
 rintro _ _ w4 ⟨k,saA,sac,al,h5,hm6,rfl,hs,hk,hal⟩
 have hsm:=fun h0=>hO.small k h0
 have hfl:=flatq_len hO k hk
 rw[←hal] at hfl
 refine cSL ?_
 cases hb7:(decide (((k:Nat):Int)<((ts.length:Nat):Int)))
 ·
  have phb7:=oF hb7
  refine lB 12 hb7 ?_
  refine lN (CG.seq (cIF (CG.exit ?_)))
  show CG _ _ _ _ _ _ _ _
  refine cSL (lL hs [.m 31 3,.m 2 31] (lN (CG.ret ?_)))
  have hkn:k=ls.length:=by omega
  subst hkn
  rw[List.take_length] at hal
  obtain ⟨h8,hs,hc9⟩:=hs.pubr 0 (A:=saA) (c:=sac) (l:=al) (f:=qc) (ty:=73) (sz:=5) 0 (fun _=>rfl)
  exact hs.ret [] (.slice saA ((al).length) sac) (by rw[←hal];exact ⟨_,_,rfl,hc9,(hs.f.1)⟩)
 have phb7:=oT hb7
 refine lB 12 hb7 ?_
 refine lN (CG.seq (cIT (CG.skipN (CG.seq (CG.block (cSL (lX 13 A ts.length cap 3 (k:Nat) k ((hs.f.2.1).ok oM) ?_)))))))
 obtain ⟨ekx,⟨AWx,cWx,usx,eWx,hcWx,hAWx,hUx⟩,⟨ABx,cBx,eBx,hcBx,hABx⟩⟩:=(hs.f.1).at_ k oM
 obtain ⟨mtx,lbx,r12x,kdx⟩:=hO.lay k oM
 have lux:=hUx.len;have mrx:=mtx.rows;have mpx:=mtx.rpos;have mcx:=mtx.cpos;have m0x:=mtx.row 0 oM
 replace hs:=(((hs.a_SlO hAWx).add (K:=fun h_=>QVs h_ usx (ls.getD k lay0).W) hUx).a_SlO hABx)
 refine lHe 14 (.agg #[.int .i64 ((ts.getD k lvd).1),(ts.getD k lvd).2.1,(ts.getD k lvd).2.2]) hs ((hs.f.2.2.2.2.1).el k oM) (by rw[ekx,eWx,eBx]) ?_
 refine lA 5 77 ([.int .i64 0,.slice none 0 0,.slice none 0 0]) hs (fun b11 w12 h13 hs=>?_)
 refine lP 0 0 ([.int .i64 ((ls.getD k lay0).k),.slice AWx usx.length cWx,.slice ABx ((ls.getD k lay0).B.length) cBx]) hs (fun w14 hs=>?_)
 refine lN (CG.seq (cSL (lL hs [.v 15 (.pointer (some ⟨b11,1,none⟩)),.o 16 (.slice AWx usx.length cWx) 0 1 1,.v 17 (.int .i64 (usx.length:Nat)),.v 18 (.int .i64 0)] (lN (CG.block (cTo [(2,.slice none 0 0),(9,.slice A ts.length cap),(10,.int .i64 (ts.length:Nat)),(11,.int .i64 (k:Nat)),(5,.pointer (some ⟨b11,0,none⟩)),(16,.slice AWx usx.length cWx),(17,.int .i64 (usx.length:Nat)),(18,.int .i64 0),(3,.slice saA ((al).length) sac)] ?_))))))
 refine CG.loop (fun μ_ Γ w_=>∃ (i:Nat) (sbA:Option Addr) (sbc:Nat) (bl:List Rat) (h_:Hp),μ_=usx.length-i∧Γ=[(2,.slice none 0 0),(9,.slice A ts.length cap),(10,.int .i64 (ts.length:Nat)),(11,.int .i64 (k:Nat)),(5,.pointer (some ⟨b11,0,none⟩)),(16,.slice AWx usx.length cWx),(17,.int .i64 (usx.length:Nat)),(18,.int .i64 (i:Nat)),(3,.slice sbA ((bl).length) sbc)]∧SS w h w_ h_ [⟨b11,77,[.int .i64 ((ls.getD k lay0).k),.slice AWx usx.length cWx,.slice ABx ((ls.getD k lay0).B.length) cBx]⟩,⟨b1,28,[.slice A ts.length cap]⟩] [⟨73,5,sbA,sbc,(bl).length,(bl).flatMap qc⟩] [fun h_=>SlO 5 qc 0 h_ ABx (ls.getD k lay0).B,fun h_=>QVs h_ usx (ls.getD k lay0).W,fun h_=>SlO 1 vc undef h_ AWx usx,fun h_=>NetL h_ ts ls,fun h_=>SlO 3 lvc lvd h_ A ts]∧(i≤usx.length)∧(bl=al++((ls.getD k lay0).W.take i).flatten)) _ ⟨0,saA,sac,al,h13,rfl,rfl,hs.to _ _,Nat.zero_le _,by simp⟩ ?_
 rintro _ _ w15 ⟨i,sbA,sbc,bl,h16,hm17,rfl,hs,hi,hbl⟩
 have hbn:bl.length≤al.length+i*d k:=by rw[hbl,List.length_append,take_flat_len mtx i oM];exact Nat.le_refl _
 have hid:i*d k≤12*20:=Nat.mul_le_mul oM (hsm oM)
 have hmr:=fun h0=>mtx.row i h0
 refine cSL ?_
 cases hb18:(decide (((i:Nat):Int)<((usx.length:Nat):Int)))
 ·
  have phb18:=oF hb18
  refine lB 19 hb18 ?_
  refine lN (CG.seq (cIF (CG.exit ?_)))
  show CG _ _ _ _ _ _ _ _
  refine CG.listed (lL hs [.m 26 3,.v 27 (.pointer (some ⟨b11,2,none⟩)),.o 28 (.slice ABx ((ls.getD k lay0).B.length) cBx) 0 2 1] (lYs 29 0 73 5 sbc sbA bl qc 0 ABx ((ls.getD k lay0).B) cBx 56 (.agg #[.bool false,.int .u64 0,.string ⟨#[]⟩,.int .u64 0,.string ⟨#[]⟩]) hs (hs.f.1) oM (fun A19 c20 w21 h22 hs=>?_)))
  refine lL hs [.m 3 29] (lN (CG.listed (lIn 30 ((k:Nat)+1) (k+1) ?_)))
  refine lL hs [.m 11 30] (lD ?_)
  intro a_ ka
  have q24:(k+1)≤ls.length:=by omega
  have q25:(bl++((ls.getD k lay0).B))=flatq (ls.take (k+1)):=by rw[flatq_take oM,hbl,List.take_of_length_le oM,hal]
  replace hs:=hs.tl.tl.tl
  replace hs:=hs.drop 1 0
  refine ⟨_,_,?_,⟨k+1,A19,c20,bl++((ls.getD k lay0).B),h22,rfl,rfl,hs.to _ _,q24,q25⟩,ka.to [(2,.slice none 0 0),(9,.slice A ts.length cap),(10,.int .i64 (ts.length:Nat)),(11,.int .i64 ((k+1):Nat)),(3,.slice A19 (((bl++((ls.getD k lay0).B))).length) c20)] kR⟩
  omega
 have phb18:=oT hb18
 refine lB 19 hb18 ?_
 refine lN (CG.seq (cIT (CG.skipN (CG.seq (CG.block (cSL (lX 20 AWx usx.length cWx 1 (i:Nat) i ((hs.f.2.2.1).ok oM) ?_)))))))
 obtain ⟨Arp,crp,erp,hcrp,hRrp⟩:=(hs.f.2.1).at_ i oM
 replace hs:=(hs.a_SlO hRrp)
 refine lHe 21 (usx.getD i undef) hs ((hs.f.2.2.2.1).el i oM) erp ?_
 refine lL hs [.m 7 21] (lN (CG.listed (lL hs [.m 22 3,.m 23 7] (lYs 24 0 73 5 sbc sbA bl qc 0 Arp (((ls.getD k lay0).W).getD i []) crp 56 (.agg #[.bool false,.int .u64 0,.string ⟨#[]⟩,.int .u64 0,.string ⟨#[]⟩]) hs (hs.f.1) oM (fun A26 c27 w28 h29 hs=>?_)))))
 refine lL hs [.m 3 24] (lN (CG.listed (lIn 25 ((i:Nat)+1) (i+1) ?_)))
 refine lL hs [.m 18 25] (lD ?_)
 intro a_ ka
 have q31:(i+1)≤usx.length:=by omega
 have q32:(bl++(((ls.getD k lay0).W).getD i []))=al++((ls.getD k lay0).W.take (i+1)).flatten:=by rw[flat_take oM,hbl,List.append_assoc]
 replace hs:=hs.tl
 refine ⟨_,_,?_,⟨i+1,A26,c27,bl++(((ls.getD k lay0).W).getD i []),h29,rfl,rfl,hs.to _ _,q31,q32⟩,ka.to [(2,.slice none 0 0),(9,.slice A ts.length cap),(10,.int .i64 (ts.length:Nat)),(11,.int .i64 (k:Nat)),(5,.pointer (some ⟨b11,0,none⟩)),(16,.slice AWx usx.length cWx),(17,.int .i64 (usx.length:Nat)),(18,.int .i64 ((i+1):Nat)),(3,.slice A26 (((bl++(((ls.getD k lay0).W).getD i []))).length) c27)] kR⟩
 omega
noncomputable def sizesA (ls:List Lay):List Nat:=if chkq ls=0 then sizesq ls else []
theorem sizesA1 {ls:List Lay}(h:chkq ls≠0):sizesA ls=[]:=if_neg h
theorem sizesA0 {ls:List Lay}(h:chkq ls=0):sizesA ls=sizesq ls:=if_pos h
section fla
variable {P:Program} {n:Nat} {N R:Po} {X:Nat→Po} {ops:Array Oper} {k:Nat} {Γ:Env} {w:World} {h:Hp} {w0:World} {h0:Hp} {B:List Bx} {Rs:List Rw} {F:List (Hp→Prop)}
end fla
section prt
variable {M:Ms} {P:Program} {n:Nat} {N R:Po} {X:Nat→Po} {ops:Array Oper} {k k0:Nat} {hr:Hp} {AL:List Al} {L:Array Bool} {Γ:Env} {w:World} {h:Hp}
end prt
theorem nSizes1 (A:Option Addr)(cap:Nat)(ts:List LV)(ls:List Lay)(hn:ls.length≤1000000)(hF:∀ i,i<ls.length→LayLen (ls.getD i lay0))(h1:chkq ls≠0)(w:World)(h:Hp)(g:G w h)(hA:SlO 3 lvc lvd h A ts)(hN:NetL h ts ls) :
    Calls Tryz.prog 31 #[.agg #[.slice A ts.length cap]] w (Ret w h fun v _=>v=.slice none 0 0):=by
 have hs:=SS.start g
 replace hs:=((hs.a_SlO hA).add (K:=fun h_=>NetL h_ ts ls) hN)
 refine go Tryz.func31 [(0,.agg #[.slice A ts.length cap])] rfl ?_
 refine cSL (lA 1 28 ([.slice A ts.length cap]) hs (fun b1 w2 h3 hs=>?_))
 refine lL hs [.v 2 (.slice none 0 0)] (lN (CG.seq (cSL (lL hs [.o 6 (.agg #[.slice A ts.length cap]) 0 0 1] (lC 7 hs (nCheckG A cap ts ls hn hF _ _ hs.g (hs.f.2.1) (hs.f.1)) ?_)))))
 rintro _ w4 h5 hs rfl
 have hb6:((chkq ls:Int) != (0:Int))=true:=bneT h1
 have phb6:=neOfBne hb6
 refine lB 8 hb6 ?_
 exact lN (cIT (cSL (lL hs [.v 2 (.slice none 0 0)] (lN (CG.ret (hs.ret [] (.slice none 0 0) rfl))))))
theorem nSizes0 (A:Option Addr)(cap:Nat)(ts:List LV)(ls:List Lay)(hn:ls.length≤1000000)(hF:∀ i,i<ls.length→LayLen (ls.getD i lay0))(hO:Net3 ls (dOf ls))(h1:chkq ls=0)(w:World)(h:Hp)(g:G w h)(hA:SlO 3 lvc lvd h A ts)(hN:NetL h ts ls) :
    Calls Tryz.prog 31 #[.agg #[.slice A ts.length cap]] w (Ret w h fun v h1=>∃ A c,v=.slice A (sizesq ls).length c∧(sizesq ls).length≤c∧SlO 1 natc 0 h1 A (sizesq ls)):=by
 have hs:=SS.start g
 replace hs:=((hs.a_SlO hA).add (K:=fun h_=>NetL h_ ts ls) hN)
 have hl:=(hs.f.1).len
 obtain ⟨o1,o2⟩:=hO.len
 have o3:=hO.first
 refine go Tryz.func31 [(0,.agg #[.slice A ts.length cap])] rfl ?_
 refine cSL (lA 1 28 ([.slice A ts.length cap]) hs (fun b1 w2 h3 hs=>?_))
 refine lL hs [.v 2 (.slice none 0 0)] (lN (CG.seq (cSL (lL hs [.o 6 (.agg #[.slice A ts.length cap]) 0 0 1] (lC 7 hs (nCheckG A cap ts ls hn hF _ _ hs.g (hs.f.2.1) (hs.f.1)) ?_)))))
 rintro _ w4 h5 hs rfl
 have hb6:((chkq ls:Int) != (0:Int))=false:=bneF' h1
 have phb6:=eqOfBne hb6
 refine lB 8 hb6 ?_
 refine lN (cIF (CG.skipN (cSL (lL hs [.v 9 (.pointer (some ⟨b1,0,none⟩)),.o 10 (.slice A ts.length cap) 0 0 1] (lX 11 A ts.length cap 3 0 0 ((hs.f.2.1).ok oM) ?_)))))
 refine lL hs [.v 12 (.pointer (some ⟨(aB A),aO A+0*3+1,none⟩))] ?_
 obtain ⟨ekx,⟨AWx,cWx,usx,eWx,hcWx,hAWx,hUx⟩,⟨ABx,cBx,eBx,hcBx,hABx⟩⟩:=(hs.f.1).at_ 0 oM
 obtain ⟨mtx,lbx,r12x,kdx⟩:=hO.lay 0 oM
 have lux:=hUx.len;have mrx:=mtx.rows;have mpx:=mtx.rpos;have mcx:=mtx.cpos;have m0x:=mtx.row 0 oM
 replace hs:=(((hs.a_SlO hAWx).add (K:=fun h_=>QVs h_ usx (ls.getD 0 lay0).W) hUx).a_SlO hABx)
 refine lHe 13 ((ts.getD 0 lvd).2.1) hs (((hs.f.2.2.2.2.1).el 0 oM).part 1 1) eWx ?_
 refine lX 14 AWx usx.length cWx 1 0 0 ((hs.f.2.2.1).ok oM) ?_
 obtain ⟨Arp,crp,erp,hcrp,hRrp⟩:=(hs.f.2.1).at_ 0 oM
 replace hs:=(hs.a_SlO hRrp)
 refine lHe 15 (usx.getD 0 undef) hs ((hs.f.2.2.2.1).el 0 oM) erp ?_
 refine lL hs [.v 16 (.int .i64 ((((ls.getD 0 lay0).W).getD 0 []).length:Nat))] (lRw 17 3 1 natc ([((((ls.getD 0 lay0).W).getD 0 []).length:Nat)]:List Nat) hs (fun b7 w8 h9 hs=>?_))
 refine lL hs [.m 3 17] (lN (CG.seq (cSL (lL hs [.v 18 (.pointer (some ⟨b1,0,none⟩)),.o 19 (.slice A ts.length cap) 0 0 1,.v 20 (.int .i64 (ts.length:Nat)),.v 21 (.int .i64 0)] (lN (CG.block (cTo [(2,.slice none 0 0),(19,.slice A ts.length cap),(20,.int .i64 (ts.length:Nat)),(21,.int .i64 0),(3,.slice (some ⟨b7,0,none⟩) ((([((((ls.getD 0 lay0).W).getD 0 []).length:Nat)]:List Nat)).length) ((([((((ls.getD 0 lay0).W).getD 0 []).length:Nat)]:List Nat)).length))] ?_)))))))
 refine CG.loop (fun μ_ Γ w_=>∃ (k:Nat) (sA:Option Addr) (sc:Nat) (zl:List Nat) (h_:Hp),μ_=ls.length-k∧Γ=[(2,.slice none 0 0),(19,.slice A ts.length cap),(20,.int .i64 (ts.length:Nat)),(21,.int .i64 (k:Nat)),(3,.slice sA ((zl).length) sc)]∧SS w h w_ h_ [⟨b1,28,[.slice A ts.length cap]⟩] [⟨3,1,sA,sc,(zl).length,(zl).flatMap natc⟩] [fun h_=>SlO 5 qc 0 h_ Arp (((ls.getD 0 lay0).W).getD 0 []),fun h_=>SlO 5 qc 0 h_ ABx (ls.getD 0 lay0).B,fun h_=>QVs h_ usx (ls.getD 0 lay0).W,fun h_=>SlO 1 vc undef h_ AWx usx,fun h_=>NetL h_ ts ls,fun h_=>SlO 3 lvc lvd h_ A ts]∧(k≤ls.length)∧(zl=dOf ls 0::(ls.take k).map (·.W.length))) _ ⟨0,some ⟨b7,0,none⟩,(([((((ls.getD 0 lay0).W).getD 0 []).length:Nat)]:List Nat)).length,([((((ls.getD 0 lay0).W).getD 0 []).length:Nat)]:List Nat),h9,rfl,rfl,hs.to _ _,Nat.zero_le _,rfl⟩ ?_
 rintro _ _ w12 ⟨k,sA,sc,zl,h13,hm14,rfl,hs,hk,hzl⟩
 have hzz:zl.length=k+1:=by rw[hzl];simp;omega
 refine cSL ?_
 cases hb15:(decide (((k:Nat):Int)<((ts.length:Nat):Int)))
 ·
  have phb15:=oF hb15
  refine lB 22 hb15 ?_
  refine lN (CG.seq (cIF (CG.exit ?_)))
  show CG _ _ _ _ _ _ _ _
  refine cSL (lL hs [.m 32 3,.m 2 32] (lN (CG.ret ?_)))
  have hkn:k=ls.length:=by omega
  have hzs:zl=sizesq ls:=by rw[hzl,hkn,List.take_length];rfl
  obtain ⟨h16,hs,hc17⟩:=hs.pubr 0 (A:=sA) (c:=sc) (l:=zl) (f:=natc) (ty:=3) (sz:=1) 0 (fun _=>rfl)
  exact hs.ret [] (.slice sA ((zl).length) sc) (by rw[←hzs];exact ⟨_,_,rfl,hc17,(hs.f.1)⟩)
 have phb15:=oT hb15
 refine lB 22 hb15 ?_
 refine lN (CG.seq (cIT (CG.skipN (CG.seq (CG.block (cSL (lX 23 A ts.length cap 3 (k:Nat) k ((hs.f.2.2.2.2.2.1).ok oM) ?_)))))))
 obtain ⟨eky,⟨AWy,cWy,usy,eWy,hcWy,hAWy,hUy⟩,⟨ABy,cBy,eBy,hcBy,hABy⟩⟩:=(hs.f.2.2.2.2.1).at_ k oM
 obtain ⟨mty,lby,r12y,kdy⟩:=hO.lay k oM
 have luy:=hUy.len;have mry:=mty.rows;have mpy:=mty.rpos;have mcy:=mty.cpos;have m0y:=mty.row 0 oM
 replace hs:=(((hs.a_SlO hAWy).add (K:=fun h_=>QVs h_ usy (ls.getD k lay0).W) hUy).a_SlO hABy)
 refine lHe 24 (.agg #[.int .i64 ((ts.getD k lvd).1),(ts.getD k lvd).2.1,(ts.getD k lvd).2.2]) hs ((hs.f.2.2.2.2.2.2.2.2.1).el k oM) (by rw[eky,eWy,eBy]) ?_
 refine lA 5 77 ([.int .i64 0,.slice none 0 0,.slice none 0 0]) hs (fun b19 w20 h21 hs=>?_)
 refine lP 0 0 ([.int .i64 ((ls.getD k lay0).k),.slice AWy usy.length cWy,.slice ABy ((ls.getD k lay0).B.length) cBy]) hs (fun w22 hs=>?_)
 refine lN (CG.listed (lL hs [.m 25 3,.v 26 (.pointer (some ⟨b19,1,none⟩)),.o 27 (.slice AWy usy.length cWy) 0 1 1,.v 28 (.int .i64 (usy.length:Nat))] (lR 29 3 1 ([.int .i64 (usy.length:Nat)]) hs (fun b23 w24 h25 hs=>?_))))
 refine lY 30 0 3 1 sc sA zl natc usy.length 8 b23 (.int .i64 0) hs (hs.f.1) (fun A27 c28 w29 h30 hs=>?_)
 refine lL hs [.m 3 30] (lN (CG.listed (lIn 31 ((k:Nat)+1) (k+1) ?_)))
 refine lL hs [.m 21 31] (lD ?_)
 intro a_ ka
 have q32:(k+1)≤ls.length:=by omega
 have q33:(zl++[usy.length])=dOf ls 0::(ls.take (k+1)).map (·.W.length):=(by rw[take_snoc' lay0 oM,List.map_append,hzl,luy];rfl)
 replace hs:=hs.tl.tl.tl.tl
 replace hs:=hs.drop 1 0
 refine ⟨_,_,?_,⟨k+1,A27,c28,zl++[usy.length],h30,rfl,rfl,hs.to _ _,q32,q33⟩,ka.to [(2,.slice none 0 0),(19,.slice A ts.length cap),(20,.int .i64 (ts.length:Nat)),(21,.int .i64 ((k+1):Nat)),(3,.slice A27 (((zl++[usy.length])).length) c28)] kR⟩
 omega
theorem nSizesA (A:Option Addr)(cap:Nat)(ts:List LV)(ls:List Lay)(hn:ls.length≤1000000)(hF:∀ i,i<ls.length→LayLen (ls.getD i lay0))(w:World)(h:Hp)(g:G w h)(hA:SlO 3 lvc lvd h A ts)(hN:NetL h ts ls):Calls Tryz.prog 31 #[.agg #[.slice A ts.length cap]] w (Ret w h (fun v h1=>∃ A c,v=.slice A (sizesA ls).length c∧(sizesA ls).length≤c∧SlO 1 natc 0 h1 A (sizesA ls))):=by
  by_cases h1:chkq ls=0
  · rw[sizesA0 h1];exact nSizes0 A cap ts ls hn hF (chk_net3 h1) h1 w h g hA hN
  · rw[sizesA1 h1]
    refine (nSizes1 A cap ts ls hn hF h1 w h g hA hN).mono ?_
    rintro _ w' ⟨_,h',rfl,u,rfl⟩
    exact ⟨_,h',rfl,u,none,0,rfl,Nat.le_refl _,SlO.nil⟩
theorem sClone0 (b o c:Nat)(l:List Rat)(hpos:0<l.length)(hl:l.length≤1000000)(w:World)(h:Hp)(g:G w h)(hA:SlO 5 qc 0 h (some ⟨b,o,none⟩) l) :
    Calls Tryz.prog 185 #[.slice (some ⟨b,o,none⟩) l.length c] w (Ret w h fun v h1=>SlN h.size 73 qc h1 v l):=by
 have hs:=SS.start g
 replace hs:=(hs.a_SlO hA)
 have hnil:([]:List Rat).length=0:=rfl
 refine go Tryz.func185 [(0,.slice (some ⟨b,o,none⟩) l.length c)] rfl ?_
 refine cSL (lL hs [.v 2 (.slice none 0 0)] (lN (CG.seq (cSL (lL hs [.m 3 0,.v 4 (.bool false)] (lN (cIF (CG.skipN (cSL (lRw 5 73 5 qc ([]:List Rat) hs (fun b1 w2 h3 hs=>?_)))))))))))
 refine lL hs [.m 6 0] (lYs 7 0 73 5 ((([]:List Rat)).length) (some ⟨b1,0,none⟩) ([]:List Rat) qc 0 (some ⟨b,o,none⟩) l c 56 (.agg #[.bool false,.int .u64 0,.string ⟨#[]⟩,.int .u64 0,.string ⟨#[]⟩]) hs (hs.f.1) oM (fun A6 c7 w8 h9 hs=>?_))
 refine lL hs [.m 2 7] (lN (CG.ret ?_))
 obtain ⟨hq,bq,spq,hs,hbq,hcq⟩:=hs.pubn 0 (A:=A6) (c:=c7) (ty:=73) (sz:=5) (l:=([]:List Rat)++l) (f:=qc) (by simpa using hpos)
 subst hbq
 exact hs.ret [] (.slice (some ⟨bq,0,none⟩) l.length c7) (⟨bq,_,spq,rfl,hcq,hs.f.1⟩)
theorem sClone (A:Option Addr)(n c:Nat)(l:List Rat)(hn:l.length=n)(hpos:0<n)(hl:n≤1000000)(w:World)(h:Hp)(g:G w h)(hA:SlO 5 qc 0 h A l):Calls Tryz.prog 185 #[.slice A n c] w (Ret w h fun v h1=>SlN h.size 73 qc h1 v l):=by
  subst hn
  have e:=hA.ok hpos
  rw[e] at hA ⊢
  exact sClone0 _ _ c l hpos hl w h g hA
theorem nNext (m rb c:Nat)(A:Option Addr)(l:List Rat)(hm0:0<m)(hm:m≤l.length)(hl:l.length≤1000000)(hc:l.length≤c)(w:World)(h:Hp)(g:G w h)(ho:Own w rb 75 [.slice A l.length c])(hj:h[rb]?=some junk)(hA:SlO 5 qc 0 h A l) :
    Calls Tryz.prog 184 #[.int .i64 (m:Nat),.pointer (some ⟨rb,0,none⟩)] w (RetM rb w h fun v w' h1=>SlN h.size 73 qc h1 v (l.take m)∧∃ A2 c2,Own w' rb 75 [.slice A2 (l.drop m).length c2]∧(l.drop m).length≤c2∧SlO 5 qc 0 h1 A2 (l.drop m)):=by
 have hmo:UpM [rb] w h w h:=UpM.refl g
 obtain ⟨wz,hz,hs⟩:=SS.at_ g ho hj
 replace hs:=(hs.a_SlO hA)
 refine go Tryz.func184 [(0,.int .i64 (m:Nat)),(1,.pointer (some ⟨rb,0,none⟩))] rfl ?_
 refine cSL (lL hs [.v 3 (.slice none 0 0)] (lNS (lL hs [.o 5 (.slice A l.length c) 0 0 1,.m 6 0] (lT 7 A l.length c 5 (m:Nat) m ?_))))
 have hsz:=hmo.gr.size
 refine lCu 8 (sClone A m c (l.take m) (by rw[List.length_take];omega) hm0 oM _ _ hs.g ((hs.f.1).take m)) ?_
 rintro _ w1 h2 u3 ⟨bq,cq,spq,rfl,hcq,hNq⟩
 replace hmo:=hmo.trans (u3.m _)
 replace hs:=hs.step u3
 replace hNq:=hNq.mono hsz
 replace hs:=(hs.add (K:=fun h_=>Nw h.size h_ bq 73 ((l.take m).flatMap qc++spq)) hNq)
 refine lL hs [.m 4 8] (lNS (lL hs [.o 9 (.slice A l.length c) 0 0 1,.m 10 0] (lF 11 A l.length c 5 (m:Nat) m ?_)))
 refine lPu 0 0 ([.slice (if c=m then A else A.map (·.add (m*5))) (l.length-m) (c-m)]) hs (fun w4 pu hs=>?_)
 replace hmo:=hmo.put pu (List.mem_singleton.2 rfl) hs.g
 exact lNS (lL hs [.m 12 4,.m 3 12] (lN (CG.ret (hs.retM hmo [] (.slice (some ⟨bq,0,none⟩) ((l.take m).length) cq) ⟨⟨bq,cq,spq,rfl,hcq,(hs.f.1)⟩,_,_,by rw[List.length_drop];exact hs.own 0,by rw[List.length_drop];omega,(hs.f.2.1).drop m c hc⟩))))
def QNs (K:Nat)(h:Hp)(us:List Value)(W:List (List Rat)):Prop:=∀ j,j<W.length→SlN K 73 qc h (us.getD j undef) (W.getD j [])
def LNew (K:Nat)(h:Hp)(t:LV)(L:Lay):Prop:=t.1=L.k∧(∃ us,SlN K 75 vc h t.2.1 us∧us.length=L.W.length∧QNs K h us L.W)∧SlN K 73 qc h t.2.2 L.B
structure NNew (K:Nat) (h:Hp) (ts:List LV) (ls:List Lay):Prop where
  len:ts.length=ls.length
  at_:∀ i,i<ls.length→LNew K h (ts.getD i lvd) (ls.getD i lay0)
def nums (d:Nat→Nat):Nat→Nat
  | 0=>0
  | k+1=>nums d k+d (k+1)*d k+d (k+1)
theorem nums_mono (d:Nat→Nat){k n:Nat}(h:k≤n):nums d k≤nums d n:=by
  induction h with
  | refl=>exact Nat.le_refl _
  | step _ ih=>exact Nat.le_trans ih (by show nums d _≤nums d _+_+_;omega)
def Shp (d:Nat→Nat)(zs:List Lay):Prop:=∀ i,i<zs.length→Mat (zs.getD i lay0).W (d (i+1)) (d i)∧(zs.getD i lay0).B.length=d (i+1)
theorem net_shp {ls:List Lay}{d:Nat→Nat}(o:Net3 ls d):Shp d ls:=fun i hi=>⟨(o.lay i hi).1,(o.lay i hi).2.1⟩
theorem Shp.take {d:Nat→Nat}{zs:List Lay}(s:Shp d zs)(k:Nat)(hk:k≤zs.length):(flatq (zs.take k)).length=nums d k:=by
  induction k with
  | zero=>simp[flatq,nums]
  | succ k ih =>
    obtain ⟨m,hb⟩:=s k oM
    rw[flatq_take oM,List.length_append,List.length_append,ih oM,flat_len m.mem,m.rows,hb];rfl
theorem Shp.size {d:Nat→Nat}{zs:List Lay}(s:Shp d zs):(flatq zs).length=nums d zs.length:=by
  have:=s.take zs.length (Nat.le_refl _)
  rwa [List.take_length] at this
theorem Shp.nil {d:Nat→Nat}:Shp d []:=fun i hi=>by simp at hi
theorem Shp.snoc {d:Nat→Nat}{zs:List Lay}{L:Lay}(s:Shp d zs)(m:Mat L.W (d (zs.length+1)) (d zs.length))(hb:L.B.length=d (zs.length+1)):Shp d (zs++[L]):=fun i hi=>by
  rw[List.length_append,List.length_singleton] at hi
  rw[getD_snoc]
  by_cases e:i<zs.length
  · rw[if_pos e];exact s i e
  · have:i=zs.length:=by omega
    subst this
    rw[if_neg e,if_pos rfl];exact ⟨m,hb⟩
theorem fill_end {d:Nat→Nat}{zs:List Lay}{xs rs:List Rat}(s:Shp d zs)(h:flatq zs++rs=xs)(hx:xs.length=nums d zs.length):flatq zs=xs:=by
  have h1:=s.size
  have h2:=congrArg List.length h
  rw[List.length_append] at h2
  have:rs=[]:=List.eq_nil_of_length_eq_zero oM
  rw[←h,this,List.append_nil]
theorem rest_len {d:Nat→Nat}{zs:List Lay}{W:List (List Rat)}{xs rs:List Rat}(s:Shp d zs)(hW:∀ r∈W,r.length=d zs.length)(h:flatq zs++W.flatten++rs=xs):rs.length+(nums d zs.length+W.length*d zs.length)=xs.length:=by
  have h1:=s.size
  have h2:=congrArg List.length h
  rw[List.length_append,List.length_append,flat_len hW] at h2
  omega
theorem mat_of {W:List (List Rat)}{r c:Nat}(h:W.length=r)(hr:0<r)(hc:0<c)(hW:∀ x∈W,x.length=c):Mat W r c:=⟨h,hr,hc,fun i hi=>hW _ (by
  rw[List.getD_eq_getElem?_getD,List.getElem?_eq_getElem oM];exact List.getElem_mem _)⟩
theorem rows_snoc' {W:List (List Rat)}{n:Nat}(h:∀ r∈W,r.length=n){q:List Rat}(hl:q.length=n):∀ r∈W++[q],r.length=n:=fun r hr=>by
  rcases List.mem_append.1 hr with hr|hr
  · exact h r hr
  · rw[List.mem_singleton.1 hr];exact hl
theorem kind_snoc {zs ls:List Lay}{L:Lay}(h:∀ i,i<zs.length→(zs.getD i lay0).k=(ls.getD i lay0).k)(hL:L.k=(ls.getD zs.length lay0).k):∀ i,i<(zs++[L]).length→((zs++[L]).getD i lay0).k=(ls.getD i lay0).k:=fun i hi=>by
  rw[List.length_append,List.length_singleton] at hi
  rw[getD_snoc]
  by_cases e:i<zs.length
  · rw[if_pos e];exact h i e
  · have:i=zs.length:=by omega
    subst this
    rw[if_neg e,if_pos rfl];exact hL
theorem take_cut {a l:List Rat}{m:Nat}:a++l.take m++l.drop m=a++l:=by rw[List.append_assoc,List.take_append_drop]
structure LayQ (L:Lay):Prop where
  rl:L.W.length≤1000000
  rls:∀ i,(L.W.getD i []).length≤1000000
  bl:L.B.length≤1000000
  w:∀ i j,LQ 100000000 ((L.W.getD i []).getD j 0)
  b:∀ i,LQ 100000000 (L.B.getD i 0)
def sumF (f:Nat→Rat):Nat→Rat
  | 0=>0
  | n+1=>sumF f n+f n
theorem sumF_congr {f g:Nat→Rat}{n:Nat}(h:∀ i,i<n→f i=g i):sumF f n=sumF g n:=by
  induction n with
  | zero=>rfl
  | succ n ih=>show sumF f n+f n=sumF g n+g n;rw[ih (fun i hi=>h i oM),h n oM]
theorem sumF_add (f g:Nat→Rat)(n:Nat):sumF (fun i=>f i+g i) n=sumF f n+sumF g n:=by
  induction n with
  | zero=>show (0:Rat)=0+0;rw[Rat.add_zero]
  | succ n ih=>show sumF (fun i=>f i+g i) n+(f n+g n)=(sumF f n+f n)+(sumF g n+g n);rw[ih];grind
theorem sumF_mul (c:Rat)(f:Nat→Rat)(n:Nat):sumF (fun i=>c*f i) n=c*sumF f n:=by
  induction n with
  | zero=>show (0:Rat)=c*0;rw[Rat.mul_zero]
  | succ n ih=>show sumF (fun i=>c*f i) n+c*f n=c*(sumF f n+f n);rw[ih];grind
theorem sumF_zero {f:Nat→Rat}{n:Nat}(h:∀ i,i<n→f i=0):sumF f n=0:=by
  induction n with
  | zero=>rfl
  | succ n ih=>show sumF f n+f n=0;rw[ih (fun i hi=>h i oM),h n oM,Rat.add_zero]
theorem sumF_swap (f:Nat→Nat→Rat)(m n:Nat):sumF (fun i=>sumF (f i) n) m=sumF (fun j=>sumF (fun i=>f i j) m) n:=by
  induction m with
  | zero=>exact (sumF_zero (fun _ _=>rfl)).symm
  | succ m ih =>
    show sumF (fun i=>sumF (f i) n) m+sumF (f m) n=_
    rw[ih,←sumF_add];rfl
theorem sumF_one {f:Nat→Rat}{n k:Nat}(hk:k<n)(h:∀ i,i<n→i≠k→f i=0):sumF f n=f k:=by
  induction n with
  | zero=>omega
  | succ n ih =>
    show sumF f n+f n=_
    by_cases e:k=n
    · subst e;rw[sumF_zero (fun i hi=>h i oM oM)];grind
    · rw[ih oM (fun i hi=>h i oM),h n oM (Ne.symm e),Rat.add_zero]
theorem dotq_sumF (a b:List Rat)(n:Nat):dotq a b n=sumF (fun i=>a.getD i 0*b.getD i 0) n:=by
  induction n with
  | zero=>rfl
  | succ n ih=>show dotq a b n+_=_;rw[ih];rfl
def slp (k:Int)(x:Rat):Rat:=if k=1 then 1 else if k=2 then (if 0<x then 1 else 0) else (((1:Int):Rat)/(((1:Int):Rat)+qabs x))*(((1:Int):Rat)/(((1:Int):Rat)+qabs x))
theorem one_abs_nz (x:Rat):((1:Int):Rat)+qabs x≠0:=fun e=>by
  have:=one_abs_pos x
  rw[e] at this;exact absurd this kD
theorem slq_slp (k:Int)(x d:Rat):slq k x d=d*slp k x:=by
  unfold slq slp
  split
  · rw[Rat.mul_one]
  · split
    · split
      · rw[Rat.mul_one]
      · rw[Rat.mul_zero]
    · have h:=one_abs_nz x
      have h1:((1:Int):Rat)=1:=rfl
      rw[h1] at h ⊢
      grind
theorem getD_mapR {α:Type}{n i:Nat}{f:Nat→α}{d:α}(h:i<n):((List.range n).map f).getD i d=f i:=by
  rw[List.getD_eq_getElem?_getD,List.getElem?_eq_getElem (by simpa using h)];simp
def inj (L:Lay)(x:List Rat)(q:Int)(r:Nat):Rat :=
  (if 0≤q-(r*x.length:Nat)∧q-(r*x.length:Nat)<(x.length:Nat) then x.getD (q-(r*x.length:Nat)).toNat 0 else 0)+(if q=(L.W.length*x.length+r:Nat) then 1 else 0)
def sumr (L:Lay)(x:List Rat)(r:Nat):Rat:=dotq (L.W.getD r []) x x.length+L.B.getD r 0
def tanl (L:Lay)(x dx:List Rat)(q:Int):List Rat:=(List.range L.W.length).map fun r=>slq L.k (sumr L x r) (dotq (L.W.getD r []) dx x.length+inj L x q r)
def atq (ls:List Lay)(xs:List Rat):Nat→Nat
  | 0=>0
  | k+1=>atq ls xs k+(ls.getD k lay0).W.length*(outq ls xs k).length+(ls.getD k lay0).W.length
def tanq (ls:List Lay)(xs:List Rat)(p:Int):Nat→List Rat
  | 0=>List.replicate xs.length 0
  | k+1=>tanl (ls.getD k lay0) (outq ls xs k) (tanq ls xs p k) (p-(atq ls xs k:Nat))
def delq (L:Lay)(x bar:List Rat)(r:Nat):Rat:=bar.getD r 0*slp L.k (sumr L x r)
def downq (L:Lay)(x bar:List Rat):List Rat:=(List.range x.length).map fun j=>sumF (fun r=>delq L x bar r*(L.W.getD r []).getD j 0) L.W.length
def barq (ls:List Lay)(xs top:List Rat)(n:Nat):Nat→List Rat
  | 0=>top
  | t+1=>downq (ls.getD (n-1-t) lay0) (outq ls xs (n-1-t)) (barq ls xs top n t)
def conq (L:Lay)(x bar:List Rat)(q:Int):Rat:=sumF (fun r=>delq L x bar r*inj L x q r) L.W.length
theorem adj_step (L:Lay)(x dx bar:List Rat)(q:Int):dotq bar (tanl L x dx q) L.W.length=dotq (downq L x bar) dx x.length+conq L x bar q:=by
  have e1:dotq bar (tanl L x dx q) L.W.length=sumF (fun r=>sumF (fun c=>delq L x bar r*(L.W.getD r []).getD c 0*dx.getD c 0) x.length+delq L x bar r*inj L x q r) L.W.length:=by
    rw[dotq_sumF]
    refine sumF_congr (fun r hr=>?_)
    unfold tanl
    rw[getD_mapR hr,slq_slp,dotq_sumF]
    have:(fun c=>delq L x bar r*(L.W.getD r []).getD c 0*dx.getD c 0)=fun c=>delq L x bar r*((L.W.getD r []).getD c 0*dx.getD c 0):=by funext c;rw[Rat.mul_assoc]
    rw[this,sumF_mul]
    unfold delq;grind
  have e2:dotq (downq L x bar) dx x.length=sumF (fun c=>sumF (fun r=>delq L x bar r*(L.W.getD r []).getD c 0*dx.getD c 0) L.W.length) x.length:=by
    rw[dotq_sumF]
    refine sumF_congr (fun c hc=>?_)
    unfold downq
    rw[getD_mapR hc,Rat.mul_comm,←sumF_mul]
    exact sumF_congr (fun r _=>by grind)
  rw[e1,e2,sumF_add,sumF_swap];rfl
def conqs (ls:List Lay)(xs top:List Rat)(p:Int)(n:Nat)(t:Nat):Rat:=sumF (fun s=>conq (ls.getD (n-1-s) lay0) (outq ls xs (n-1-s)) (barq ls xs top n s) (p-(atq ls xs (n-1-s):Nat))) t
theorem adj_all {ls:List Lay}{d:Nat→Nat}(o:Net3 ls d){xs:List Rat}(hx:xs.length=d 0)(top:List Rat)(p:Int):∀ t,t≤ls.length →
    dotq top (tanq ls xs p ls.length) (d ls.length)=dotq (barq ls xs top ls.length t) (tanq ls xs p (ls.length-t)) (d (ls.length-t))+conqs ls xs top p ls.length t
  | 0,_=>by show _=dotq top _ _+0;rw[Rat.add_zero];rfl
  | t+1,ht=>by
    rw[adj_all o hx top p t oM]
    have e:ls.length-t=(ls.length-1-t)+1:=by omega
    have e2:ls.length-(t+1)=ls.length-1-t:=by omega
    obtain ⟨k,hk⟩:∃ k,k=ls.length-1-t:=⟨_,rfl⟩
    have hkl:k<ls.length:=by omega
    have e3:=adj_step (ls.getD k lay0) (outq ls xs k) (tanq ls xs p k) (barq ls xs top ls.length t) (p-(atq ls xs k:Nat))
    rw[(o.lay k hkl).1.rows,outq_len o hx k oM] at e3
    rw[e,e2,←hk]
    have e4:tanq ls xs p (k+1)=tanl (ls.getD k lay0) (outq ls xs k) (tanq ls xs p k) (p-(atq ls xs k:Nat)):=rfl
    rw[e4,e3]
    have e5:barq ls xs top ls.length (t+1)=downq (ls.getD k lay0) (outq ls xs k) (barq ls xs top ls.length t):=by rw[hk];rfl
    have e6:conqs ls xs top p ls.length (t+1)=conqs ls xs top p ls.length t+conq (ls.getD k lay0) (outq ls xs k) (barq ls xs top ls.length t) (p-(atq ls xs k:Nat)):=by rw[hk];rfl
    rw[e5,e6];grind
theorem dotq_rep (a:List Rat)(m n:Nat):dotq a (List.replicate m 0) n=0:=dotq_zero _ _ rep_zero _
theorem adj_row {ls:List Lay}{d:Nat→Nat}(o:Net3 ls d){xs:List Rat}(hx:xs.length=d 0)(top:List Rat)(p:Int):dotq top (tanq ls xs p ls.length) (d ls.length)=conqs ls xs top p ls.length ls.length:=by
  rw[adj_all o hx top p ls.length (Nat.le_refl _),Nat.sub_self]
  show dotq _ (List.replicate _ _) _+_=_
  rw[dotq_rep];grind
def accl (S L:Lay)(x bar:List Rat):Lay :=
  ⟨S.k,(List.range L.W.length).map fun r=>(List.range x.length).map fun c=>(S.W.getD r []).getD c 0+delq L x bar r*x.getD c 0,(List.range L.W.length).map fun r=>S.B.getD r 0+delq L x bar r⟩
theorem flat_getR {c:Nat}:∀ {W:List (List Rat)} {r:Nat},(∀ q∈W,q.length=c)→r<W.length→∀ j,j<c→W.flatten.getD (r*c+j) 0=(W.getD r []).getD j 0
  | [],r,_,hr,_,_=>by simp at hr
  | q::W,0,h,_,j,hj=>by
    rw[List.flatten_cons,Nat.zero_mul,Nat.zero_add,getD_app_,if_pos (by rw[h q (by simp)];exact hj)];rfl
  | q::W,r+1,h,hr,j,hj=>by
    have hq:=h q (by simp)
    rw[List.flatten_cons,getD_app_,if_neg (by rw[hq,Nat.add_mul];omega),hq,show (r+1)*c+j-c=r*c+j by rw[Nat.add_mul];omega]
    rw[flat_getR (fun x hx=>h x (by simp[hx])) (by simpa using hr) j hj];rfl
def layGet (L:Lay)(c:Nat)(q:Nat):Rat:=if q<L.W.length*c then (L.W.getD (q/c) []).getD (q%c) 0 else L.B.getD (q-L.W.length*c) 0
theorem flatL_get {L:Lay}{r c:Nat}(m:Mat L.W r c)(q:Nat):(flatL L).getD q 0=layGet L c q:=by
  unfold flatL layGet
  rw[getD_app_,flat_len m.mem]
  split
  · rename_i h
    have h1:q/c<L.W.length:=Nat.div_lt_of_lt_mul (by rw[Nat.mul_comm];exact h)
    have h2:q%c<c:=Nat.mod_lt _ m.cpos
    have:=flat_getR m.mem h1 _ h2
    rw[Nat.mul_comm,Nat.div_add_mod] at this
    exact this
  · rfl
theorem conq_in {S L:Lay}{x bar:List Rat}{r c:Nat}(m:Mat L.W r c)(hx:x.length=c)(q:Nat)(hq:q<r*c+r) :
    layGet (accl S L x bar) c q=layGet S c q+conq L x bar (q:Int)∨S.W.length≠r:=by
  by_cases hS:S.W.length=r
  · left
    have hr:=m.rows
    have hc:=m.cpos
    unfold layGet accl
    simp only[List.length_map,List.length_range]
    rw[hr,hS]
    split
    · rename_i h
      have h1:q/c<r:=Nat.div_lt_of_lt_mul (by rw[Nat.mul_comm];exact h)
      have h2:q%c<c:=Nat.mod_lt _ hc
      rw[getD_mapR h1,getD_mapR (by rw[hx];exact h2)]
      congr 1
      unfold conq
      rw[hr,sumF_one (k:=q/c) h1]
      · have e:(q:Int)-((q/c*x.length:Nat):Int)=((q%c:Nat):Int):=by
          rw[hx];have:=Nat.div_add_mod q c;rw[Nat.mul_comm] at this;omega
        unfold inj
        rw[e,hx,hr,if_pos ⟨by omega,by omega⟩,if_neg (fun e2=>by have e3:=Int.ofNat_inj.1 e2;have e4:=Nat.le_add_right (r*c) (q/c);omega),Rat.add_zero];rfl
      · intro i hi hne
        have e:¬(0≤(q:Int)-((i*x.length:Nat):Int)∧(q:Int)-((i*x.length:Nat):Int)<((x.length:Nat):Int)):=by
          rintro ⟨a,b⟩
          rw[hx] at a b
          apply hne
          have a':i*c≤q:=by omega
          have b':q<(i+1)*c:=by rw[Nat.add_mul];omega
          exact (Nat.div_eq_of_lt_le a' b').symm
        unfold inj
        rw[if_neg e,hx,hr,if_neg (fun e2=>by have e3:=Int.ofNat_inj.1 e2;have e4:=Nat.le_add_right (r*c) i;omega),Rat.add_zero,Rat.mul_zero]
    · rename_i h
      have h1:q-r*c<r:=by omega
      rw[getD_mapR h1]
      congr 1
      unfold conq
      rw[hr,sumF_one (k:=q-r*c) h1]
      · unfold inj
        rw[hx,hr,if_neg (by
          rintro ⟨a,b⟩
          have hle:((q-r*c)+1)*c≤r*c:=Nat.mul_le_mul_right _ oM
          rw[Nat.add_mul] at hle
          omega),if_pos oM,Rat.zero_add,Rat.mul_one]
      · intro i hi hne
        unfold inj
        rw[hx,hr,if_neg (by
          rintro ⟨a,b⟩
          have hle:(i+1)*c≤r*c:=Nat.mul_le_mul_right _ oM
          rw[Nat.add_mul] at hle
          omega),if_neg oM,Rat.add_zero,Rat.mul_zero]
  · exact .inr hS
theorem conq_out {L:Lay}{x bar:List Rat}{r c:Nat}(m:Mat L.W r c)(hx:x.length=c)(q:Int)(hq:q<0∨((r*c+r:Nat):Int)≤q):conq L x bar q=0:=by
  have hr:=m.rows
  refine sumF_zero (fun i hi=>?_)
  rw[hr] at hi
  have hle:(i+1)*c≤r*c:=Nat.mul_le_mul_right _ oM
  rw[Nat.add_mul] at hle
  unfold inj
  rw[hx,hr,if_neg (by rintro ⟨a,b⟩;omega),if_neg oM,Rat.add_zero,Rat.mul_zero]
theorem sumF_succ' (f:Nat→Rat)(n:Nat):sumF f (n+1)=f 0+sumF (fun i=>f (i+1)) n:=by
  induction n with
  | zero=>show (0:Rat)+f 0=f 0+0;grind
  | succ n ih=>show sumF f (n+1)+f (n+1)=f 0+(sumF (fun i=>f (i+1)) n+f (n+1));rw[ih];grind
theorem sumF_rev (f:Nat→Rat)(n:Nat):sumF (fun s=>f (n-1-s)) n=sumF f n:=by
  induction n with
  | zero=>rfl
  | succ n ih =>
    rw[sumF_succ']
    have e:sumF (fun i=>f (n+1-1-(i+1))) n=sumF (fun s=>f (n-1-s)) n:=sumF_congr (fun i hi=>by rw[show n+1-1-(i+1)=n-1-i by omega])
    rw[e,ih]
    show f (n+1-1-0)+sumF f n=sumF f n+f n
    rw[show n+1-1-0=n by omega];grind
theorem getD_outR {α:Type}{l:List α}{i:Nat}{d:α}(h:l.length≤i):l.getD i d=d:=by rw[List.getD_eq_getElem?_getD,List.getElem?_eq_none h];rfl
theorem flatq_get {zs:List Lay}{d:Nat→Nat}(s:Shp d zs)(p:Nat):∀ k,k≤zs.length→(flatq (zs.take k)).getD p 0=sumF (fun m=>if nums d m≤p∧p<nums d (m+1) then layGet (zs.getD m lay0) (d m) (p-nums d m) else 0) k
  | 0,_=>by simp[flatq];rfl
  | k + 1,hk=>by
    have ih:=flatq_get s p k oM
    have hl:=s.take k oM
    obtain ⟨m,hb⟩:=s k oM
    have e:flatq (zs.take (k+1))=flatq (zs.take k)++flatL (zs.getD k lay0):=by rw[flatq_take oM,List.append_assoc];rfl
    show _=sumF _ k+(if nums d k≤p∧p<nums d (k+1) then layGet (zs.getD k lay0) (d k) (p-nums d k) else 0)
    rw[←ih,e,getD_app_,hl,flatL_get m]
    have hn:nums d (k+1)=nums d k+d (k+1)*d k+d (k+1):=rfl
    split
    · rename_i h
      rw[if_neg oM,Rat.add_zero]
    · rename_i h
      rw[getD_outR (l:=flatq (zs.take k)) oM]
      by_cases h2:p<nums d (k+1)
      · rw[if_pos ⟨by omega,h2⟩,Rat.zero_add]
      · rw[if_neg oM,Rat.add_zero]
        unfold layGet
        rw[m.rows,if_neg oM,getD_outR oM]
theorem atq_nums {ls:List Lay}{d:Nat→Nat}(o:Net3 ls d){xs:List Rat}(hx:xs.length=d 0):∀ k,k≤ls.length→atq ls xs k=nums d k
  | 0,_=>rfl
  | k+1,hk=>by
    show atq ls xs k+_*_+_=nums d k+_*_+_
    rw[atq_nums o hx k oM,outq_len o hx k oM,(o.lay k oM).1.rows]
def accn (ls zs:List Lay)(xs top:List Rat):List Lay:=(List.range ls.length).map fun m=>accl (zs.getD m lay0) (ls.getD m lay0) (outq ls xs m) (barq ls xs top ls.length (ls.length-1-m))
theorem accl_shp {S L:Lay}{x bar:List Rat}{r c:Nat}(m:Mat L.W r c)(hx:x.length=c):Mat (accl S L x bar).W r c∧(accl S L x bar).B.length=r:=by
  refine ⟨⟨by simp[accl,m.rows],m.rpos,m.cpos,fun i hi=>?_⟩,by simp[accl,m.rows]⟩
  show ((List.map _ _).getD i []).length=c
  rw[getD_mapR (by rw[m.rows];exact hi),List.length_map,List.length_range];exact hx
theorem accn_len {ls zs:List Lay}{xs top:List Rat}:(accn ls zs xs top).length=ls.length:=by simp[accn]
theorem accn_at {ls zs:List Lay}{xs top:List Rat}{m:Nat}(h:m<ls.length):(accn ls zs xs top).getD m lay0=accl (zs.getD m lay0) (ls.getD m lay0) (outq ls xs m) (barq ls xs top ls.length (ls.length-1-m)):=getD_mapR h
theorem accn_shp {ls zs:List Lay}{d:Nat→Nat}(o:Net3 ls d){xs:List Rat}(hx:xs.length=d 0)(top:List Rat):Shp d (accn ls zs xs top):=fun i hi=>by
  rw[accn_len] at hi
  rw[accn_at hi]
  exact accl_shp (o.lay i hi).1 (outq_len o hx i oM)
theorem accn_get {ls zs:List Lay}{d:Nat→Nat}(o:Net3 ls d){xs:List Rat}(hx:xs.length=d 0)(top:List Rat)(s:Shp d zs)(hz:zs.length=ls.length)(p:Nat) :
    (flatq (accn ls zs xs top)).getD p 0=(flatq zs).getD p 0+conqs ls xs top (p:Int) ls.length ls.length:=by
  have h1:=flatq_get (accn_shp (zs:=zs) o hx top) p ls.length (by rw[accn_len];omega)
  have h2:=flatq_get s p ls.length oM
  rw[List.take_of_length_le (by rw[accn_len];omega)] at h1
  rw[List.take_of_length_le oM] at h2
  have h3:conqs ls xs top (p:Int) ls.length ls.length=sumF (fun m=>conq (ls.getD m lay0) (outq ls xs m) (barq ls xs top ls.length (ls.length-1-m)) ((p:Int)-(nums d m:Nat))) ls.length:=by
    unfold conqs
    rw[←sumF_rev (fun m=>conq (ls.getD m lay0) (outq ls xs m) (barq ls xs top ls.length (ls.length-1-m)) ((p:Int)-(nums d m:Nat)))]
    refine sumF_congr (fun i hi=>?_)
    rw[atq_nums o hx _ oM,show ls.length-1-(ls.length-1-i)=i by omega]
  rw[h1,h2,h3,←sumF_add]
  refine sumF_congr (fun m hm=>?_)
  have hn:nums d (m+1)=nums d m+d (m+1)*d m+d (m+1):=rfl
  have hM:=(o.lay m hm).1
  have hX:=outq_len o hx m oM
  by_cases hp:nums d m≤p∧p<nums d (m+1)
  · rw[if_pos hp,if_pos hp,accn_at hm]
    have e:(p:Int)-(nums d m:Nat)=((p-nums d m:Nat):Int):=by omega
    rw[e]
    rcases conq_in (S:=zs.getD m lay0) (bar:=barq ls xs top ls.length (ls.length-1-m)) hM hX (p-nums d m) oM with h|h
    · exact h
    · exact absurd (s m oM).1.rows h
  · rw[if_neg hp,if_neg hp,conq_out hM hX _ oM,Rat.add_zero]
def topq (z y:List Rat):List Rat:=(List.range z.length).map fun i=>(z.getD i 0-y.getD i 0)*((2:Int):Rat)
def gradN (ls z0:List Lay)(xss yss:List (List Rat)):Nat→List Lay
  | 0=>z0
  | r+1=>accn ls (gradN ls z0 xss yss r) (xss.getD r []) (topq (outq ls (xss.getD r []) ls.length) (yss.getD r []))
def gradP (ls:List Lay)(xss yss:List (List Rat))(p:Nat)(r:Nat):Rat :=
  sumF (fun i=>dotq (topq (outq ls (xss.getD i []) ls.length) (yss.getD i [])) (tanq ls (xss.getD i []) (p:Int) ls.length) (outq ls (xss.getD i []) ls.length).length) r
theorem gradN_shp {ls z0:List Lay}{d:Nat→Nat}(o:Net3 ls d){xss yss:List (List Rat)}(hx:∀ i,i<xss.length→(xss.getD i []).length=d 0)(s:Shp d z0)(hz:z0.length=ls.length):∀ r,r≤xss.length→Shp d (gradN ls z0 xss yss r)∧(gradN ls z0 xss yss r).length=ls.length
  | 0,_=>⟨s,hz⟩
  | r+1,h=>⟨accn_shp o (hx r oM) _,accn_len⟩
theorem gradN_get {ls z0:List Lay}{d:Nat→Nat}(o:Net3 ls d){xss yss:List (List Rat)}(hx:∀ i,i<xss.length→(xss.getD i []).length=d 0)(s:Shp d z0)(hz:z0.length=ls.length)(h0:∀ p,(flatq z0).getD p 0=0)(p:Nat) :
    ∀ r,r≤xss.length→(flatq (gradN ls z0 xss yss r)).getD p 0=gradP ls xss yss p r
  | 0,_=>h0 p
  | r+1,h=>by
    obtain ⟨h1,h2⟩:=gradN_shp (yss:=yss) o hx s hz r oM
    show (flatq (accn _ _ _ _)).getD p 0=_
    rw[accn_get o (hx r oM) _ h1 h2,gradN_get o hx s hz h0 p r oM]
    show _=gradP ls xss yss p r+dotq (topq (outq ls (xss.getD r []) ls.length) (yss.getD r [])) (tanq ls (xss.getD r []) (p:Int) ls.length) (outq ls (xss.getD r []) ls.length).length
    rw[outq_len o (hx r oM) _ (Nat.le_refl _),adj_row o (hx r oM)]
theorem gradN_flat {ls z0:List Lay}{d:Nat→Nat}(o:Net3 ls d){xss yss:List (List Rat)}(hx:∀ i,i<xss.length→(xss.getD i []).length=d 0)(s:Shp d z0)(hz:z0.length=ls.length)(h0:∀ p,(flatq z0).getD p 0=0) :
    flatq (gradN ls z0 xss yss xss.length)=(List.range (flatq ls).length).map fun p=>gradP ls xss yss p xss.length:=by
  obtain ⟨h1,h2⟩:=gradN_shp (yss:=yss) o hx s hz xss.length (Nat.le_refl _)
  have e1:=h1.size
  have e2:=(net_shp o).size
  rw[h2] at e1
  refine List.ext_getElem (by simp[e1,e2]) (fun p a b=>?_)
  have:=gradN_get o hx s hz h0 (yss:=yss) p xss.length (Nat.le_refl _)
  rw[List.getD_eq_getElem?_getD,List.getElem?_eq_getElem a] at this
  simp only[List.getElem_map,List.getElem_range]
  exact this
theorem lq_get {k:Nat}{l:List Rat}(h:∀ q∈l,LQ k q)(hk:1≤k)(j:Nat):LQ k (l.getD j 0):=by
  rw[List.getD_eq_getElem?_getD]
  cases hh:l[j]? with
  | none=>exact lq0 hk
  | some q=>exact h q (List.mem_of_getElem? hh)
def knownN:List Lay:=[⟨2,[[((1:Int):Rat),((-1:Int):Rat)]],[((0:Int):Rat)]⟩]
theorem knownChk:chkq knownN=0:=by
  have hF:Fine knownN 0:=⟨⟨by decide,by decide,fun i hi=>(by obtain rfl:i=0:=Nat.lt_one_iff.1 hi;rfl)⟩,by decide,rfl,fun _=>by decide,fun h=>absurd h kD⟩
  have hK:Kd knownN 0:=⟨by decide,by decide⟩
  unfold chkq
  rw[if_pos ⟨by decide,by decide⟩]
  have e:chkFrom knownN 0 (0+1)=0:=by
    unfold chkFrom
    rw[if_pos hF,if_pos hK];rfl
  exact e
theorem knownSz (i:Nat):LaySz (knownN.getD i lay0):=by
  rcases Nat.eq_zero_or_pos i with h|h
  · subst h
    refine ⟨by decide,fun i=>?_,by decide,fun i j=>?_,lq_get (by intro q hq;have:q=((0:Int):Rat):=List.mem_singleton.1 hq;rw[this];exact LQ.lit kD) oM,by decide,by decide⟩
    · cases i with
      | zero=>decide
      | succ i=>exact Nat.zero_le _
    · cases i with
      | zero=>exact lq_get (by intro q hq;rcases List.mem_cons.1 hq with rfl|hq;exact LQ.lit kD;rw[List.mem_singleton.1 hq];exact LQ.lit kD) oM j
      | succ i=>exact lq0 oM
  · obtain ⟨k,rfl⟩:∃ k,i=k+1:=⟨i-1,by omega⟩
    exact lay0_sz
theorem knownE (a:Int):ansE knownN [(a:Rat),((2:Int):Rat)]=0:=ansE0 knownChk rfl
theorem knownL1:ansL knownN [((1:Int):Rat),((2:Int):Rat)]=[0]:=by rw[ansL0 (xs:=[((1:Int):Rat),((2:Int):Rat)]) knownChk rfl];decide +kernel
theorem knownL5:ansL knownN [((5:Int):Rat),((2:Int):Rat)]=[3]:=by rw[ansL0 (xs:=[((5:Int):Rat),((2:Int):Rat)]) knownChk rfl];decide +kernel
theorem lKnown30  (w:World)(h:Hp)(g:G w h)(tb:Tab h) :
    Calls Tryz.prog 12 #[] w (Ret w h fun v _=>v=.bool true):=by
 have hs:=SS.start g
 replace hs:=(hs.add (K:=fun h_=>Tab h_) tb)
 have hk1:(ansL knownN ([((1:Int):Rat),((2:Int):Rat)]:List Rat)).length=1:=by rw[knownL1];rfl
 have hk5:(ansL knownN ([((5:Int):Rat),((2:Int):Rat)]:List Rat)).length=1:=by rw[knownL5];rfl
 refine go Tryz.func12 [] rfl ?_
 refine cSL (lL hs [.v 0 (.bool false)] (lNS (lC 6 hs (fOf 1 oM oM _ _ hs.g) ?_)))
 rintro _ w1 h2 hs rfl
 refine lC 7 hs (fOf (-1) oM oM _ _ hs.g) ?_
 rintro _ w3 h4 hs rfl
 refine lR 8 73 2 ([.bool (ineg ((1:Int):Rat).num),.int .u64 (lo (iabs ((1:Int):Rat).num)),.string (hi (iabs ((1:Int):Rat).num)),.int .u64 (lo (qd ((1:Int):Rat))),.string (hi (qd ((1:Int):Rat))),.bool (ineg ((-1:Int):Rat).num),.int .u64 (lo (iabs ((-1:Int):Rat).num)),.string (hi (iabs ((-1:Int):Rat).num)),.int .u64 (lo (qd ((-1:Int):Rat))),.string (hi (qd ((-1:Int):Rat)))]) hs (fun b5 w6 h7 hs=>?_)
 replace hs:=hs.a_SlO (SlO.of_flat (sz:=5) (f:=qc) (d:=0) (b:=b5) (o:=0) (l:=([((1:Int):Rat),((-1:Int):Rat)]:List Rat)) (fun _=>rfl) (hs.f.1))
 refine lR 9 75 1 ([.slice (some ⟨b5,0,none⟩) 2 2]) hs (fun b10 w11 h12 hs=>?_)
 replace hs:=hs.a_SlO (SlO.of_flat (sz:=1) (f:=vc) (d:=undef) (b:=b10) (o:=0) (l:=([.slice (some ⟨b5,0,none⟩) 2 2]:List Value)) (fun _=>rfl) (hs.f.1))
 refine lC 10 hs (fOf 0 oM oM _ _ hs.g) ?_
 rintro _ w15 h16 hs rfl
 refine lR 11 73 1 (qc ((0:Int):Rat)) hs (fun b17 w18 h19 hs=>?_)
 replace hs:=hs.a_SlO (SlO.of_flat (sz:=5) (f:=qc) (d:=0) (b:=b17) (o:=0) (l:=([((0:Int):Rat)]:List Rat)) (fun _=>rfl) (hs.f.1))
 refine lL hs [.v 12 (.agg #[.int .i64 2,.slice (some ⟨b10,0,none⟩) 1 1,.slice (some ⟨b17,0,none⟩) 1 1])] (lR 13 77 1 ([.int .i64 2,.slice (some ⟨b10,0,none⟩) 1 1,.slice (some ⟨b17,0,none⟩) 1 1]) hs (fun b22 w23 h24 hs=>?_))
 replace hs:=hs.a_SlO (SlO.of_flat (sz:=3) (f:=lvc) (d:=lvd) (b:=b22) (o:=0) (l:=([(2,.slice (some ⟨b10,0,none⟩) 1 1,.slice (some ⟨b17,0,none⟩) 1 1)]:List LV)) (fun _=>rfl) (hs.f.1))
 replace hs:=hs.add (K:=fun h_=>NetL h_ ([(2,.slice (some ⟨b10,0,none⟩) 1 1,.slice (some ⟨b17,0,none⟩) 1 1)]:List LV) knownN) (NetL.snoc NetL.nil ⟨rfl,⟨_,_,([.slice (some ⟨b5,0,none⟩) 2 2]:List Value),rfl,Nat.le_refl _,(hs.f.2.2.2.2.1),QVs.snoc QVs.nil ⟨_,_,rfl,Nat.le_refl _,(hs.f.2.2.2.2.2.2.1)⟩⟩,⟨_,_,rfl,Nat.le_refl _,(hs.f.2.2.1)⟩⟩)
 refine lL hs [.v 14 (.agg #[.slice (some ⟨b22,0,none⟩) 1 1])] (lA 1 28 ([.slice none 0 0]) hs (fun b27 w28 h29 hs=>?_))
 refine lP 0 0 ([.slice (some ⟨b22,0,none⟩) 1 1]) hs (fun w30 hs=>?_)
 refine lN (CG.seq (cR 8 [] mixed hs al_nil ?_))
 refine eO 0 16 [(0,0,1)] (.agg #[.slice (some ⟨b22,0,none⟩) 1 1]) hs ?_
 refine eC 1 17 hs (fun _ _ hs=>fOf 1 oM oM _ _ hs.g) ?_
 rintro _ _ _ w31 h32 hs rfl
 refine eC 2 18 hs (fun _ _ hs=>fOf 2 oM oM _ _ hs.g) ?_
 rintro _ _ _ w33 h34 hs rfl
 refine eR 3 19 73 2 ([.bool (ineg ((1:Int):Rat).num),.int .u64 (lo (iabs ((1:Int):Rat).num)),.string (hi (iabs ((1:Int):Rat).num)),.int .u64 (lo (qd ((1:Int):Rat))),.string (hi (qd ((1:Int):Rat))),.bool (ineg ((2:Int):Rat).num),.int .u64 (lo (iabs ((2:Int):Rat).num)),.string (hi (iabs ((2:Int):Rat).num)),.int .u64 (lo (qd ((2:Int):Rat))),.string (hi (qd ((2:Int):Rat)))]) hs (fun b35 w36 h37 hs=>?_)
 replace hs:=hs.a_SlO (SlO.of_flat (sz:=5) (f:=qc) (d:=0) (b:=b35) (o:=0) (l:=([((1:Int):Rat),((2:Int):Rat)]:List Rat)) (fun _=>rfl) (hs.f.1))
 refine eC 4 20 hs (fun _ _ hs=>nAnswer (some ⟨b22,0,none⟩) 1 ([(2,.slice (some ⟨b10,0,none⟩) 1 1,.slice (some ⟨b17,0,none⟩) 1 1)]:List LV) knownN kD (fun i _=>(knownSz i).len) (some ⟨b35,0,none⟩) 2 ([((1:Int):Rat),((2:Int):Rat)]:List Rat) (Nat.le_refl _) (fun _ h2=>netB (chk_net3 knownChk) knownSz h2 (lq_get (by intro q hq;simp only[List.mem_cons,List.not_mem_nil,or_false] at hq;rcases hq with rfl|rfl<;>exact LQ.lit kD) oM)) _ _ hs.g (hs.f.2.2.2.1) (hs.f.2.2.1) (hs.f.1) (hs.f.2.2.2.2.2.2.2.2.2.2.2.1)) ?_
 rintro _ _ _ w40 h41 hs ⟨Aa1,ca1,rfl,hca1,hAa1⟩
 replace hs:=(hs.a_SlO hAa1)
 refine eV 5 15 (.tuple #[.slice Aa1 ((ansL knownN ([((1:Int):Rat),((2:Int):Rat)]:List Rat)).length) ca1,.int .i64 (ansE knownN ([((1:Int):Rat),((2:Int):Rat)]:List Rat))]) ?_
 refine eV 6 21 (.slice Aa1 ((ansL knownN ([((1:Int):Rat),((2:Int):Rat)]:List Rat)).length) ca1) ?_
 refine eV 7 22 (.int .i64 (ansE knownN ([((1:Int):Rat),((2:Int):Rat)]:List Rat))) ?_
 refine eD0 hs (fun w42 h43 hs=>?_)
 refine tV 8 2 (.slice Aa1 ((ansL knownN ([((1:Int):Rat),((2:Int):Rat)]:List Rat)).length) ca1) ?_
 refine tV 9 3 (.int .i64 (ansE knownN ([((1:Int):Rat),((2:Int):Rat)]:List Rat))) ?_
 refine tN (CG.seq (cR 8 [] mixed hs al_nil ?_))
 refine eO 0 24 [(0,0,1)] (.agg #[.slice (some ⟨b22,0,none⟩) 1 1]) hs ?_
 refine eC 1 25 hs (fun _ _ hs=>fOf 5 oM oM _ _ hs.g) ?_
 rintro _ _ _ w44 h45 hs rfl
 refine eC 2 26 hs (fun _ _ hs=>fOf 2 oM oM _ _ hs.g) ?_
 rintro _ _ _ w46 h47 hs rfl
 refine eR 3 27 73 2 ([.bool (ineg ((5:Int):Rat).num),.int .u64 (lo (iabs ((5:Int):Rat).num)),.string (hi (iabs ((5:Int):Rat).num)),.int .u64 (lo (qd ((5:Int):Rat))),.string (hi (qd ((5:Int):Rat))),.bool (ineg ((2:Int):Rat).num),.int .u64 (lo (iabs ((2:Int):Rat).num)),.string (hi (iabs ((2:Int):Rat).num)),.int .u64 (lo (qd ((2:Int):Rat))),.string (hi (qd ((2:Int):Rat)))]) hs (fun b48 w49 h50 hs=>?_)
 replace hs:=hs.a_SlO (SlO.of_flat (sz:=5) (f:=qc) (d:=0) (b:=b48) (o:=0) (l:=([((5:Int):Rat),((2:Int):Rat)]:List Rat)) (fun _=>rfl) (hs.f.1))
 refine eC 4 28 hs (fun _ _ hs=>nAnswer (some ⟨b22,0,none⟩) 1 ([(2,.slice (some ⟨b10,0,none⟩) 1 1,.slice (some ⟨b17,0,none⟩) 1 1)]:List LV) knownN kD (fun i _=>(knownSz i).len) (some ⟨b48,0,none⟩) 2 ([((5:Int):Rat),((2:Int):Rat)]:List Rat) (Nat.le_refl _) (fun _ h2=>netB (chk_net3 knownChk) knownSz h2 (lq_get (by intro q hq;simp only[List.mem_cons,List.not_mem_nil,or_false] at hq;rcases hq with rfl|rfl<;>exact LQ.lit kD) oM)) _ _ hs.g (hs.f.2.2.2.2.2.2.1) (hs.f.2.2.2.2.2.1) (hs.f.1) (hs.f.2.2.2.2.2.2.2.2.2.2.2.2.2.2.1)) ?_
 rintro _ _ _ w53 h54 hs ⟨Aa5,ca5,rfl,hca5,hAa5⟩
 replace hs:=(hs.a_SlO hAa5)
 refine eV 5 23 (.tuple #[.slice Aa5 ((ansL knownN ([((5:Int):Rat),((2:Int):Rat)]:List Rat)).length) ca5,.int .i64 (ansE knownN ([((5:Int):Rat),((2:Int):Rat)]:List Rat))]) ?_
 refine eV 6 29 (.slice Aa5 ((ansL knownN ([((5:Int):Rat),((2:Int):Rat)]:List Rat)).length) ca5) ?_
 refine eV 7 30 (.int .i64 (ansE knownN ([((5:Int):Rat),((2:Int):Rat)]:List Rat))) ?_
 refine eD0 hs (fun w55 h56 hs=>?_)
 refine tV 8 4 (.slice Aa5 ((ansL knownN ([((5:Int):Rat),((2:Int):Rat)]:List Rat)).length) ca5) ?_
 refine tV 9 5 (.int .i64 (ansE knownN ([((5:Int):Rat),((2:Int):Rat)]:List Rat))) ?_
 refine tNS ?_
 refine lL hs [.m 31 3] ?_
 have hb57:((ansE knownN ([((1:Int):Rat),((2:Int):Rat)]:List Rat):Int) == (0:Int))=true:=by rw[knownE];rfl
 have phb57:=eq_of_beq hb57
 refine lB 32 hb57 ?_
 refine lL hs [.m 33 32,.m 34 2,.v 35 (.int .i64 ((ansL knownN ([((1:Int):Rat),((2:Int):Rat)]:List Rat)).length:Nat))] ?_
 have hb58:((((ansL knownN ([((1:Int):Rat),((2:Int):Rat)]:List Rat)).length:Nat):Int) == (1:Int))=true:=by rw[hk1];rfl
 have phb58:=eq_of_beq hb58
 refine lB 36 hb58 ?_
 refine lL hs [.v 37 (.bool true),.m 38 37,.m 39 2] (lX 40 Aa1 ((ansL knownN ([((1:Int):Rat),((2:Int):Rat)]:List Rat)).length) ca1 5 0 0 ((hs.f.2.2.2.1).ok oM) ?_)
 refine lH 41 (qv ((ansL knownN ([((1:Int):Rat),((2:Int):Rat)]:List Rat)).getD 0 0)) hs ((hs.f.2.2.2.1).el 0 oM) ?_
 refine lC 42 hs (hIs ((ansL knownN ([((1:Int):Rat),((2:Int):Rat)]:List Rat)).getD 0 0) 0 1 (by rw[knownL1];exact ⟨by decide +kernel,by decide +kernel⟩) kD kD kD kD kD _ _ hs.g) ?_
 rintro _ w59 h60 hs rfl
 have hb61:(sameQ ((ansL knownN ([((1:Int):Rat),((2:Int):Rat)]:List Rat)).getD 0 0) (mkR 0 1))=true:=by rw[knownL1];decide +kernel
 rw[hb61]
 refine lL hs [.v 43 (.bool true),.m 44 43,.m 45 5] ?_
 have hb62:((ansE knownN ([((5:Int):Rat),((2:Int):Rat)]:List Rat):Int) == (0:Int))=true:=by rw[knownE];rfl
 have phb62:=eq_of_beq hb62
 refine lB 46 hb62 ?_
 refine lL hs [.v 47 (.bool true),.m 48 47,.m 49 4] (lX 50 Aa5 ((ansL knownN ([((5:Int):Rat),((2:Int):Rat)]:List Rat)).length) ca5 5 0 0 ((hs.f.1).ok oM) ?_)
 refine lH 51 (qv ((ansL knownN ([((5:Int):Rat),((2:Int):Rat)]:List Rat)).getD 0 0)) hs ((hs.f.1).el 0 oM) ?_
 refine lC 52 hs (hIs ((ansL knownN ([((5:Int):Rat),((2:Int):Rat)]:List Rat)).getD 0 0) 3 1 (by rw[knownL5];exact ⟨by decide +kernel,by decide +kernel⟩) kD kD kD kD kD _ _ hs.g) ?_
 rintro _ w63 h64 hs rfl
 have hb65:(sameQ ((ansL knownN ([((5:Int):Rat),((2:Int):Rat)]:List Rat)).getD 0 0) (mkR 3 1))=true:=by rw[knownL5];decide +kernel
 rw[hb65]
 refine lL hs [.v 53 (.bool true),.m 0 53] (lN (cTo [(0,.bool true)] ?_))
 exact CG.ret (hs.ret [] (.bool true) rfl)
theorem clsq0 {ls:List Lay}{xs:List Rat}(h1:chkq ls=0)(h2:xs.length=dOf ls 0):clsq ls xs=((topF (outq ls xs ls.length) (outq ls xs ls.length).length:Nat):Int):=by unfold clsq;rw[if_pos ⟨h1,h2⟩,ansL0 h1 h2]
theorem getD_mem {α:Type}{l:List α}{i:Nat}{d:α}(h:i<l.length):l.getD i d∈l:=by
  rw[List.getD_eq_getElem?_getD,List.getElem?_eq_getElem h];exact List.getElem_mem h
theorem SlO.natInt {h:Hp}{A:Option Addr}{l:List Nat}(s:SlO 1 natc 0 h A l):SlO 1 i64c 0 h A (l.map fun n:Nat=>(n:Int)):=⟨fun hp=>s.ok (by rw[List.length_map] at hp;exact hp),fun i hi=>by
  rw[List.length_map] at hi
  have x:=s.el i hi
  have e:(l.map fun n:Nat=>(n:Int)).getD i 0=((l.getD i 0:Nat):Int):=by simp[List.getD_eq_getElem?_getD,hi]
  rw[e];exact x⟩
theorem hSameNats (A:Option Addr)(ca:Nat)(xs:List Nat)(D:Option Addr)(cd:Nat)(hl:xs.length≤1000000)(w:World)(h:Hp)(g:G w h)(hA:SlO 1 natc 0 h A xs)(hD:SlO 1 natc 0 h D xs) :
    Calls Tryz.prog 30 #[.slice A xs.length ca,.slice D xs.length cd] w (Ret w h fun v _=>v=.bool true):=by
  have x:=hSameInts A ca (xs.map fun n:Nat=>(n:Int)) (xs.map fun n:Nat=>(n:Int)) D cd (by rw[List.length_map];exact hl) (by rw[List.length_map];exact hl) w h g hA.natInt hD.natInt
  rw[List.length_map,decide_eq_true (rfl:(xs.map fun n:Nat=>(n:Int))=xs.map fun n:Nat=>(n:Int))] at x
  exact x
theorem sign_bd' (z:Int) : -1≤z.sign∧z.sign≤1:=by
  rcases Int.lt_trichotomy z 0 with h|h|h
  · rw[Int.sign_eq_neg_one_of_neg h];decide
  · rw[h];decide
  · rw[Int.sign_eq_one_of_pos h];decide
theorem slp1 (u:Rat):slp 1 u=((1:Int):Rat):=by unfold slp;rw[if_pos rfl];rfl
theorem slp2 (u:Rat):slp 2 u=((max u.num.sign 0:Int):Rat):=by
  unfold slp
  rw[if_neg kD,if_pos rfl]
  by_cases h:0<u
  · rw[if_pos h,Int.sign_eq_one_of_pos (num_pos'.1 h)];rfl
  · have h2:¬0<u.num:=fun x=>h (num_pos'.2 x)
    have h3:max u.num.sign 0=0:=by
      rcases Int.lt_trichotomy u.num 0 with g|g|g
      · rw[Int.sign_eq_neg_one_of_neg g];decide
      · rw[g];decide
      · exact absurd g h2
    rw[if_neg h,h3];rfl
theorem slp3 (u:Rat):slp 3 u=(((1:Int):Rat)/(((1:Int):Rat)+qabs u))*(((1:Int):Rat)/(((1:Int):Rat)+qabs u)):=by unfold slp;rw[if_neg kD,if_neg kD]
theorem LQ.slp {m:Nat}{u:Rat}(k:Int)(h:LQ m u):LQ (2*m+6) (slp k u):=by
  unfold Go.Proofs.YticblaklfnadoaaGreatDoor.slp
  split
  · exact (LQ.lit (z:=1) kD).mono oM
  · split
    · split
      · exact (LQ.lit (z:=1) kD).mono oM
      · exact lq0 oM
    · have h1:LQ 1 (((1:Int):Rat)):=LQ.lit (z:=1) kD
      have h2:=h1.div (h1.add h.abs)
      exact (h2.mul h2).mono oM
def fitE (nx wx ny wy d0 dn:Nat):Int:=if 1≤nx∧nx≤300∧ny=nx∧wx=d0∧wy=dn then 0 else 5
theorem fitE0 {nx wx ny wy d0 dn:Nat}(h:1≤nx∧nx≤300∧ny=nx∧wx=d0∧wy=dn):fitE nx wx ny wy d0 dn=0:=if_pos h
theorem fitE5 {nx wx ny wy d0 dn:Nat}(h:¬(1≤nx∧nx≤300∧ny=nx∧wx=d0∧wy=dn)):fitE nx wx ny wy d0 dn=5:=if_neg h
noncomputable def netE (ls:List Lay)(nx wx ny wy:Nat):Int:=if chkq ls=0 then fitE nx wx ny wy (dOf ls 0) (dOf ls ls.length) else 1
theorem netE_0 {ls:List Lay}{nx wx ny wy:Nat}(h:chkq ls=0):netE ls nx wx ny wy=fitE nx wx ny wy (dOf ls 0) (dOf ls ls.length):=if_pos h
theorem netE_1 {ls:List Lay}{nx wx ny wy:Nat}(h:chkq ls≠0):netE ls nx wx ny wy=1:=if_neg h
theorem netE0 {ls:List Lay}{nx wx ny wy:Nat}(h:netE ls nx wx ny wy=0):chkq ls=0∧1≤nx∧ny=nx∧wx=dOf ls 0∧wy=dOf ls ls.length:=by
  by_cases c:chkq ls=0
  · rw[netE_0 c] at h
    by_cases g:1≤nx∧nx≤300∧ny=nx∧wx=dOf ls 0∧wy=dOf ls ls.length
    · exact ⟨c,g.1,g.2.2.1,g.2.2.2.1,g.2.2.2.2⟩
    · rw[fitE5 g] at h;exact absurd h kD
  · rw[netE_1 c] at h;exact absurd h kD
def rowloss (z y:List Rat):Nat→Rat
  | 0=>0
  | j+1=>rowloss z y j+(z.getD j 0-y.getD j 0)*(z.getD j 0-y.getD j 0)
def lossq (ls:List Lay)(xss yss:List (List Rat)):Nat→Rat
  | 0=>0
  | r+1=>lossq ls xss yss r+rowloss (outq ls (xss.getD r []) ls.length) (yss.getD r []) (outq ls (xss.getD r []) ls.length).length
theorem nSlp1 (u:Rat)(w:World)(h:Hp)(g:G w h) :
    Calls Tryz.prog 186 #[.int .i64 1,qv u] w (Ret w h fun v _=>v=qv ((1:Int):Rat)):=by
 have hs:=SS.start g
 refine go Tryz.func186 [(0,.int .i64 1),(1,qv u)] rfl ?_
 refine cSL (lA 3 73 (qc u) hs (fun b1 w2 h3 hs=>?_))
 refine lA 4 73 ([.bool false,.int .u64 0,.string ⟨#[]⟩,.int .u64 0,.string ⟨#[]⟩]) hs (fun b4 w5 h6 hs=>?_)
 refine lN (CG.seq (cSL (lL hs [.m 7 0] (lN (CG.block (cSL (lL hs [.v 9 (.bool false),.m 8 9] (lN (cIF (cSL (lL hs [.v 15 (.bool false),.m 14 15] (lN (cIF (CG.skipN (cSL (lC 28 hs (fOf 1 oM oM _ _ hs.g) ?_))))))))))))))))
 rintro _ w7 h8 hs rfl
 refine lP 0 0 (qc ((1:Int):Rat)) hs (fun w9 hs=>?_)
 exact lN (CG.ret (hs.ret [(0,0,5)] (qv ((1:Int):Rat)) rfl))
theorem nSlp2 (u:Rat)(hu:LQ 45000000 u)(w:World)(h:Hp)(g:G w h) :
    Calls Tryz.prog 186 #[.int .i64 2,qv u] w (Ret w h fun v _=>v=qv ((max u.num.sign 0:Int):Rat)):=by
 have hs:=SS.start g
 have hsg:=sign_bd' u.num
 refine go Tryz.func186 [(0,.int .i64 2),(1,qv u)] rfl ?_
 refine cSL (lA 3 73 (qc u) hs (fun b1 w2 h3 hs=>?_))
 refine lA 4 73 ([.bool false,.int .u64 0,.string ⟨#[]⟩,.int .u64 0,.string ⟨#[]⟩]) hs (fun b4 w5 h6 hs=>?_)
 refine lN (CG.seq (cSL (lL hs [.m 7 0] (lN (CG.block (cSL (lL hs [.v 9 (.bool true),.m 8 9] (lN (cIT (cSL (lL hs [.o 10 (qv u) 1 0 5] (lC 11 hs (fSign u (LQ.mono hu oM) _ _ hs.g) ?_))))))))))))
 rintro _ w7 h8 hs rfl
 refine lV 12 (.int .i64 (max (u.num.sign:Int) (0:Int))) ?_ (hr:=rint (n:=(if (0:Int)>(u.num.sign:Int) then (0:Int) else (u.num.sign:Int))) kR (by simp only[imax2]))
 have hq9:LQ (1) (((max (u.num.sign:Int) (0:Int):Int):Rat)):=LQ.int oM oM
 refine lC 13 hs (fOf (max (u.num.sign:Int) (0:Int)) oM oM _ _ hs.g) ?_
 rintro _ w10 h11 hs rfl
 refine lP 0 0 (qc ((max (u.num.sign:Int) (0:Int):Int):Rat)) hs (fun w12 hs=>?_)
 exact lN (CG.ret (hs.ret [(0,0,5)] (qv ((max (u.num.sign:Int) (0:Int):Int):Rat)) rfl))
theorem nSlp3 (u:Rat)(hu:LQ 45000000 u)(w:World)(h:Hp)(g:G w h)(tb:Tab h) :
    Calls Tryz.prog 186 #[.int .i64 3,qv u] w (Ret w h fun v _=>v=qv ((((1:Int):Rat)/(((1:Int):Rat)+qabs u))*(((1:Int):Rat)/(((1:Int):Rat)+qabs u)))):=by
 have hs:=SS.start g
 replace hs:=(hs.add (K:=fun h_=>Tab h_) tb)
 refine go Tryz.func186 [(0,.int .i64 3),(1,qv u)] rfl ?_
 refine cSL (lA 3 73 (qc u) hs (fun b1 w2 h3 hs=>?_))
 refine lA 4 73 ([.bool false,.int .u64 0,.string ⟨#[]⟩,.int .u64 0,.string ⟨#[]⟩]) hs (fun b4 w5 h6 hs=>?_)
 refine lN (CG.seq (cSL (lL hs [.m 7 0] (lN (CG.block (cSL (lL hs [.v 9 (.bool false),.m 8 9] (lN (cIF (cSL (lL hs [.v 15 (.bool true),.m 14 15] (lN (cIT (CG.seq ?_))))))))))))))
 have hsr:=hs
 refine cR 10 [⟨9,5,.cells (List.toArray [.bool false,.int .u64 0,.string ⟨#[]⟩,.int .u64 0,.string ⟨#[]⟩]) 73 (0,0)⟩] mixed hs (al_cons (alOk kR (fun _ _=>by kernel_rfl)) al_nil) ?_
 refine eO 2 19 [(1,0,5)] (qv u) hs ?_
 refine eC 0 17 hs (fun _ _ hs=>fOf 1 oM oM _ _ hs.g) ?_
 rintro _ _ _ w7 h8 hs rfl
 refine eC 1 18 hs (fun _ _ hs=>fOf 1 oM oM _ _ hs.g) ?_
 rintro _ _ _ w9 h10 hs rfl
 have hq11:LQ (45000000) (qabs u):=LQ.abs hu
 refine eC 3 20 hs (fun _ _ hs=>fAbs u (LQ.mono hu oM) _ _ hs.g) ?_
 rintro _ _ _ w12 h13 hs rfl
 have hq14:=LQ.add (LQ.lit (z:=1) kD) hq11
 refine eC 4 21 hs (fun _ _ hs=>fAdd ((1:Int):Rat) (qabs u) (LQ.mono (LQ.lit (z:=1) kD) oM) (LQ.mono hq11 oM) _ _ hs.g (hs.f.1)) ?_
 rintro _ _ _ w15 h16 hs rfl
 have hq17:=LQ.div (LQ.lit (z:=1) kD) hq14
 refine eC 5 22 hs (fun _ _ hs=>fDivN ((1:Int):Rat) (((1:Int):Rat)+(qabs u)) (LQ.mono (LQ.lit (z:=1) kD) oM) (LQ.mono hq14 oM) (one_abs_ne u) _ _ hs.g (hs.f.1)) ?_
 rintro _ _ _ w18 h19 hs rfl
 refine eV 6 16 (.tuple #[qv (((1:Int):Rat)/(((1:Int):Rat)+(qabs u))),.bool true]) ?_
 refine eV 7 23 (qv (((1:Int):Rat)/(((1:Int):Rat)+(qabs u)))) ?_
 refine eV 8 24 (.bool true) ?_
 refine eD1p [] hsr hs 73 [.bool false,.int .u64 0,.string ⟨#[]⟩,.int .u64 0,.string ⟨#[]⟩] (fun w20 h21 b22 hs=>?_)
 refine tP 10 0 0 (qc (((1:Int):Rat)/(((1:Int):Rat)+(qabs u)))) hs (fun w23 hs=>?_)
 refine tV 11 6 (.bool true) ?_
 refine tNS ?_
 refine lL hs [.o 25 (qv (((1:Int):Rat)/(((1:Int):Rat)+(qabs u)))) 0 0 5,.o 26 (qv (((1:Int):Rat)/(((1:Int):Rat)+(qabs u)))) 0 0 5] ?_
 have hq24:=LQ.mul hq17 hq17
 refine lC 27 hs (fMul (((1:Int):Rat)/(((1:Int):Rat)+(qabs u))) (((1:Int):Rat)/(((1:Int):Rat)+(qabs u))) (LQ.mono hq17 oM) (LQ.mono hq17 oM) _ _ hs.g (hs.f.1)) ?_
 rintro _ w25 h26 hs rfl
 refine lP 1 0 (qc ((((1:Int):Rat)/(((1:Int):Rat)+(qabs u)))*(((1:Int):Rat)/(((1:Int):Rat)+(qabs u))))) hs (fun w27 hs=>?_)
 exact lN (CG.ret (hs.ret [(1,0,5)] (qv ((((1:Int):Rat)/(((1:Int):Rat)+(qabs u)))*(((1:Int):Rat)/(((1:Int):Rat)+(qabs u))))) rfl))
theorem nSlope (k:Int)(hk:k=1∨k=2∨k=3)(u:Rat)(hu:LQ 45000000 u)(w:World)(h:Hp)(g:G w h)(tb:Tab h):Calls Tryz.prog 186 #[.int .i64 k,qv u] w (Ret w h fun v _=>v=qv (slp k u)):=by
  rcases hk with rfl|rfl|rfl
  · rw[slp1];exact nSlp1 u w h g
  · rw[slp2];exact nSlp2 u hu w h g
  · rw[slp3];exact nSlp3 u hu w h g tb
theorem nSuits (A:Option Addr)(cap:Nat)(ts:List LV)(ls:List Lay)(d:Nat→Nat)(hO:Net3 ls d)(X:Option Addr)(c0:Nat)(xs:List Rat)(w:World)(h:Hp)(g:G w h)(hA:SlO 3 lvc lvd h A ts)(hN:NetL h ts ls)(hX:SlO 5 qc 0 h X xs):Calls Tryz.prog 79 #[.agg #[.slice A ts.length cap],.slice X xs.length c0] w (Ret w h fun v _=>v=.bool (decide (xs.length=d 0))):=by
  by_cases e:xs.length=d 0
  · rw[decide_eq_true e];exact nSuitsT A cap ts ls d hO X c0 xs e w h g hA hN hX
  · rw[decide_eq_false e];exact nSuitsF A cap ts ls d hO X c0 xs e w h g hA hN hX
theorem nFits (A:Option Addr)(cap:Nat)(ts:List LV)(ls:List Lay)(d:Nat→Nat)(hO:Net3 ls d)(X:Option Addr)(cX:Nat)(ux:List Value)(xss:List (List Rat))(Y:Option Addr)(cY:Nat)(uy:List Value)(yss:List (List Rat))(wx wy:Nat)(hxw:∀ i,i<xss.length→(xss.getD i []).length=wx)(hyw:∀ i,i<yss.length→(yss.getD i []).length=wy)(w:World)(h:Hp)(g:G w h)(hA:SlO 3 lvc lvd h A ts)(hN:NetL h ts ls)(hX:SlO 1 vc undef h X ux)(hU:QVs h ux xss)(hY:SlO 1 vc undef h Y uy)(hV:QVs h uy yss) :
    Calls Tryz.prog 114 #[.agg #[.slice A ts.length cap],.slice X ux.length cX,.slice Y uy.length cY] w (Ret w h fun v _=>v=.int .i64 (fitE xss.length wx yss.length wy (d 0) (d ls.length))):=by
 have hs:=SS.start g
 replace hs:=((((((hs.a_SlO hA).add (K:=fun h_=>NetL h_ ts ls) hN).a_SlO hX).add (K:=fun h_=>QVs h_ ux xss) hU).a_SlO hY).add (K:=fun h_=>QVs h_ uy yss) hV)
 have hl:=(hs.f.2.2.2.2.1).len
 obtain ⟨o1,o2⟩:=hO.len
 have o3:=hO.first
 have hux:=(hs.f.2.2.1).len
 have huy:=(hs.f.1).len
 refine go Tryz.func114 [(0,.agg #[.slice A ts.length cap]),(1,.slice X ux.length cX),(2,.slice Y uy.length cY)] rfl ?_
 refine cSL (lA 3 28 ([.slice A ts.length cap]) hs (fun b1 w2 h3 hs=>?_))
 refine lL hs [.v 6 (.int .i64 0)] (lN (CG.seq (cSL (lL hs [.m 9 1,.v 10 (.int .i64 (ux.length:Nat))] ?_))))
 cases hb4:(decide (((ux.length:Nat):Int)<(1:Int)))
 ·
  have phb4:=oF hb4
  refine lB 11 hb4 ?_
  refine lL hs [.m 12 11,.m 13 1,.v 14 (.int .i64 (ux.length:Nat))] ?_
  cases hb5:(decide ((300:Int)<((ux.length:Nat):Int)))
  ·
   have phb5:=oF hb5
   refine lB 15 hb5 ?_
   refine lL hs [.v 16 (.bool false),.m 17 16,.m 18 2,.v 19 (.int .i64 (uy.length:Nat)),.m 20 1,.v 21 (.int .i64 (ux.length:Nat))] ?_
   cases hb6:(((uy.length:Nat):Int) != ((ux.length:Nat):Int))
   ·
    have phb6:=eqOfBne hb6
    refine lB 22 hb6 ?_
    refine lL hs [.v 23 (.bool false)] (lN (cIF (CG.skipN (cSL (lL hs [.v 24 (.pointer (some ⟨b1,0,none⟩)),.o 25 (.slice A ts.length cap) 0 0 1,.v 26 (.pointer (some ⟨b1,0,none⟩)),.o 27 (.slice A ts.length cap) 0 0 1,.v 28 (.int .i64 (ts.length:Nat))] (lIn 29 ((ts.length:Nat)-1) (ts.length-1) ?_))))))
    refine lX 30 A ts.length cap 3 (ts.length-1:Nat) (ts.length-1) ((hs.f.2.2.2.2.2.1).ok oM) ?_
    refine lL hs [.v 31 (.pointer (some ⟨(aB A),aO A+(ts.length-1)*3+1,none⟩))] ?_
    obtain ⟨ekz,⟨AWz,cWz,usz,eWz,hcWz,hAWz,hUz⟩,⟨ABz,cBz,eBz,hcBz,hABz⟩⟩:=(hs.f.2.2.2.2.1).at_ (ts.length-1) oM
    obtain ⟨mtz,lbz,r12z,kdz⟩:=hO.lay (ts.length-1) oM
    have luz:=hUz.len;have mrz:=mtz.rows;have mpz:=mtz.rpos;have mcz:=mtz.cpos;have m0z:=mtz.row 0 oM
    replace hs:=(((hs.a_SlO hAWz).add (K:=fun h_=>QVs h_ usz (ls.getD (ts.length-1) lay0).W) hUz).a_SlO hABz)
    refine lHe 32 ((ts.getD (ts.length-1) lvd).2.1) hs (((hs.f.2.2.2.2.2.2.2.2.1).el (ts.length-1) oM).part 1 1) eWz ?_
    have hdl:d (ts.length-1+1)=d ls.length:=by rw[show ts.length-1+1=ls.length by omega]
    refine lL hs [.v 33 (.int .i64 (usz.length:Nat)),.m 7 33] (lN (CG.seq (cSL (lL hs [.m 34 1,.v 35 (.int .i64 (ux.length:Nat)),.v 36 (.int .i64 0)] (lN (CG.block (cTo [(1,.slice X ux.length cX),(2,.slice Y uy.length cY),(3,.pointer (some ⟨b1,0,none⟩)),(7,.int .i64 (usz.length:Nat)),(35,.int .i64 (ux.length:Nat)),(36,.int .i64 0)] ?_)))))))
    refine CG.loop (fun μ_ Γ w_=>∃ (r:Nat) (h_:Hp),μ_=xss.length-r∧Γ=[(1,.slice X ux.length cX),(2,.slice Y uy.length cY),(3,.pointer (some ⟨b1,0,none⟩)),(7,.int .i64 (usz.length:Nat)),(35,.int .i64 (ux.length:Nat)),(36,.int .i64 (r:Nat))]∧SS w h w_ h_ [⟨b1,28,[.slice A ts.length cap]⟩] [] [fun h_=>SlO 5 qc 0 h_ ABz (ls.getD (ts.length-1) lay0).B,fun h_=>QVs h_ usz (ls.getD (ts.length-1) lay0).W,fun h_=>SlO 1 vc undef h_ AWz usz,fun h_=>QVs h_ uy yss,fun h_=>SlO 1 vc undef h_ Y uy,fun h_=>QVs h_ ux xss,fun h_=>SlO 1 vc undef h_ X ux,fun h_=>NetL h_ ts ls,fun h_=>SlO 3 lvc lvd h_ A ts]∧(r≤xss.length)∧(0<r→wx=d 0∧wy=d ls.length)) _ ⟨0,h3,rfl,rfl,hs.to _ _,Nat.zero_le _,fun h0=>absurd h0 (Nat.lt_irrefl 0)⟩ ?_
    rintro _ _ w7 ⟨r,h8,hm9,rfl,hs,hr,hok⟩
    refine cSL ?_
    cases hb10:(decide (((r:Nat):Int)<((ux.length:Nat):Int)))
    ·
     have phb10:=oF hb10
     refine lB 37 hb10 ?_
     refine lN (CG.seq (cIF (CG.exit ?_)))
     show CG _ _ _ _ _ _ _ _
     exact cSL (lL hs [.v 6 (.int .i64 0)] (lN (CG.ret (hs.ret [] (.int .i64 0) (by rw[fitE0 oM])))))
    have phb10:=oT hb10
    refine lB 37 hb10 ?_
    refine lN (CG.seq (cIT (CG.skipN (CG.seq (CG.block (cSL (lL hs [.m 38 36,.m 8 38] (lN (CG.seq (cR 16 [] mixed hs al_nil ?_))))))))))
    have hxl:=hxw r oM
    have hyl:=hyw r oM
    refine eO 0 39 [(0,0,1)] (.agg #[.slice A ts.length cap]) hs ?_
    refine eV 1 40 (.slice X ux.length cX) ?_
    refine eV 2 41 (.int .i64 (r:Nat)) ?_
    refine eX 3 42 X ux.length cX 1 (r:Nat) r ((hs.f.2.2.2.2.2.2.1).ok oM) ?_
    obtain ⟨Aqx,cqx,eqx,hcqx,hRqx⟩:=(hs.f.2.2.2.2.2.1).at_ r oM
    replace hs:=(hs.a_SlO hRqx)
    refine eHe 4 43 (ux.getD r undef) hs ((hs.f.2.2.2.2.2.2.2.1).el r oM) eqx ?_
    refine eC 5 44 hs (fun _ _ hs=>nSuits A cap ts ls d hO Aqx cqx (xss.getD r []) _ _ hs.g (hs.f.2.2.2.2.2.2.2.2.2.1) (hs.f.2.2.2.2.2.2.2.2.1) (hs.f.1)) ?_
    rintro _ _ _ w11 h12 hs rfl
    cases hb13:(decide ((xss.getD r []).length=d 0))
    ·
     have phb13:=oF hb13
     refine eV 6 45 (.bool true) ?_
     refine eV 7 46 (.bool true) ?_
     refine eG 8 47 ?_
     refine eG 9 48 ?_
     refine eG 10 49 ?_
     refine eG 11 50 ?_
     refine eG 12 51 ?_
     refine eG 13 52 ?_
     refine eG 14 53 ?_
     refine eV 15 54 (.bool true) ?_
     refine eD0 hs (fun w14 h15 hs=>?_)
     exact tN (cIT (cSL (lL hs [.v 6 (.int .i64 5)] (lN (CG.ret (hs.ret [] (.int .i64 5) (by rw[fitE5 oM])))))))
    have phb13:=oT hb13
    refine eV 6 45 (.bool false) ?_
    refine eV 7 46 (.bool false) ?_
    refine eV 8 47 (.slice Y uy.length cY) ?_
    refine eV 9 48 (.int .i64 (r:Nat)) ?_
    refine eX 10 49 Y uy.length cY 1 (r:Nat) r ((hs.f.2.2.2.2.2.1).ok oM) ?_
    obtain ⟨Aqy,cqy,eqy,hcqy,hRqy⟩:=(hs.f.2.2.2.2.1).at_ r oM
    replace hs:=(hs.a_SlO hRqy)
    refine eHe 11 50 (uy.getD r undef) hs ((hs.f.2.2.2.2.2.2.1).el r oM) eqy ?_
    refine eV 12 51 (.int .i64 ((yss.getD r []).length:Nat)) ?_
    refine eV 13 52 (.int .i64 (usz.length:Nat)) ?_
    cases hb16:((((yss.getD r []).length:Nat):Int) != ((usz.length:Nat):Int))
    ·
     have phb16:=eqOfBne hb16
     refine eB 14 53 hb16 ?_
     refine eV 15 54 (.bool false) ?_
     refine eD0 hs (fun w17 h18 hs=>?_)
     refine tN (cIF (CG.skipN (CG.listed (lIn 55 ((r:Nat)+1) (r+1) ?_))))
     refine lL hs [.m 36 55] (lD ?_)
     intro a_ ka
     have q19:(r+1)≤xss.length:=by omega
     have q20:0<(r+1)→wx=d 0∧wy=d ls.length:=fun _=>by omega
     replace hs:=hs.tl.tl
     refine ⟨_,_,?_,⟨r+1,h18,rfl,rfl,hs.to _ _,q19,q20⟩,ka.to [(1,.slice X ux.length cX),(2,.slice Y uy.length cY),(3,.pointer (some ⟨b1,0,none⟩)),(7,.int .i64 (usz.length:Nat)),(35,.int .i64 (ux.length:Nat)),(36,.int .i64 ((r+1):Nat))] kR⟩
     omega
    have phb16:=neOfBne hb16
    refine eB 14 53 hb16 ?_
    refine eV 15 54 (.bool true) ?_
    refine eD0 hs (fun w21 h22 hs=>?_)
    exact tN (cIT (cSL (lL hs [.v 6 (.int .i64 5)] (lN (CG.ret (hs.ret [] (.int .i64 5) (by rw[fitE5 oM])))))))
   have phb6:=neOfBne hb6
   refine lB 22 hb6 ?_
   exact lL hs [.v 23 (.bool true)] (lN (cIT (cSL (lL hs [.v 6 (.int .i64 5)] (lN (CG.ret (hs.ret [] (.int .i64 5) (by rw[fitE5 oM]))))))))
  have phb5:=oT hb5
  refine lB 15 hb5 ?_
  refine lL hs [.v 16 (.bool true),.m 17 16] (lG 18 ?_)
  refine lG 19 ?_
  refine lG 20 ?_
  refine lG 21 ?_
  refine lG 22 ?_
  exact lL hs [.v 23 (.bool true)] (lN (cIT (cSL (lL hs [.v 6 (.int .i64 5)] (lN (CG.ret (hs.ret [] (.int .i64 5) (by rw[fitE5 oM]))))))))
 have phb4:=oT hb4
 refine lB 11 hb4 ?_
 refine lL hs [.m 12 11] (lG 13 ?_)
 refine lG 14 ?_
 refine lG 15 ?_
 refine lL hs [.v 16 (.bool true),.m 17 16] (lG 18 ?_)
 refine lG 19 ?_
 refine lG 20 ?_
 refine lG 21 ?_
 refine lG 22 ?_
 exact lL hs [.v 23 (.bool true)] (lN (cIT (cSL (lL hs [.v 6 (.int .i64 5)] (lN (CG.ret (hs.ret [] (.int .i64 5) (by rw[fitE5 oM]))))))))
theorem nRefused1 (A:Option Addr)(cap:Nat)(ts:List LV)(ls:List Lay)(hn:ls.length≤1000000)(hF:∀ i,i<ls.length→LayLen (ls.getD i lay0))(X:Option Addr)(cX:Nat)(ux:List Value)(xss:List (List Rat))(Y:Option Addr)(cY:Nat)(uy:List Value)(yss:List (List Rat))(wx wy:Nat)(hxw:∀ i,i<xss.length→(xss.getD i []).length=wx)(hyw:∀ i,i<yss.length→(yss.getD i []).length=wy)(h1:chkq ls≠0)(w:World)(h:Hp)(g:G w h)(hA:SlO 3 lvc lvd h A ts)(hN:NetL h ts ls)(hX:SlO 1 vc undef h X ux)(hU:QVs h ux xss)(hY:SlO 1 vc undef h Y uy)(hV:QVs h uy yss) :
    Calls Tryz.prog 62 #[.agg #[.slice A ts.length cap],.slice X ux.length cX,.slice Y uy.length cY] w (Ret w h fun v _=>v=.int .i64 1):=by
 have hs:=SS.start g
 replace hs:=((((((hs.a_SlO hA).add (K:=fun h_=>NetL h_ ts ls) hN).a_SlO hX).add (K:=fun h_=>QVs h_ ux xss) hU).a_SlO hY).add (K:=fun h_=>QVs h_ uy yss) hV)
 refine go Tryz.func62 [(0,.agg #[.slice A ts.length cap]),(1,.slice X ux.length cX),(2,.slice Y uy.length cY)] rfl ?_
 refine cSL (lA 3 28 ([.slice A ts.length cap]) hs (fun b1 w2 h3 hs=>?_))
 refine lL hs [.v 6 (.int .i64 0)] (lN (CG.seq (cSL (lL hs [.o 7 (.agg #[.slice A ts.length cap]) 0 0 1] (lC 8 hs (nCheckG A cap ts ls hn hF _ _ hs.g (hs.f.2.2.2.2.2.1) (hs.f.2.2.2.2.1)) ?_)))))
 rintro _ w4 h5 hs rfl
 have hb6:((chkq ls:Int) != (0:Int))=true:=bneT h1
 have phb6:=neOfBne hb6
 refine lB 9 hb6 ?_
 exact lN (cIT (cSL (lL hs [.v 6 (.int .i64 1)] (lN (CG.ret (hs.ret [] (.int .i64 1) rfl))))))
theorem nRefused0 (A:Option Addr)(cap:Nat)(ts:List LV)(ls:List Lay)(hn:ls.length≤1000000)(hF:∀ i,i<ls.length→LayLen (ls.getD i lay0))(X:Option Addr)(cX:Nat)(ux:List Value)(xss:List (List Rat))(Y:Option Addr)(cY:Nat)(uy:List Value)(yss:List (List Rat))(wx wy:Nat)(hxw:∀ i,i<xss.length→(xss.getD i []).length=wx)(hyw:∀ i,i<yss.length→(yss.getD i []).length=wy)(h1:chkq ls=0)(w:World)(h:Hp)(g:G w h)(hA:SlO 3 lvc lvd h A ts)(hN:NetL h ts ls)(hX:SlO 1 vc undef h X ux)(hU:QVs h ux xss)(hY:SlO 1 vc undef h Y uy)(hV:QVs h uy yss) :
    Calls Tryz.prog 62 #[.agg #[.slice A ts.length cap],.slice X ux.length cX,.slice Y uy.length cY] w (Ret w h fun v _=>v=.int .i64 (fitE xss.length wx yss.length wy (dOf ls 0) (dOf ls ls.length))):=by
 have hs:=SS.start g
 replace hs:=((((((hs.a_SlO hA).add (K:=fun h_=>NetL h_ ts ls) hN).a_SlO hX).add (K:=fun h_=>QVs h_ ux xss) hU).a_SlO hY).add (K:=fun h_=>QVs h_ uy yss) hV)
 refine go Tryz.func62 [(0,.agg #[.slice A ts.length cap]),(1,.slice X ux.length cX),(2,.slice Y uy.length cY)] rfl ?_
 refine cSL (lA 3 28 ([.slice A ts.length cap]) hs (fun b1 w2 h3 hs=>?_))
 refine lL hs [.v 6 (.int .i64 0)] (lN (CG.seq (cSL (lL hs [.o 7 (.agg #[.slice A ts.length cap]) 0 0 1] (lC 8 hs (nCheckG A cap ts ls hn hF _ _ hs.g (hs.f.2.2.2.2.2.1) (hs.f.2.2.2.2.1)) ?_)))))
 rintro _ w4 h5 hs rfl
 have hb6:((chkq ls:Int) != (0:Int))=false:=bneF' h1
 have phb6:=eqOfBne hb6
 refine lB 9 hb6 ?_
 refine lN (cIF (CG.skipN (cSL (lL hs [.o 10 (.agg #[.slice A ts.length cap]) 0 0 1,.m 11 1,.m 12 2] (lC 13 hs (nFits A cap ts ls (dOf ls) (chk_net3 h1) X cX ux xss Y cY uy yss wx wy hxw hyw _ _ hs.g (hs.f.2.2.2.2.2.1) (hs.f.2.2.2.2.1) (hs.f.2.2.2.1) (hs.f.2.2.1) (hs.f.2.1) (hs.f.1)) ?_)))))
 rintro _ w7 h8 hs rfl
 exact lL hs [.m 6 13] (lN (CG.ret (hs.ret [] (.int .i64 (fitE xss.length wx yss.length wy (dOf ls 0) (dOf ls ls.length))) rfl)))
theorem nRefused (A:Option Addr)(cap:Nat)(ts:List LV)(ls:List Lay)(hn:ls.length≤1000000)(hF:∀ i,i<ls.length→LayLen (ls.getD i lay0))(X:Option Addr)(cX:Nat)(ux:List Value)(xss:List (List Rat))(Y:Option Addr)(cY:Nat)(uy:List Value)(yss:List (List Rat))(wx wy:Nat)(hxw:∀ i,i<xss.length→(xss.getD i []).length=wx)(hyw:∀ i,i<yss.length→(yss.getD i []).length=wy)(w:World)(h:Hp)(g:G w h)(hA:SlO 3 lvc lvd h A ts)(hN:NetL h ts ls)(hX:SlO 1 vc undef h X ux)(hU:QVs h ux xss)(hY:SlO 1 vc undef h Y uy)(hV:QVs h uy yss):Calls Tryz.prog 62 #[.agg #[.slice A ts.length cap],.slice X ux.length cX,.slice Y uy.length cY] w (Ret w h fun v _=>v=.int .i64 (netE ls xss.length wx yss.length wy)):=by
  by_cases h1:chkq ls=0
  · rw[netE_0 h1];exact nRefused0 A cap ts ls hn hF X cX ux xss Y cY uy yss wx wy hxw hyw h1 w h g hA hN hX hU hY hV
  · rw[netE_1 h1];exact nRefused1 A cap ts ls hn hF X cX ux xss Y cY uy yss wx wy hxw hyw h1 w h g hA hN hX hU hY hV
theorem nloss (A:Option Addr)(cap:Nat)(ts:List LV)(ls:List Lay)(d:Nat→Nat)(hO:Net3 ls d)(X:Option Addr)(cX:Nat)(ux:List Value)(xss:List (List Rat))(Y:Option Addr)(cY:Nat)(uy:List Value)(yss:List (List Rat))(hxd:∀ i,i<xss.length→(xss.getD i []).length=d 0)(hyd:∀ i,i<xss.length→(yss.getD i []).length=d ls.length)(hxy:yss.length=xss.length)(hr4:xss.length≤4)(hNB:∀ i,i<xss.length→NetB ls (xss.getD i []))(hZq:∀ i,i<xss.length→∀ j,LQ 42000 ((outq ls (xss.getD i []) ls.length).getD j 0))(hYq:∀ i j,LQ 1 ((yss.getD i []).getD j 0))(w:World)(h:Hp)(g:G w h)(hA:SlO 3 lvc lvd h A ts)(hN:NetL h ts ls)(hX:SlO 1 vc undef h X ux)(hU:QVs h ux xss)(hY:SlO 1 vc undef h Y uy)(hV:QVs h uy yss)(tb:Tab h) :
    Calls Tryz.prog 82 #[.agg #[.slice A ts.length cap],.slice X ux.length cX,.slice Y uy.length cY] w (Ret w h fun v _=>v=qv (lossq ls xss yss xss.length)):=by
 have hs:=SS.start g
 replace hs:=(((((((hs.a_SlO hA).add (K:=fun h_=>NetL h_ ts ls) hN).a_SlO hX).add (K:=fun h_=>QVs h_ ux xss) hU).a_SlO hY).add (K:=fun h_=>QVs h_ uy yss) hV).add (K:=fun h_=>Tab h_) tb)
 have hl:=(hs.f.2.2.2.2.2.1).len
 obtain ⟨o1,o2⟩:=hO.len
 have o3:=hO.first
 have hux:=(hs.f.2.2.2.1).len
 have huy:=(hs.f.2.1).len
 have hdn:=(hO.lay (ls.length-1) oM).2.2.1
 rw[show ls.length-1+1=ls.length by omega] at hdn
 refine go Tryz.func82 [(0,.agg #[.slice A ts.length cap]),(1,.slice X ux.length cX),(2,.slice Y uy.length cY)] rfl ?_
 refine cSL (lA 3 28 ([.slice A ts.length cap]) hs (fun b1 w2 h3 hs=>?_))
 refine lA 6 73 ([.bool false,.int .u64 0,.string ⟨#[]⟩,.int .u64 0,.string ⟨#[]⟩]) hs (fun b4 w5 h6 hs=>?_)
 refine lNS (lL hs [.v 12 (qv 0)] (lA 7 73 ([.bool false,.int .u64 0,.string ⟨#[]⟩,.int .u64 0,.string ⟨#[]⟩]) hs (fun b7 w8 h9 hs=>?_)))
 refine lP 0 0 (qc 0) hs (fun w10 hs=>?_)
 refine lN (CG.seq (cSL (lL hs [.m 13 1,.v 14 (.int .i64 (ux.length:Nat)),.v 15 (.int .i64 0)] (lN (CG.block (cTo [(1,.slice X ux.length cX),(2,.slice Y uy.length cY),(3,.pointer (some ⟨b1,0,none⟩)),(6,.pointer (some ⟨b4,0,none⟩)),(7,.pointer (some ⟨b7,0,none⟩)),(14,.int .i64 (ux.length:Nat)),(15,.int .i64 0)] ?_))))))
 refine CG.loop (fun μ_ Γ w_=>∃ (r:Nat) (s:Rat) (h_:Hp),μ_=xss.length-r∧Γ=[(1,.slice X ux.length cX),(2,.slice Y uy.length cY),(3,.pointer (some ⟨b1,0,none⟩)),(6,.pointer (some ⟨b4,0,none⟩)),(7,.pointer (some ⟨b7,0,none⟩)),(14,.int .i64 (ux.length:Nat)),(15,.int .i64 (r:Nat))]∧SS w h w_ h_ [⟨b7,73,qc s⟩,⟨b4,73,[.bool false,.int .u64 0,.string ⟨#[]⟩,.int .u64 0,.string ⟨#[]⟩]⟩,⟨b1,28,[.slice A ts.length cap]⟩] [] [fun h_=>Tab h_,fun h_=>QVs h_ uy yss,fun h_=>SlO 1 vc undef h_ Y uy,fun h_=>QVs h_ ux xss,fun h_=>SlO 1 vc undef h_ X ux,fun h_=>NetL h_ ts ls,fun h_=>SlO 3 lvc lvd h_ A ts]∧(r≤xss.length)∧(s=lossq ls xss yss r)∧(LQ ((r*12)*84005+1) s)) _ ⟨0,0,h9,rfl,rfl,hs.to _ _,Nat.zero_le _,rfl,(lq0 oM)⟩ ?_
 rintro _ _ w11 ⟨r,s,h12,hm13,rfl,hs,hr,hse,hsb⟩
 refine cSL ?_
 cases hb14:(decide (((r:Nat):Int)<((ux.length:Nat):Int)))
 ·
  have phb14:=oF hb14
  refine lB 16 hb14 ?_
  refine lN (CG.seq (cIF (CG.exit ?_)))
  show CG _ _ _ _ _ _ _ _
  refine cSL (lL hs [.o 47 (qv s) 0 0 5] (lP 1 0 (qc s) hs (fun w15 hs=>?_)))
  exact lN (CG.ret (hs.ret [(1,0,5)] (qv s) (by rw[hse,show r=xss.length by omega])))
 have phb14:=oT hb14
 refine lB 16 hb14 ?_
 refine lN (CG.seq (cIT (CG.skipN (CG.seq (CG.block (cSL (lL hs [.m 17 15,.m 8 17] (lN (CG.seq (cR 9 [] mixed hs al_nil ?_))))))))))
 have hxl:=hxd r oM
 have hyl:=hyd r oM
 have hol:=outq_len hO hxl ls.length (Nat.le_refl _)
 refine eO 0 18 [(2,0,1)] (.agg #[.slice A ts.length cap]) hs ?_
 refine eV 1 19 (.slice X ux.length cX) ?_
 refine eV 2 20 (.int .i64 (r:Nat)) ?_
 refine eX 3 21 X ux.length cX 1 (r:Nat) r ((hs.f.2.2.2.2.1).ok oM) ?_
 obtain ⟨Aqx,cqx,eqx,hcqx,hRqx⟩:=(hs.f.2.2.2.1).at_ r oM
 replace hs:=(hs.a_SlO hRqx)
 refine eHe 4 22 (ux.getD r undef) hs ((hs.f.2.2.2.2.2.1).el r oM) eqx ?_
 refine eV 8 26 (.int .i64 0) ?_
 refine eC 5 23 hs (fun _ _ hs=>nForward A cap ts ls d hO Aqx cqx (xss.getD r []) hxl hcqx (hNB r oM) _ _ hs.g (hs.f.2.2.2.2.2.2.2.1) (hs.f.2.2.2.2.2.2.1) (hs.f.1) (hs.f.2.1)) ?_
 rintro _ _ _ w16 h17 hs ⟨A1,c1,u1,A2,c2,u2,Az,cz,rfl,hc1,hc2,hcz,hA1,hA2,hU1,hU2,hAz⟩
 replace hs:=(hs.a_SlO hAz)
 refine eV 6 24 (.slice Az ((outq ls (xss.getD r []) ls.length).length) cz) ?_
 refine eV 7 25 (.int .i64 ((outq ls (xss.getD r []) ls.length).length:Nat)) ?_
 refine eD0 hs (fun w18 h19 hs=>?_)
 refine tN (CG.block (cTo [(1,.slice X ux.length cX),(2,.slice Y uy.length cY),(3,.pointer (some ⟨b1,0,none⟩)),(6,.pointer (some ⟨b4,0,none⟩)),(7,.pointer (some ⟨b7,0,none⟩)),(14,.int .i64 (ux.length:Nat)),(15,.int .i64 (r:Nat)),(8,.int .i64 (r:Nat)),(24,.slice Az ((outq ls (xss.getD r []) ls.length).length) cz),(25,.int .i64 ((outq ls (xss.getD r []) ls.length).length:Nat)),(26,.int .i64 0)] ?_))
 refine CG.loop (fun μ_ Γ w_=>∃ (j:Nat) (s2:Rat) (h_:Hp),μ_=(outq ls (xss.getD r []) ls.length).length-j∧Γ=[(1,.slice X ux.length cX),(2,.slice Y uy.length cY),(3,.pointer (some ⟨b1,0,none⟩)),(6,.pointer (some ⟨b4,0,none⟩)),(7,.pointer (some ⟨b7,0,none⟩)),(14,.int .i64 (ux.length:Nat)),(15,.int .i64 (r:Nat)),(8,.int .i64 (r:Nat)),(24,.slice Az ((outq ls (xss.getD r []) ls.length).length) cz),(25,.int .i64 ((outq ls (xss.getD r []) ls.length).length:Nat)),(26,.int .i64 (j:Nat))]∧SS w h w_ h_ [⟨b7,73,qc s2⟩,⟨b4,73,[.bool false,.int .u64 0,.string ⟨#[]⟩,.int .u64 0,.string ⟨#[]⟩]⟩,⟨b1,28,[.slice A ts.length cap]⟩] [] [fun h_=>SlO 5 qc 0 h_ Az (outq ls (xss.getD r []) ls.length),fun h_=>SlO 5 qc 0 h_ Aqx (xss.getD r []),fun h_=>Tab h_,fun h_=>QVs h_ uy yss,fun h_=>SlO 1 vc undef h_ Y uy,fun h_=>QVs h_ ux xss,fun h_=>SlO 1 vc undef h_ X ux,fun h_=>NetL h_ ts ls,fun h_=>SlO 3 lvc lvd h_ A ts]∧(j≤(outq ls (xss.getD r []) ls.length).length)∧(s2=lossq ls xss yss r+rowloss (outq ls (xss.getD r []) ls.length) (yss.getD r []) j)∧(LQ ((r*12+j)*84005+1) s2)) _ ⟨0,s,h19,rfl,rfl,hs.to _ _,Nat.zero_le _,(by rw[hse];exact (Rat.add_zero _).symm),(hsb.mono oM)⟩ ?_
 rintro _ _ w20 ⟨j,s2,h21,hm22,rfl,hs,hj,hse2,hsb2⟩
 refine cSL ?_
 cases hb23:(decide (((j:Nat):Int)<(((outq ls (xss.getD r []) ls.length).length:Nat):Int)))
 ·
  have phb23:=oF hb23
  refine lB 27 hb23 ?_
  refine lN (CG.seq (cIF (CG.exit ?_)))
  show CG _ _ _ _ _ _ _ _
  refine CG.listed (lIn 46 ((r:Nat)+1) (r+1) ?_)
  refine lL hs [.m 15 46] (lD ?_)
  intro a_ ka
  have q24:(r+1)≤xss.length:=by omega
  have q25:s2=lossq ls xss yss (r+1):=(by rw[hse2,show j=(outq ls (xss.getD r []) ls.length).length by omega];rfl)
  have q26:LQ (((r+1)*12)*84005+1) s2:=(hsb2.mono oM)
  replace hs:=hs.tl.tl
  refine ⟨_,_,?_,⟨r+1,s2,h21,rfl,rfl,hs.to _ _,q24,q25,q26⟩,ka.to [(1,.slice X ux.length cX),(2,.slice Y uy.length cY),(3,.pointer (some ⟨b1,0,none⟩)),(6,.pointer (some ⟨b4,0,none⟩)),(7,.pointer (some ⟨b7,0,none⟩)),(14,.int .i64 (ux.length:Nat)),(15,.int .i64 ((r+1):Nat))] kR⟩
  omega
 have phb23:=oT hb23
 refine lB 27 hb23 ?_
 refine lN (CG.seq (cIT (CG.skipN (CG.seq (CG.block (cSL (lL hs [.m 28 26] (lX 29 Az ((outq ls (xss.getD r []) ls.length).length) cz 5 (j:Nat) j ((hs.f.1).ok oM) ?_))))))))
 refine lH 30 (qv ((outq ls (xss.getD r []) ls.length).getD j 0)) hs ((hs.f.1).el j oM) ?_
 refine lA 10 73 ([.bool false,.int .u64 0,.string ⟨#[]⟩,.int .u64 0,.string ⟨#[]⟩]) hs (fun b27 w28 h29 hs=>?_)
 refine lL hs [.m 9 28] (lP 0 0 (qc ((outq ls (xss.getD r []) ls.length).getD j 0)) hs (fun w30 hs=>?_))
 refine lN (CG.seq ?_)
 have hsr:=hs
 refine cR 10 [⟨9,11,.cells (List.toArray [.bool false,.int .u64 0,.string ⟨#[]⟩,.int .u64 0,.string ⟨#[]⟩]) 73 (0,0)⟩] mixed hs (al_cons (alOk kR (fun _ _=>by kernel_rfl)) al_nil) ?_
 refine eO 0 31 [(0,0,5)] (qv ((outq ls (xss.getD r []) ls.length).getD j 0)) hs ?_
 refine eV 1 32 (.slice Y uy.length cY) ?_
 refine eV 2 33 (.int .i64 (r:Nat)) ?_
 refine eX 3 34 Y uy.length cY 1 (r:Nat) r ((hs.f.2.2.2.2.1).ok oM) ?_
 obtain ⟨Aqy,cqy,eqy,hcqy,hRqy⟩:=(hs.f.2.2.2.1).at_ r oM
 replace hs:=(hs.a_SlO hRqy)
 refine eHe 4 35 (uy.getD r undef) hs ((hs.f.2.2.2.2.2.1).el r oM) eqy ?_
 refine eV 5 36 (.int .i64 (j:Nat)) ?_
 refine eX 6 37 Aqy ((yss.getD r []).length) cqy 5 (j:Nat) j ((hs.f.1).ok oM) ?_
 refine eH 7 38 (qv ((yss.getD r []).getD j 0)) hs ((hs.f.1).el j oM) ?_
 have hq31:=LQ.sub (hZq r oM j) (hYq r j)
 refine eC 8 39 hs (fun _ _ hs=>fSub ((outq ls (xss.getD r []) ls.length).getD j 0) ((yss.getD r []).getD j 0) (LQ.mono (hZq r oM j) oM) (LQ.mono (hYq r j) oM) _ _ hs.g (hs.f.2.2.2.1)) ?_
 rintro _ _ _ w32 h33 hs rfl
 refine eD1p [] hsr hs 73 [.bool false,.int .u64 0,.string ⟨#[]⟩,.int .u64 0,.string ⟨#[]⟩] (fun w34 h35 b36 hs=>?_)
 refine tP 10 0 0 (qc (((outq ls (xss.getD r []) ls.length).getD j 0)-((yss.getD r []).getD j 0))) hs (fun w37 hs=>?_)
 refine tN (cR 5 [] mixed hs al_nil ?_)
 refine eO 0 40 [(2,0,5)] (qv s2) hs ?_
 refine eO 1 41 [(0,0,5)] (qv (((outq ls (xss.getD r []) ls.length).getD j 0)-((yss.getD r []).getD j 0))) hs ?_
 refine eO 2 42 [(0,0,5)] (qv (((outq ls (xss.getD r []) ls.length).getD j 0)-((yss.getD r []).getD j 0))) hs ?_
 have hq38:=LQ.mul hq31 hq31
 refine eC 3 43 hs (fun _ _ hs=>fMul (((outq ls (xss.getD r []) ls.length).getD j 0)-((yss.getD r []).getD j 0)) (((outq ls (xss.getD r []) ls.length).getD j 0)-((yss.getD r []).getD j 0)) (LQ.mono hq31 oM) (LQ.mono hq31 oM) _ _ hs.g (hs.f.2.2.2.1)) ?_
 rintro _ _ _ w39 h40 hs rfl
 have hq41:=LQ.add hsb2 hq38
 refine eC 4 44 hs (fun _ _ hs=>fAdd s2 ((((outq ls (xss.getD r []) ls.length).getD j 0)-((yss.getD r []).getD j 0))*(((outq ls (xss.getD r []) ls.length).getD j 0)-((yss.getD r []).getD j 0))) (LQ.mono hsb2 oM) (LQ.mono hq38 oM) _ _ hs.g (hs.f.2.2.2.1)) ?_
 rintro _ _ _ w42 h43 hs rfl
 refine eD0 hs (fun w44 h45 hs=>?_)
 refine tP 5 2 0 (qc (s2+((((outq ls (xss.getD r []) ls.length).getD j 0)-((yss.getD r []).getD j 0))*(((outq ls (xss.getD r []) ls.length).getD j 0)-((yss.getD r []).getD j 0))))) hs (fun w46 hs=>?_)
 refine tN (CG.listed (lIn 45 ((j:Nat)+1) (j+1) ?_))
 refine lL hs [.m 26 45] (lD ?_)
 intro a_ ka
 have q47:(j+1)≤(outq ls (xss.getD r []) ls.length).length:=by omega
 have q48:(s2+((((outq ls (xss.getD r []) ls.length).getD j 0)-((yss.getD r []).getD j 0))*(((outq ls (xss.getD r []) ls.length).getD j 0)-((yss.getD r []).getD j 0))))=lossq ls xss yss r+rowloss (outq ls (xss.getD r []) ls.length) (yss.getD r []) (j+1):=(by rw[hse2,Rat.add_assoc];rfl)
 have q49:LQ ((r*12+(j+1))*84005+1) (s2+((((outq ls (xss.getD r []) ls.length).getD j 0)-((yss.getD r []).getD j 0))*(((outq ls (xss.getD r []) ls.length).getD j 0)-((yss.getD r []).getD j 0)))):=(LQ.mono hq41 oM)
 replace hs:=hs.tl
 replace hs:=hs.drop 2 0
 refine ⟨_,_,?_,⟨j+1,(s2+((((outq ls (xss.getD r []) ls.length).getD j 0)-((yss.getD r []).getD j 0))*(((outq ls (xss.getD r []) ls.length).getD j 0)-((yss.getD r []).getD j 0)))),h45,rfl,rfl,hs.to _ _,q47,q48,q49⟩,ka.to [(1,.slice X ux.length cX),(2,.slice Y uy.length cY),(3,.pointer (some ⟨b1,0,none⟩)),(6,.pointer (some ⟨b4,0,none⟩)),(7,.pointer (some ⟨b7,0,none⟩)),(14,.int .i64 (ux.length:Nat)),(15,.int .i64 (r:Nat)),(8,.int .i64 (r:Nat)),(24,.slice Az ((outq ls (xss.getD r []) ls.length).length) cz),(25,.int .i64 ((outq ls (xss.getD r []) ls.length).length:Nat)),(26,.int .i64 ((j+1):Nat))] kR⟩
 omega
theorem nLossE (A:Option Addr)(cap:Nat)(ts:List LV)(ls:List Lay)(hn:ls.length≤1000000)(hF:∀ i,i<ls.length→LayLen (ls.getD i lay0))(X:Option Addr)(cX:Nat)(ux:List Value)(xss:List (List Rat))(Y:Option Addr)(cY:Nat)(uy:List Value)(yss:List (List Rat))(wx wy:Nat)(hxw:∀ i,i<xss.length→(xss.getD i []).length=wx)(hyw:∀ i,i<yss.length→(yss.getD i []).length=wy)(he:netE ls xss.length wx yss.length wy≠0)(w:World)(h:Hp)(g:G w h)(hA:SlO 3 lvc lvd h A ts)(hN:NetL h ts ls)(hX:SlO 1 vc undef h X ux)(hU:QVs h ux xss)(hY:SlO 1 vc undef h Y uy)(hV:QVs h uy yss) :
    Calls Tryz.prog 27 #[.agg #[.slice A ts.length cap],.slice X ux.length cX,.slice Y uy.length cY] w (Ret w h fun v _=>v=.tuple #[qv 0,.int .i64 (netE ls xss.length wx yss.length wy)]):=by
 have hs:=SS.start g
 replace hs:=((((((hs.a_SlO hA).add (K:=fun h_=>NetL h_ ts ls) hN).a_SlO hX).add (K:=fun h_=>QVs h_ ux xss) hU).a_SlO hY).add (K:=fun h_=>QVs h_ uy yss) hV)
 refine go Tryz.func27 [(0,.agg #[.slice A ts.length cap]),(1,.slice X ux.length cX),(2,.slice Y uy.length cY)] rfl ?_
 refine cSL (lA 3 28 ([.slice A ts.length cap]) hs (fun b1 w2 h3 hs=>?_))
 refine lA 6 73 ([.bool false,.int .u64 0,.string ⟨#[]⟩,.int .u64 0,.string ⟨#[]⟩]) hs (fun b4 w5 h6 hs=>?_)
 refine lL hs [.v 7 (.int .i64 0)] (lN (CG.seq (cSL (lL hs [.o 9 (.agg #[.slice A ts.length cap]) 1 0 1,.m 10 1,.m 11 2] (lC 12 hs (nRefused A cap ts ls hn hF X cX ux xss Y cY uy yss wx wy hxw hyw _ _ hs.g (hs.f.2.2.2.2.2.1) (hs.f.2.2.2.2.1) (hs.f.2.2.2.1) (hs.f.2.2.1) (hs.f.2.1) (hs.f.1)) ?_)))))
 rintro _ w7 h8 hs rfl
 refine lL hs [.m 8 12] (lNS (lL hs [.m 13 8] ?_))
 have hb9:((netE ls xss.length wx yss.length wy:Int) != (0:Int))=true:=bneT he
 have phb9:=neOfBne hb9
 refine lB 14 hb9 ?_
 refine lN (cIT (cSL (lL hs [.v 15 (qv 0),.m 16 8] (lP 0 0 (qc 0) hs (fun w10 hs=>?_)))))
 exact lL hs [.m 7 16] (lN (CG.ret (hs.ret [(0,0,5)] (.tuple #[qv 0,.int .i64 (netE ls xss.length wx yss.length wy)]) rfl)))
theorem nLoss0 (A:Option Addr)(cap:Nat)(ts:List LV)(ls:List Lay)(hn:ls.length≤1000000)(hF:∀ i,i<ls.length→LayLen (ls.getD i lay0))(X:Option Addr)(cX:Nat)(ux:List Value)(xss:List (List Rat))(Y:Option Addr)(cY:Nat)(uy:List Value)(yss:List (List Rat))(wx wy:Nat)(hxw:∀ i,i<xss.length→(xss.getD i []).length=wx)(hyw:∀ i,i<yss.length→(yss.getD i []).length=wy)(hr4:xss.length≤4)(hNB:chkq ls=0→∀ i,i<xss.length→NetB ls (xss.getD i []))(hZq:chkq ls=0→∀ i,i<xss.length→∀ j,LQ 42000 ((outq ls (xss.getD i []) ls.length).getD j 0))(hYq:∀ i j,LQ 1 ((yss.getD i []).getD j 0))(he:netE ls xss.length wx yss.length wy=0)(w:World)(h:Hp)(g:G w h)(hA:SlO 3 lvc lvd h A ts)(hN:NetL h ts ls)(hX:SlO 1 vc undef h X ux)(hU:QVs h ux xss)(hY:SlO 1 vc undef h Y uy)(hV:QVs h uy yss)(tb:Tab h) :
    Calls Tryz.prog 27 #[.agg #[.slice A ts.length cap],.slice X ux.length cX,.slice Y uy.length cY] w (Ret w h fun v _=>v=.tuple #[qv (lossq ls xss yss xss.length),.int .i64 0]):=by
 have hs:=SS.start g
 replace hs:=(((((((hs.a_SlO hA).add (K:=fun h_=>NetL h_ ts ls) hN).a_SlO hX).add (K:=fun h_=>QVs h_ ux xss) hU).a_SlO hY).add (K:=fun h_=>QVs h_ uy yss) hV).add (K:=fun h_=>Tab h_) tb)
 refine go Tryz.func27 [(0,.agg #[.slice A ts.length cap]),(1,.slice X ux.length cX),(2,.slice Y uy.length cY)] rfl ?_
 refine cSL (lA 3 28 ([.slice A ts.length cap]) hs (fun b1 w2 h3 hs=>?_))
 refine lA 6 73 ([.bool false,.int .u64 0,.string ⟨#[]⟩,.int .u64 0,.string ⟨#[]⟩]) hs (fun b4 w5 h6 hs=>?_)
 refine lL hs [.v 7 (.int .i64 0)] (lN (CG.seq (cSL (lL hs [.o 9 (.agg #[.slice A ts.length cap]) 1 0 1,.m 10 1,.m 11 2] (lC 12 hs (nRefused A cap ts ls hn hF X cX ux xss Y cY uy yss wx wy hxw hyw _ _ hs.g (hs.f.2.2.2.2.2.2.1) (hs.f.2.2.2.2.2.1) (hs.f.2.2.2.2.1) (hs.f.2.2.2.1) (hs.f.2.2.1) (hs.f.2.1)) ?_)))))
 rintro _ w7 h8 hs rfl
 refine lL hs [.m 8 12] (lNS (lL hs [.m 13 8] ?_))
 have hb9:((netE ls xss.length wx yss.length wy:Int) != (0:Int))=false:=bneF' he
 have phb9:=eqOfBne hb9
 refine lB 14 hb9 ?_
 refine lN (cIF (CG.skipN (cSL (lL hs [.o 17 (.agg #[.slice A ts.length cap]) 1 0 1,.m 18 1,.m 19 2] (lC 20 hs (nloss A cap ts ls (dOf ls) (chk_net3 (netE0 he).1) X cX ux xss Y cY uy yss (fun i hi=>by rw[hxw i hi];exact (netE0 he).2.2.2.1) (fun i hi=>by rw[hyw i (by have:=(netE0 he).2.2.1;omega)];exact (netE0 he).2.2.2.2) (netE0 he).2.2.1 hr4 (hNB (netE0 he).1) (hZq (netE0 he).1) hYq _ _ hs.g (hs.f.2.2.2.2.2.2.1) (hs.f.2.2.2.2.2.1) (hs.f.2.2.2.2.1) (hs.f.2.2.2.1) (hs.f.2.2.1) (hs.f.2.1) (hs.f.1)) ?_)))))
 rintro _ w10 h11 hs rfl
 refine lP 0 0 (qc (lossq ls xss yss xss.length)) hs (fun w12 hs=>?_)
 exact lL hs [.v 7 (.int .i64 0)] (lN (CG.ret (hs.ret [(0,0,5)] (.tuple #[qv (lossq ls xss yss xss.length),.int .i64 0]) rfl)))
def Inc (bl:List Nat)(h:Hp):Prop:=bl.Pairwise (· < ·)∧∀ b∈bl,b<h.size
theorem Inc.gw {bl:List Nat}{h h':Hp}(x:Inc bl h)(u:Gw h h'):Inc bl h':=⟨x.1,fun b hb=>Nat.lt_of_lt_of_le (x.2 b hb) u.size⟩
theorem Inc.nil {h:Hp}:Inc [] h:=⟨.nil,fun b hb=>by cases hb⟩
theorem Inc.snoc {bl:List Nat}{h h':Hp}{b:Nat}{t:TypeId}{cs:List Value}(x:Inc bl h)(n:Nw h.size h' b t cs):Inc (bl++[b]) h':=by
  have h1:=n.1
  have h2:=lt_of_some n.2.2
  refine ⟨List.pairwise_append.2 ⟨x.1,List.pairwise_singleton _ _,fun a ha c hc=>?_⟩,fun c hc=>?_⟩
  · have:=x.2 a ha
    rw[List.mem_singleton.1 hc];omega
  · rcases List.mem_append.1 hc with hc|hc
    · have:=x.2 c hc;omega
    · rw[List.mem_singleton.1 hc];exact h2
def npos (d:Nat→Nat):Nat→Nat
  | 0=>0
  | k+1=>npos d k+d (k+1)+1
theorem npos_mono (d:Nat→Nat){k n:Nat}(h:k≤n):npos d k≤npos d n:=by
  induction h with
  | refl=>exact Nat.le_refl _
  | step _ ih=>exact Nat.le_trans ih (by show npos d _≤npos d _+_+1;omega)
theorem getD_app1 {α:Type}{l:List α}{x d:α}{i:Nat}(h:i<l.length):(l++[x]).getD i d=l.getD i d:=by rw[getD_snoc,if_pos h]
theorem getD_last {bl:List Nat}{b i:Nat}(h:bl.length=i):b=(bl++[b]).getD i 0:=by rw[getD_snoc,if_neg oM,if_pos h.symm]
def SlB (K b:Nat)(h:Hp)(v:Value)(l:List Rat):Prop:=∃ c sp,v=.slice (some ⟨b,0,none⟩) l.length c∧l.length≤c∧Nw K h b 73 (l.flatMap qc++sp)
theorem SlB.gw {K b:Nat}{h h':Hp}{v:Value}{l:List Rat}(x:SlB K b h v l)(u:Gw h h'):SlB K b h' v l:=by
  obtain ⟨c,sp,e,hc,n⟩:=x
  exact ⟨c,sp,e,hc,n.gw u⟩
def QNb (bl:List Nat)(p K:Nat)(h:Hp)(us:List Value)(W:List (List Rat)):Prop:=∀ j,j<W.length→SlB K (bl.getD (p+j) 0) h (us.getD j undef) (W.getD j [])
theorem QNb.gw {bl:List Nat}{p K:Nat}{h h':Hp}{us:List Value}{W:List (List Rat)}(x:QNb bl p K h us W)(u:Gw h h'):QNb bl p K h' us W:=fun j hj=>(x j hj).gw u
theorem QNb.nil {bl:List Nat}{p K:Nat}{h:Hp}{us:List Value}:QNb bl p K h us []:=fun j hj=>by simp at hj
theorem QNb.ext {bl:List Nat}{p K b:Nat}{h:Hp}{us:List Value}{W:List (List Rat)}(x:QNb bl p K h us W)(hl:p+W.length≤bl.length):QNb (bl++[b]) p K h us W:=fun j hj=>by
  rw[getD_app1 oM];exact x j hj
theorem QNb.snoc {bl:List Nat}{p K b:Nat}{h:Hp}{us:List Value}{W:List (List Rat)}{v:Value}{l:List Rat}{i:Nat}(x:QNb bl p K h us W)(hi:W.length=i)(hl:i<us.length)(hb:bl.length=p+i)(hv:SlB K b h v l):QNb (bl++[b]) p K h (us.set i v) (W++[l]):=by
  subst hi
  intro j hj
  rw[List.length_append,List.length_singleton] at hj
  rw[getD_snoc W]
  by_cases e:j=W.length
  · subst e
    rw[if_neg oM,if_pos rfl,List.getD_eq_getElem?_getD (l:=us.set _ _),List.getElem?_set_self hl,←getD_last hb]
    exact hv
  · rw[if_pos oM,List.getD_eq_getElem?_getD (l:=us.set _ _),List.getElem?_set_ne (Ne.symm e),←List.getD_eq_getElem?_getD,getD_app1 oM]
    exact x j oM
def LNb (bl:List Nat)(p K:Nat)(h:Hp)(t:LV)(L:Lay):Prop:=t.1=L.k∧(∃ us,SlN K 75 vc h t.2.1 us∧us.length=L.W.length∧QNb bl p K h us L.W)∧SlB K (bl.getD (p+L.W.length) 0) h t.2.2 L.B
theorem LNb.gw {bl:List Nat}{p K:Nat}{h h':Hp}{t:LV}{L:Lay}(x:LNb bl p K h t L)(u:Gw h h'):LNb bl p K h' t L:=by
  obtain ⟨h1,⟨us,h2,h3,h4⟩,h5⟩:=x
  exact ⟨h1,⟨us,h2.gw u,h3,h4.gw u⟩,h5.gw u⟩
structure NNb (bl:List Nat) (d:Nat→Nat) (K:Nat) (h:Hp) (ts:List LV) (ls:List Lay):Prop where
  len:ts.length=ls.length
  at_:∀ i,i<ls.length→LNb bl (npos d i) K h (ts.getD i lvd) (ls.getD i lay0)
theorem NNb.gw {bl:List Nat}{d:Nat→Nat}{K:Nat}{h h':Hp}{ts:List LV}{ls:List Lay}(x:NNb bl d K h ts ls)(u:Gw h h'):NNb bl d K h' ts ls:=⟨x.len,fun i hi=>(x.at_ i hi).gw u⟩
theorem NNb.nil {bl:List Nat}{d:Nat→Nat}{K:Nat}{h:Hp}:NNb bl d K h [] []:=⟨rfl,fun i hi=>by simp at hi⟩
theorem NNb.snoc {bl:List Nat}{d:Nat→Nat}{K:Nat}{h:Hp}{ts:List LV}{ls:List Lay}{t:LV}{L:Lay}(x:NNb bl d K h ts ls)(hx:LNb bl (npos d ls.length) K h t L):NNb bl d K h (ts++[t]) (ls++[L]):=by
  have hl:=x.len
  refine ⟨by simp[hl],fun i hi=>?_⟩
  rw[List.length_append,List.length_singleton] at hi
  rw[getD_snoc,getD_snoc,hl]
  by_cases e:i<ls.length
  · rw[if_pos e,if_pos e];exact x.at_ i e
  · have:i=ls.length:=by omega
    subst this
    rw[if_neg e,if_neg e,if_pos rfl,if_pos rfl];exact hx
theorem NNb.ext {bl:List Nat}{d:Nat→Nat}{K b:Nat}{h:Hp}{ts:List LV}{ls:List Lay}(x:NNb bl d K h ts ls)(hs:Shp d ls)(hl:npos d ls.length≤bl.length):NNb (bl++[b]) d K h ts ls:=⟨x.len,fun i hi=>by
  obtain ⟨h1,⟨us,h2,h3,h4⟩,h5⟩:=x.at_ i hi
  have m:=(hs i hi).1.rows
  have hp:=npos_mono d (show i+1≤ls.length from hi)
  have hp2:npos d (i+1)=npos d i+d (i+1)+1:=rfl
  exact ⟨h1,⟨us,h2,h3,h4.ext oM⟩,by rw[getD_app1 oM];exact h5⟩⟩
theorem nFilledB (A:Option Addr)(cap:Nat)(ts:List LV)(ls:List Lay)(d:Nat→Nat)(hO:Net3 ls d)(X:Option Addr)(c0:Nat)(xs:List Rat)(hx:xs.length=(flatq ls).length)(hc0:xs.length≤c0)(w:World)(h:Hp)(g:G w h)(hA:SlO 3 lvc lvd h A ts)(hN:NetL h ts ls)(hX:SlO 5 qc 0 h X xs) :
    Calls Tryz.prog 133 #[.agg #[.slice A ts.length cap],.slice X xs.length c0] w (Ret w h fun v h1=>∃ zs,zs.length=ls.length∧Shp d zs∧(∀ i,i<ls.length→(zs.getD i lay0).k=(ls.getD i lay0).k)∧flatq zs=xs∧∃ bl:List Nat,bl.Pairwise (· < ·)∧bl.length=npos d ls.length∧∃ bL c sp,∃ us:List LV,v=.agg #[.slice (some ⟨bL,0,none⟩) us.length c]∧us.length≤c∧Nw h.size h1 bL 77 (us.flatMap lvc++sp)∧NNb bl d h.size h1 us zs):=by
 have hs:=SS.start g
 replace hs:=(((hs.a_SlO hA).add (K:=fun h_=>NetL h_ ts ls) hN).a_SlO hX)
 have hl:=(hs.f.2.1).len
 obtain ⟨o1,o2⟩:=hO.len
 have o3:=hO.first
 have hfq:=flatq_len hO ls.length (Nat.le_refl _)
 rw[List.take_length] at hfq
 refine go Tryz.func133 [(0,.agg #[.slice A ts.length cap]),(1,.slice X xs.length c0)] rfl ?_
 refine cSL (lA 2 28 ([.slice A ts.length cap]) hs (fun b1 w2 h3 hs=>?_))
 refine lA 3 75 ([.slice X xs.length c0]) hs (fun b4 w5 h6 hs=>?_)
 refine lA 4 28 ([.slice none 0 0]) hs (fun b7 w8 h9 hs=>?_)
 refine lNS (lL hs [.v 12 (.func (.func 184) #[] #[.pointer (some ⟨b4,0,none⟩)]),.m 5 12] (lNS (lA 6 28 ([.slice none 0 0]) hs (fun b10 w11 h12 hs=>?_))))
 refine lN (CG.seq (cSL (lL hs [.v 13 (.pointer (some ⟨b1,0,none⟩)),.o 14 (.slice A ts.length cap) 3 0 1,.v 15 (.int .i64 (ts.length:Nat)),.v 16 (.int .i64 0)] (lN (CG.block ?_)))))
 replace hs:=hs.nil 77 3
 refine cTo [(4,.pointer (some ⟨b7,0,none⟩)),(5,.func (.func 184) #[] #[.pointer (some ⟨b4,0,none⟩)]),(6,.pointer (some ⟨b10,0,none⟩)),(14,.slice A ts.length cap),(15,.int .i64 (ts.length:Nat)),(16,.int .i64 0)] ?_
 replace hs:=hs.add (K:=fun h_=>Inc ([]) h_) (Inc.nil)
 replace hs:=hs.add (K:=fun h_=>NNb ([]) d h.size h_ ([]) ([])) (NNb.nil)
 replace hs:=hs.add (K:=fun h_=>SlO 5 qc 0 h_ X xs) ((hs.f.2.2.1))
 refine CG.loop (fun μ_ Γ w_=>∃ (k:Nat) (sA:Option Addr) (sc:Nat) (us:List LV) (zs:List Lay) (rs:List Rat) (Ar:Option Addr) (cr:Nat) (bl:List Nat) (h_:Hp),μ_=ls.length-k∧Γ=[(4,.pointer (some ⟨b7,0,none⟩)),(5,.func (.func 184) #[] #[.pointer (some ⟨b4,0,none⟩)]),(6,.pointer (some ⟨b10,0,none⟩)),(14,.slice A ts.length cap),(15,.int .i64 (ts.length:Nat)),(16,.int .i64 (k:Nat))]∧SS w h w_ h_ [⟨b10,28,[.slice sA ((us).length) sc]⟩,⟨b7,28,[.slice none 0 0]⟩,⟨b4,75,[.slice Ar rs.length cr]⟩,⟨b1,28,[.slice A ts.length cap]⟩] [⟨77,3,sA,sc,(us).length,(us).flatMap lvc⟩] [fun h_=>SlO 5 qc 0 h_ Ar rs,fun h_=>NNb bl d h.size h_ us zs,fun h_=>Inc bl h_,fun h_=>SlO 5 qc 0 h_ X xs,fun h_=>NetL h_ ts ls,fun h_=>SlO 3 lvc lvd h_ A ts]∧(k≤ls.length)∧(zs.length=k)∧(Shp d zs)∧(∀ i,i<zs.length→(zs.getD i lay0).k=(ls.getD i lay0).k)∧(flatq zs++rs=xs)∧(rs.length≤cr)∧(us.length=k)∧(bl.length=npos d k)) _ ⟨0,none,0,[],[],xs,X,c0,[],h12,rfl,rfl,hs.to _ _,Nat.zero_le _,rfl,Shp.nil,fun i hi=>by simp at hi,rfl,hc0,rfl,rfl⟩ ?_
 rintro _ _ w13 ⟨k,sA,sc,us,zs,rs,Ar,cr,bl,h14,hm15,rfl,hs,hk,hzl,hZs,hZk,hflat,hcr0,hul,hbl⟩
 have hsm:=fun h0=>hO.small k h0
 have hnm:=fun h0=>nums_mono d (show k+1≤ls.length from h0)
 have hxn:xs.length=nums d ls.length:=by rw[hx,(net_shp hO).size]
 have hnk:nums d (k+1)=nums d k+d (k+1)*d k+d (k+1):=rfl
 have hpk:npos d (k+1)=npos d k+d (k+1)+1:=rfl
 refine cSL ?_
 cases hb16:(decide (((k:Nat):Int)<((ts.length:Nat):Int)))
 ·
  have phb16:=oF hb16
  refine lB 17 hb16 ?_
  refine lN (CG.seq (cIF (CG.exit ?_)))
  show CG _ _ _ _ _ _ _ _
  refine cSL (lL hs [.o 57 (.agg #[.slice sA ((us).length) sc]) 0 0 1] (lP 1 0 ([.slice sA ((us).length) sc]) hs (fun w17 hs=>?_)))
  refine lN (CG.ret ?_)
  have hkn:k=ls.length:=by omega
  subst hkn
  obtain ⟨hq,bq,spq,hs,hbq,hcq⟩:=hs.pubn 0 (A:=sA) (c:=sc) (ty:=77) (sz:=3) (l:=us) (f:=lvc) oM
  subst hbq
  exact hs.ret [(1,0,1)] (.agg #[.slice (some ⟨bq,0,none⟩) us.length sc]) ⟨zs,hzl,hZs,fun i hi=>hZk i oM,fill_end hZs hflat (by rw[hx,(net_shp hO).size,hzl]),bl,(hs.f.2.2.2.1).1,hbl,bq,_,spq,us,rfl,hcq,(hs.f.1),(hs.f.2.2.1)⟩
 have phb16:=oT hb16
 refine lB 17 hb16 ?_
 refine lN (CG.seq (cIT (CG.skipN (CG.seq (CG.block (cSL (lX 18 A ts.length cap 3 (k:Nat) k ((hs.f.2.2.2.2.2.1).ok oM) ?_)))))))
 obtain ⟨ekx,⟨AWx,cWx,usx,eWx,hcWx,hAWx,hUx⟩,⟨ABx,cBx,eBx,hcBx,hABx⟩⟩:=(hs.f.2.2.2.2.1).at_ k oM
 obtain ⟨mtx,lbx,r12x,kdx⟩:=hO.lay k oM
 have lux:=hUx.len;have mrx:=mtx.rows;have mpx:=mtx.rpos;have mcx:=mtx.cpos;have m0x:=mtx.row 0 oM
 replace hs:=(((hs.a_SlO hAWx).add (K:=fun h_=>QVs h_ usx (ls.getD k lay0).W) hUx).a_SlO hABx)
 refine lHe 19 (.agg #[.int .i64 ((ts.getD k lvd).1),(ts.getD k lvd).2.1,(ts.getD k lvd).2.2]) hs ((hs.f.2.2.2.2.2.2.2.2.1).el k oM) (by rw[ekx,eWx,eBx]) ?_
 refine lA 8 77 ([.int .i64 0,.slice none 0 0,.slice none 0 0]) hs (fun b18 w19 h20 hs=>?_)
 refine lP 0 0 ([.int .i64 ((ls.getD k lay0).k),.slice AWx usx.length cWx,.slice ABx ((ls.getD k lay0).B.length) cBx]) hs (fun w21 hs=>?_)
 refine lN (CG.seq ?_)
 have hsr:=hs
 refine cR 8 [⟨7,9,.cells (List.toArray [.int .i64 0,.slice none 0 0,.slice none 0 0]) 77 (0,0)⟩] mixed hs (al_cons (alOk kR (fun _ _=>by kernel_rfl)) al_nil) ?_
 refine eV 0 20 (.pointer (some ⟨b18,0,none⟩)) ?_
 refine eO 1 21 [(0,0,1)] (.int .i64 ((ls.getD k lay0).k)) hs ?_
 refine eV 2 22 (.pointer (some ⟨b18,1,none⟩)) ?_
 refine eO 3 23 [(0,1,1)] (.slice AWx usx.length cWx) hs ?_
 refine eV 4 24 (.int .i64 (usx.length:Nat)) ?_
 refine eK 5 25 75 usx.length 1 24 (.slice none 0 0) vc (.slice none 0 0:Value) hs (fun b22 w23 h24 hs=>?_)
 have hl25:(List.replicate usx.length (.slice none 0 0:Value)).length=usx.length:=by simp
 refine eV 6 26 (.agg #[.int .i64 ((ls.getD k lay0).k),.slice (some ⟨b22,0,none⟩) usx.length usx.length,.slice none 0 0]) ?_
 refine eD1p [⟨b22,75,(List.replicate usx.length (.slice none 0 0:Value)).flatMap vc⟩] hsr hs 77 [.int .i64 0,.slice none 0 0,.slice none 0 0] (fun w26 h27 b28 hs=>?_)
 refine tP 8 0 0 ([.int .i64 ((ls.getD k lay0).k),.slice (some ⟨b22,0,none⟩) usx.length usx.length,.slice none 0 0]) hs (fun w29 hs=>?_)
 refine tN (CG.seq (cSL (lL hs [.v 27 (.pointer (some ⟨b18,1,none⟩)),.o 28 (.slice AWx usx.length cWx) 2 1 1,.v 29 (.int .i64 (usx.length:Nat)),.v 30 (.int .i64 0)] (lN (CG.block (cTo [(4,.pointer (some ⟨b7,0,none⟩)),(5,.func (.func 184) #[] #[.pointer (some ⟨b4,0,none⟩)]),(6,.pointer (some ⟨b10,0,none⟩)),(14,.slice A ts.length cap),(15,.int .i64 (ts.length:Nat)),(16,.int .i64 (k:Nat)),(8,.pointer (some ⟨b18,0,none⟩)),(9,.pointer (some ⟨b28,0,none⟩)),(28,.slice AWx usx.length cWx),(29,.int .i64 (usx.length:Nat)),(30,.int .i64 0)] ?_))))))
 replace hs:=hs.add (K:=fun h_=>Inc bl h_) ((hs.f.2.2.2.2.2.1))
 replace hs:=hs.add (K:=fun h_=>NNb bl d h.size h_ us zs) ((hs.f.2.2.2.2.2.1))
 replace hs:=hs.add (K:=fun h_=>QNb bl (npos d k) h.size h_ (List.replicate usx.length (.slice none 0 0:Value)) ([])) (QNb.nil)
 replace hs:=hs.add (K:=fun h_=>SlO 5 qc 0 h_ Ar rs) ((hs.f.2.2.2.2.2.2.1))
 refine CG.loop (fun μ_ Γ w_=>∃ (i:Nat) (ul:List Value) (Wd:List (List Rat)) (rr:List Rat) (A2:Option Addr) (c2:Nat) (bl2:List Nat) (h_:Hp),μ_=usx.length-i∧Γ=[(4,.pointer (some ⟨b7,0,none⟩)),(5,.func (.func 184) #[] #[.pointer (some ⟨b4,0,none⟩)]),(6,.pointer (some ⟨b10,0,none⟩)),(14,.slice A ts.length cap),(15,.int .i64 (ts.length:Nat)),(16,.int .i64 (k:Nat)),(8,.pointer (some ⟨b18,0,none⟩)),(9,.pointer (some ⟨b28,0,none⟩)),(28,.slice AWx usx.length cWx),(29,.int .i64 (usx.length:Nat)),(30,.int .i64 (i:Nat))]∧SS w h w_ h_ [⟨b28,77,[.int .i64 ((ls.getD k lay0).k),.slice (some ⟨b22,0,none⟩) usx.length usx.length,.slice none 0 0]⟩,⟨b22,75,(ul).flatMap vc⟩,⟨b18,77,[.int .i64 ((ls.getD k lay0).k),.slice AWx usx.length cWx,.slice ABx ((ls.getD k lay0).B.length) cBx]⟩,⟨b10,28,[.slice sA ((us).length) sc]⟩,⟨b7,28,[.slice none 0 0]⟩,⟨b4,75,[.slice A2 rr.length c2]⟩,⟨b1,28,[.slice A ts.length cap]⟩] [⟨77,3,sA,sc,(us).length,(us).flatMap lvc⟩] [fun h_=>SlO 5 qc 0 h_ A2 rr,fun h_=>QNb bl2 (npos d k) h.size h_ ul Wd,fun h_=>NNb bl2 d h.size h_ us zs,fun h_=>Inc bl2 h_,fun h_=>SlO 5 qc 0 h_ ABx (ls.getD k lay0).B,fun h_=>QVs h_ usx (ls.getD k lay0).W,fun h_=>SlO 1 vc undef h_ AWx usx,fun h_=>SlO 5 qc 0 h_ Ar rs,fun h_=>NNb bl d h.size h_ us zs,fun h_=>Inc bl h_,fun h_=>SlO 5 qc 0 h_ X xs,fun h_=>NetL h_ ts ls,fun h_=>SlO 3 lvc lvd h_ A ts]∧(i≤usx.length)∧(ul.length=usx.length)∧(Wd.length=i)∧(∀ r∈Wd,r.length=d k)∧(flatq zs++Wd.flatten++rr=xs)∧(rr.length≤c2)∧(bl2.length=npos d k+i)) _ ⟨0,List.replicate usx.length (.slice none 0 0:Value),[],rs,Ar,cr,bl,h27,rfl,rfl,hs.to _ _,Nat.zero_le _,hl25,rfl,fun r hr=>by simp at hr,by rw[List.flatten_nil,List.append_nil];exact hflat,hcr0,hbl⟩ ?_
 rintro _ _ w30 ⟨i,ul,Wd,rr,A2,c2,bl2,h31,hm32,rfl,hs,hi,hlul,hWl,hWr,hfl2,hcr,hbl2⟩
 have hrl:=rest_len hZs (by rw[hzl];exact hWr) hfl2
 rw[hzl,hWl] at hrl
 have hid:i*d k≤d (k+1)*d k:=Nat.mul_le_mul_right _ oM
 have hid2:=fun h0:i<d (k+1)=>Nat.mul_le_mul_right (d k) (show i+1≤d (k+1) from h0)
 rw[Nat.add_mul,Nat.one_mul] at hid2
 have hmr:=fun h0=>mtx.row i h0
 have hMt:=fun h0:i=d (k+1)=>mat_of (hWl.trans h0) mpx mcx hWr
 refine cSL ?_
 cases hb33:(decide (((i:Nat):Int)<((usx.length:Nat):Int)))
 ·
  have phb33:=oF hb33
  refine lB 31 hb33 ?_
  refine lN (CG.seq (cIF (CG.exit ?_)))
  show CG _ _ _ _ _ _ _ _
  refine cSL (lL hs [.m 44 5,.v 45 (.pointer (some ⟨b18,2,none⟩)),.o 46 (.slice ABx ((ls.getD k lay0).B.length) cBx) 2 2 1,.v 47 (.int .i64 ((ls.getD k lay0).B.length:Nat))] (lCm 48 (nNext (((ls.getD k lay0).B.length)) b4 c2 A2 (rr) oM oM oM hcr _ _ hs.g (hs.own 5) (hs.jk 5) (hs.f.1)) ?_))
  rintro _ w34 h35 u36 ⟨⟨bq1_,cq1_,sp1_,rfl,hcq1_,hNq1_⟩,A1_,c1_,hO1,hc1_,hSl1_⟩
  have hJ1_:=Inc.snoc (hs.f.2.2.2.1) hNq1_
  replace hNq1_:=hNq1_.mono hs.st.sz
  replace hs:=(hs.stepM 5 u36 hO1).to [⟨b28,77,[.int .i64 ((ls.getD k lay0).k),.slice (some ⟨b22,0,none⟩) usx.length usx.length,.slice none 0 0]⟩,⟨b22,75,(ul).flatMap vc⟩,⟨b18,77,[.int .i64 ((ls.getD k lay0).k),.slice AWx usx.length cWx,.slice ABx ((ls.getD k lay0).B.length) cBx]⟩,⟨b10,28,[.slice sA ((us).length) sc]⟩,⟨b7,28,[.slice none 0 0]⟩,⟨b4,75,[.slice A1_ (((rr).drop (((ls.getD k lay0).B.length))).length) c1_]⟩,⟨b1,28,[.slice A ts.length cap]⟩] [⟨77,3,sA,sc,(us).length,(us).flatMap lvc⟩]
  replace hs:=(((hs.a_SlO hSl1_).add (K:=fun h_=>Nw h.size h_ bq1_ 73 (((rr).take (((ls.getD k lay0).B.length))).flatMap qc++sp1_)) hNq1_).add (K:=fun h_=>Inc (bl2++[bq1_]) h_) hJ1_)
  refine lL hs [.v 49 (.pointer (some ⟨b28,2,none⟩))] (lP 0 2 ([.slice (some ⟨bq1_,0,none⟩) (((rr).take (((ls.getD k lay0).B.length))).length) cq1_]) hs (fun w37 hs=>?_))
  refine lN (CG.listed ?_)
  obtain ⟨h38,hs,sg39,lo40,bc41⟩:=hs.pub 1
  replace hs:=(hs.to [⟨b28,77,[.int .i64 ((ls.getD k lay0).k),.slice (some ⟨b22,0,none⟩) usx.length usx.length,.slice (some ⟨bq1_,0,none⟩) (((rr).take (((ls.getD k lay0).B.length))).length) cq1_]⟩,⟨b18,77,[.int .i64 ((ls.getD k lay0).k),.slice AWx usx.length cWx,.slice ABx ((ls.getD k lay0).B.length) cBx]⟩,⟨b10,28,[.slice sA ((us).length) sc]⟩,⟨b7,28,[.slice none 0 0]⟩,⟨b4,75,[.slice A1_ (((rr).drop (((ls.getD k lay0).B.length))).length) c1_]⟩,⟨b1,28,[.slice A ts.length cap]⟩] [⟨77,3,sA,sc,(us).length,(us).flatMap lvc⟩]).a_SlO (SlO.of_flat (sz:=1) (f:=vc) (d:=undef) (b:=b22) (o:=0) (l:=ul) (fun _=>rfl) sg39)
  replace hs:=hs.add (K:=fun h_=>SlN h.size 75 vc h_ (.slice (some ⟨b22,0,none⟩) usx.length usx.length) (ul)) (⟨b22,usx.length,[],by rw[hlul],Nat.le_of_eq hlul,⟨lo40,by decide,by rw[List.append_nil];exact bc41⟩⟩)
  have hgl:=(getD_last (b:=bq1_) (bl:=bl2) (i:=npos d k+Wd.length) oM).symm
  replace hs:=hs.add (K:=fun h_=>LNb (bl2++[bq1_]) (npos d k) h.size h_ ((ls.getD k lay0).k,.slice (some ⟨b22,0,none⟩) usx.length usx.length,.slice (some ⟨bq1_,0,none⟩) (((rr).take (((ls.getD k lay0).B.length))).length) cq1_) (Lay.mk (ls.getD k lay0).k Wd ((rr).take (((ls.getD k lay0).B.length))))) (⟨rfl,⟨_,(hs.f.1),by show (ul).length=Wd.length;omega,(hs.f.2.2.2.2.2.2.1).ext (by rw[hbl2,hWl];exact Nat.le_refl _)⟩,(by show SlB _ ((bl2++[bq1_]).getD (npos d k+Wd.length) 0) _ _ _;rw[hgl];exact ⟨cq1_,sp1_,rfl,hcq1_,(hs.f.2.2.2.1)⟩)⟩)
  refine lL hs [.v 50 (.pointer (some ⟨b10,0,none⟩)),.o 51 (.slice sA ((us).length) sc) 2 0 1,.o 52 (.agg #[.int .i64 ((ls.getD k lay0).k),.slice (some ⟨b22,0,none⟩) usx.length usx.length,.slice (some ⟨bq1_,0,none⟩) (((rr).take (((ls.getD k lay0).B.length))).length) cq1_]) 0 0 3] (lR 53 77 1 ([.int .i64 ((ls.getD k lay0).k),.slice (some ⟨b22,0,none⟩) usx.length usx.length,.slice (some ⟨bq1_,0,none⟩) (((rr).take (((ls.getD k lay0).B.length))).length) cq1_]) hs (fun b43 w44 h45 hs=>?_))
  refine lY 54 0 77 3 sc sA us lvc (((ls.getD k lay0).k,.slice (some ⟨b22,0,none⟩) usx.length usx.length,.slice (some ⟨bq1_,0,none⟩) (((rr).take (((ls.getD k lay0).B.length))).length) cq1_):LV) 56 b43 (.agg #[.int .i64 0,.slice none 0 0,.slice none 0 0]) hs (hs.f.1) (fun A47 c48 w49 h50 hs=>?_)
  refine lL hs [.v 55 (.pointer (some ⟨b10,0,none⟩))] (lP 2 0 ([.slice A47 ((us++[(((ls.getD k lay0).k,.slice (some ⟨b22,0,none⟩) usx.length usx.length,.slice (some ⟨bq1_,0,none⟩) (((rr).take (((ls.getD k lay0).B.length))).length) cq1_):LV)]).length) c48]) hs (fun w52 hs=>?_))
  refine lN (CG.listed (lIn 56 ((k:Nat)+1) (k+1) ?_))
  refine lL hs [.m 16 56] (lD ?_)
  intro a_ ka
  have q53:SlO 5 qc 0 h50 A1_ ((rr).drop (((ls.getD k lay0).B.length))):=(hs.f.2.2.2.2.2.2.1)
  have q54:NNb (bl2++[bq1_]) d h.size h50 (us++[(((ls.getD k lay0).k,.slice (some ⟨b22,0,none⟩) usx.length usx.length,.slice (some ⟨bq1_,0,none⟩) (((rr).take (((ls.getD k lay0).B.length))).length) cq1_):LV)]) (zs++[Lay.mk (ls.getD k lay0).k Wd ((rr).take (((ls.getD k lay0).B.length)))]):=(((hs.f.2.2.2.2.2.2.2.2.2.1).ext hZs (by rw[hzl];omega)).snoc (by rw[hzl];exact (hs.f.2.1)))
  have q55:Inc (bl2++[bq1_]) h50:=(hs.f.2.2.2.2.1)
  have q56:(k+1)≤ls.length:=by omega
  have q57:(zs++[Lay.mk (ls.getD k lay0).k Wd ((rr).take (((ls.getD k lay0).B.length)))]).length=(k+1):=by simp;omega
  have q58:Shp d (zs++[Lay.mk (ls.getD k lay0).k Wd ((rr).take (((ls.getD k lay0).B.length)))]):=Shp.snoc hZs (by rw[hzl];exact hMt oM) (by rw[hzl];show (List.take _ _).length=_;rw[List.length_take];omega)
  have q59:∀ i,i<(zs++[Lay.mk (ls.getD k lay0).k Wd ((rr).take (((ls.getD k lay0).B.length)))]).length→((zs++[Lay.mk (ls.getD k lay0).k Wd ((rr).take (((ls.getD k lay0).B.length)))]).getD i lay0).k=(ls.getD i lay0).k:=kind_snoc hZk (by rw[hzl])
  have q60:flatq (zs++[Lay.mk (ls.getD k lay0).k Wd ((rr).take (((ls.getD k lay0).B.length)))])++((rr).drop (((ls.getD k lay0).B.length)))=xs:=by rw[flatq_snoc];show flatq zs++Wd.flatten++List.take _ _++List.drop _ _=_;rw[take_cut];exact hfl2
  have q61:((rr).drop (((ls.getD k lay0).B.length))).length≤c1_:=hc1_
  have q62:(us++[(((ls.getD k lay0).k,.slice (some ⟨b22,0,none⟩) usx.length usx.length,.slice (some ⟨bq1_,0,none⟩) (((rr).take (((ls.getD k lay0).B.length))).length) cq1_):LV)]).length=(k+1):=by simp;omega
  have q63:(bl2++[bq1_]).length=npos d (k+1):=by rw[List.length_append,List.length_singleton];omega
  replace hs:=(((hs.tl.tl.tl.tl.tl.tl.tl.tl.tl.tl.tl.tl.tl.tl.tl.tl.tl.add (K:=fun h_=>Inc (bl2++[bq1_]) h_) q55).add (K:=fun h_=>NNb (bl2++[bq1_]) d h.size h_ (us++[(((ls.getD k lay0).k,.slice (some ⟨b22,0,none⟩) usx.length usx.length,.slice (some ⟨bq1_,0,none⟩) (((rr).take (((ls.getD k lay0).B.length))).length) cq1_):LV)]) (zs++[Lay.mk (ls.getD k lay0).k Wd ((rr).take (((ls.getD k lay0).B.length)))])) q54).add (K:=fun h_=>SlO 5 qc 0 h_ A1_ ((rr).drop (((ls.getD k lay0).B.length)))) q53)
  replace hs:=hs.drop 2 0
  refine ⟨_,_,?_,⟨k+1,A47,c48,us++[(((ls.getD k lay0).k,.slice (some ⟨b22,0,none⟩) usx.length usx.length,.slice (some ⟨bq1_,0,none⟩) (((rr).take (((ls.getD k lay0).B.length))).length) cq1_):LV)],zs++[Lay.mk (ls.getD k lay0).k Wd ((rr).take (((ls.getD k lay0).B.length)))],(rr).drop (((ls.getD k lay0).B.length)),A1_,c1_,(bl2++[bq1_]),h50,rfl,rfl,hs.to _ _,q56,q57,q58,q59,q60,q61,q62,q63⟩,ka.to [(4,.pointer (some ⟨b7,0,none⟩)),(5,.func (.func 184) #[] #[.pointer (some ⟨b4,0,none⟩)]),(6,.pointer (some ⟨b10,0,none⟩)),(14,.slice A ts.length cap),(15,.int .i64 (ts.length:Nat)),(16,.int .i64 ((k+1):Nat))] kR⟩
  omega
 have phb33:=oT hb33
 refine lB 31 hb33 ?_
 refine lN (CG.seq (cIT (CG.skipN (CG.seq (CG.block (cSL (lL hs [.m 32 30] (lX 33 AWx usx.length cWx 1 (i:Nat) i ((hs.f.2.2.2.2.2.2.1).ok oM) ?_))))))))
 obtain ⟨Arp,crp,erp,hcrp,hRrp⟩:=(hs.f.2.2.2.2.2.1).at_ i oM
 replace hs:=(hs.a_SlO hRrp)
 refine lHe 34 (usx.getD i undef) hs ((hs.f.2.2.2.2.2.2.2.1).el i oM) erp ?_
 refine lL hs [.m 10 32,.m 11 34] (lN (CG.region ⟨[b4],none⟩ 7 [] mixed kR hs.g al_nil (fun _ hb=>by rw[List.mem_singleton.1 hb];exact lt_of_some (hs.jk 5)) ?_))
 refine eV 0 35 (.pointer (some ⟨b28,1,none⟩)) ?_
 refine eO 1 36 [(0,1,1)] (.slice (some ⟨b22,0,none⟩) usx.length usx.length) hs ?_ (hM:=fun p hp=>by obtain rfl:=List.mem_singleton.1 hp;exact fun hm=>bx_ne hs.st (i:=0) (j:=5) kR kR kR (List.mem_singleton.1 hm))
 refine eV 2 37 (.int .i64 (i:Nat)) ?_
 refine eV 3 38 (.func (.func 184) #[] #[.pointer (some ⟨b4,0,none⟩)]) ?_
 refine eV 4 39 (.slice Arp ((((ls.getD k lay0).W).getD i []).length) crp) ?_
 refine eV 5 40 (.int .i64 ((((ls.getD k lay0).W).getD i []).length:Nat)) ?_
 refine eCm 6 41 hs (List.mem_singleton.2 rfl) (fun _ _ hs=>nNext (((((ls.getD k lay0).W).getD i []).length:Nat)) b4 c2 A2 (rr) oM oM oM hcr _ _ hs.g (hs.own 5) (hs.jk 5) (hs.f.2.1)) ?_
 rintro _ _ _ w64 h65 hs u66 ⟨⟨bq2_,cq2_,sp2_,rfl,hcq2_,hNq2_⟩,A2_,c2_,hO2,hc2_,hSl2_⟩
 have hJ2_:=Inc.snoc (hs.f.2.2.2.2.1) hNq2_
 replace hNq2_:=hNq2_.mono hs.st.sz
 replace hs:=(hs.stepM 5 u66 hO2).to [⟨b28,77,[.int .i64 ((ls.getD k lay0).k),.slice (some ⟨b22,0,none⟩) usx.length usx.length,.slice none 0 0]⟩,⟨b22,75,(ul).flatMap vc⟩,⟨b18,77,[.int .i64 ((ls.getD k lay0).k),.slice AWx usx.length cWx,.slice ABx ((ls.getD k lay0).B.length) cBx]⟩,⟨b10,28,[.slice sA ((us).length) sc]⟩,⟨b7,28,[.slice none 0 0]⟩,⟨b4,75,[.slice A2_ (((rr).drop (((((ls.getD k lay0).W).getD i []).length:Nat))).length) c2_]⟩,⟨b1,28,[.slice A ts.length cap]⟩] [⟨77,3,sA,sc,(us).length,(us).flatMap lvc⟩]
 replace hs:=(((hs.a_SlO hSl2_).add (K:=fun h_=>Nw h.size h_ bq2_ 73 (((rr).take (((((ls.getD k lay0).W).getD i []).length:Nat))).flatMap qc++sp2_)) hNq2_).add (K:=fun h_=>Inc (bl2++[bq2_]) h_) hJ2_)
 refine eD0 hs (fun w67 h68 hs=>?_)
 refine tX 7 42 (some ⟨b22,0,none⟩) usx.length usx.length 1 (i:Nat) i rfl ?_
 refine tW 8 1 ul vc 1 i (.slice (some ⟨bq2_,0,none⟩) (((rr).take (((((ls.getD k lay0).W).getD i []).length:Nat))).length) cq2_:Value) hs oM (fun w69 hs=>?_)
 have hl70:((ul).set i (.slice (some ⟨bq2_,0,none⟩) (((rr).take (((((ls.getD k lay0).W).getD i []).length:Nat))).length) cq2_:Value)).length=usx.length:=by rw[List.length_set];exact hlul
 replace hs:=hs.to [⟨b28,77,[.int .i64 ((ls.getD k lay0).k),.slice (some ⟨b22,0,none⟩) usx.length usx.length,.slice none 0 0]⟩,⟨b22,75,((ul).set i (.slice (some ⟨bq2_,0,none⟩) (((rr).take (((((ls.getD k lay0).W).getD i []).length:Nat))).length) cq2_:Value)).flatMap vc⟩,⟨b18,77,[.int .i64 ((ls.getD k lay0).k),.slice AWx usx.length cWx,.slice ABx ((ls.getD k lay0).B.length) cBx]⟩,⟨b10,28,[.slice sA ((us).length) sc]⟩,⟨b7,28,[.slice none 0 0]⟩,⟨b4,75,[.slice A2_ (((rr).drop (((((ls.getD k lay0).W).getD i []).length:Nat))).length) c2_]⟩,⟨b1,28,[.slice A ts.length cap]⟩] [⟨77,3,sA,sc,(us).length,(us).flatMap lvc⟩]
 refine tN (CG.listed (lIn 43 ((i:Nat)+1) (i+1) ?_))
 refine lL hs [.m 30 43] (lD ?_)
 intro a_ ka
 have q71:SlO 5 qc 0 h68 A2_ ((rr).drop (((((ls.getD k lay0).W).getD i []).length:Nat))):=(hs.f.2.2.1)
 have q72:QNb (bl2++[bq2_]) (npos d k) h.size h68 ((ul).set i (.slice (some ⟨bq2_,0,none⟩) (((rr).take (((((ls.getD k lay0).W).getD i []).length:Nat))).length) cq2_:Value)) (Wd++[rr.take ((ls.getD k lay0).W.getD i []).length]):=(QNb.snoc (hs.f.2.2.2.2.2.1) hWl oM hbl2 ⟨cq2_,sp2_,rfl,hcq2_,(hs.f.2.1)⟩)
 have q73:NNb (bl2++[bq2_]) d h.size h68 us zs:=((hs.f.2.2.2.2.2.2.1).ext hZs (by rw[hzl];omega))
 have q74:Inc (bl2++[bq2_]) h68:=(hs.f.1)
 have q75:(i+1)≤usx.length:=by omega
 have q76:((ul).set i (.slice (some ⟨bq2_,0,none⟩) (((rr).take (((((ls.getD k lay0).W).getD i []).length:Nat))).length) cq2_:Value)).length=usx.length:=hl70
 have q77:(Wd++[rr.take ((ls.getD k lay0).W.getD i []).length]).length=(i+1):=by simp;omega
 have q78:∀ r∈(Wd++[rr.take ((ls.getD k lay0).W.getD i []).length]),r.length=d k:=(rows_snoc' hWr (by rw[List.length_take];omega))
 have q79:flatq zs++(Wd++[rr.take ((ls.getD k lay0).W.getD i []).length]).flatten++((rr).drop (((((ls.getD k lay0).W).getD i []).length:Nat)))=xs:=by rw[List.flatten_append,List.flatten_singleton,←List.append_assoc,take_cut];exact hfl2
 have q80:((rr).drop (((((ls.getD k lay0).W).getD i []).length:Nat))).length≤c2_:=hc2_
 have q81:(bl2++[bq2_]).length=npos d k+(i+1):=by rw[List.length_append,List.length_singleton];omega
 replace hs:=((((hs.tl.tl.tl.tl.tl.tl.tl.tl.add (K:=fun h_=>Inc (bl2++[bq2_]) h_) q74).add (K:=fun h_=>NNb (bl2++[bq2_]) d h.size h_ us zs) q73).add (K:=fun h_=>QNb (bl2++[bq2_]) (npos d k) h.size h_ ((ul).set i (.slice (some ⟨bq2_,0,none⟩) (((rr).take (((((ls.getD k lay0).W).getD i []).length:Nat))).length) cq2_:Value)) (Wd++[rr.take ((ls.getD k lay0).W.getD i []).length])) q72).add (K:=fun h_=>SlO 5 qc 0 h_ A2_ ((rr).drop (((((ls.getD k lay0).W).getD i []).length:Nat)))) q71)
 refine ⟨_,_,?_,⟨i+1,(ul).set i (.slice (some ⟨bq2_,0,none⟩) (((rr).take (((((ls.getD k lay0).W).getD i []).length:Nat))).length) cq2_:Value),Wd++[rr.take ((ls.getD k lay0).W.getD i []).length],(rr).drop (((((ls.getD k lay0).W).getD i []).length:Nat)),A2_,c2_,(bl2++[bq2_]),h68,rfl,rfl,hs.to _ _,q75,q76,q77,q78,q79,q80,q81⟩,ka.to [(4,.pointer (some ⟨b7,0,none⟩)),(5,.func (.func 184) #[] #[.pointer (some ⟨b4,0,none⟩)]),(6,.pointer (some ⟨b10,0,none⟩)),(14,.slice A ts.length cap),(15,.int .i64 (ts.length:Nat)),(16,.int .i64 (k:Nat)),(8,.pointer (some ⟨b18,0,none⟩)),(9,.pointer (some ⟨b28,0,none⟩)),(28,.slice AWx usx.length cWx),(29,.int .i64 (usx.length:Nat)),(30,.int .i64 ((i+1):Nat))] kR⟩
 omega
structure Dif (M:List Nat) (w w0:World):Prop where
  mo:Mo M w w0
  sz:w0.heap.size=w.heap.size
theorem Dif.refl (M:List Nat)(w:World):Dif M w w:=⟨Mo.refl M w,rfl⟩
section frn
variable {w0 w w' wi:World} {h0 h h':Hp} {B:List Bx} {R:List Rw} {F:List (Hp→Prop)} {M:List Nat}
theorem own_ge {base:Nat}{ty:TypeId}{sz n:Nat}{v:Value}{cs:List Value}(o:w.ownsRow base ty sz v n cs){b:Nat}(hb:v.ownBlock=some b):base≤b:=by
  rcases o with ⟨_,⟨rfl,_⟩|⟨g,cap,cur,rfl,hbb,_⟩⟩
  · simp[Value.ownBlock] at hb
  · simp[Value.ownBlock] at hb;omega
theorem SS.frn (s:SS w0 h0 w h B R F)(hd:Dif M wi w0)(hM:∀ c∈M,h0[c]?=some junk)(u:UpM M w h w' h') :
    ∃ w0',Dif M wi w0'∧(∀ c,c<h0.size→w0'.heap[c]?=w'.heap[c]?)∧SS w0' h0 w' h' B R F:=by
  have hsz:w0.heap.size≤w'.heap.size:=Nat.le_trans s.st.up.ext.size u.mo.size
  have hs0:=s.g0.size
  have hlt:∀ c∈M,c<h0.size:=fun c hc=>lt_of_some (hM c hc)
  have hget:∀ c,c<w0.heap.size→(w'.heap.extract 0 w0.heap.size)[c]?=w'.heap[c]?:=fun c hc=>by
    rw[Array.getElem?_extract,if_pos oM];simp
  have hsame:∀ c,c<w0.heap.size→c ∉ M→w'.heap[c]?=w0.heap[c]?:=fun c hc hn=>(u.mo.blk c (Nat.lt_of_lt_of_le hc s.st.up.ext.size) hn).trans (Below.block s.st.up.ext c hc)
  have hx:(w'.heap.extract 0 w0.heap.size).size=w0.heap.size:=by simp;omega
  refine ⟨{ w0 with heap:=w'.heap.extract 0 w0.heap.size },⟨⟨hd.mo.os,hd.mo.tape,hd.mo.output,by show _≤(w'.heap.extract 0 w0.heap.size).size;rw[hx];exact hd.mo.size,fun c hc hn=>?_⟩,hx.trans hd.sz⟩,fun c hc=>hget c oM,⟨⟨hx.trans hs0,fun c=>?_⟩,⟨⟨⟨?_,?_,?_,?_,fun c hc=>?_⟩,s.st.up.gr.trans u.gr,u.g⟩,fun x hx'=>?_,fun x hx'=>?_,s.st.lo,s.st.nd⟩,fun r hr=>?_,s.ap,s.mo,s.f.gw s.mo u.gr.gw⟩⟩
  · have hc0:c<w0.heap.size:=Nat.lt_of_lt_of_le hc hd.mo.size
    show (w'.heap.extract 0 w0.heap.size)[c]?=_
    rw[hget c hc0,hsame c hc0 hn];exact hd.mo.blk c hc hn
  · show h0[c]?=(w'.heap.extract 0 w0.heap.size)[c]?∨_
    by_cases hm:c∈M
    · exact .inr (hM c hm)
    · by_cases hc:c<w0.heap.size
      · rw[hget c hc,hsame c hc hm];exact s.g0.blk c
      · rw[Array.getElem?_eq_none oM,Array.getElem?_eq_none (by rw[hx];omega)];exact .inl rfl
  · exact u.mo.os.trans s.st.up.ext.os
  · exact u.mo.tape.trans s.st.up.ext.tape
  · exact u.mo.output.trans s.st.up.ext.output
  · show (w'.heap.extract 0 w0.heap.size).size≤_;rw[hx];exact hsz
  · have hc':c<w0.heap.size:=by rw[←hx];exact hc
    exact (hget c hc').symm
  · have hlo:=s.st.lo x hx'
    show w'.heap[x.b]?=_
    rw[u.mo.blk x.b (s.st.own x hx').lt (fun hm=>by have:=hlt _ hm;omega)]
    exact s.st.own x hx'
  · rw[u.gr.blk _ (lt_of_some (s.st.jk x hx'))];exact s.st.jk x hx'
  · have r0:=s.ro r hr
    exact ⟨own_block r0.own (fun c hc=>u.mo.blk c (own_lt r0.own hc) (fun hm=>by have h1:=hlt _ hm;have h2:=own_ge r0.own hc;omega)),fun c hc=>(u.gr.blk c (r0.lt hc)).trans (r0.jk c hc),r0.ap⟩
theorem SS.upF (s:SS w0 h0 w h B R F)(hd:Dif M wi w0):UpM M wi h0 w h:=⟨hd.mo.trans (s.st.up.ext.mo M),s.st.up.gr,s.st.up.g⟩
theorem SS.fown (s:SS w0 h0 w h B R F){b:Nat}{t:TypeId}{vs:List Value}(o:Own w0 b t vs):Own w b t vs:=o.ext s.st.up.ext
theorem SS.fjk (s:SS w0 h0 w h B R F){b:Nat}(hj:h0[b]?=some junk):h[b]?=some junk:=(s.st.up.gr.blk _ (lt_of_some hj)).trans hj
theorem SS.frn_ne (s:SS w0 h0 w h B R F){b:Nat}(hj:h0[b]?=some junk)(j:Nat)(hj':decide (j<B.length)=true:=by kernel_rfl):(bxAt B j).b ∉ [b]:=fun hm=>by
  have:=s.st.lo _ (bxAt_mem (oT hj'))
  have:=lt_of_some hj
  have:=List.mem_singleton.1 hm
  omega
theorem one_jk {b:Nat}(hj:h0[b]?=some junk):∀ c∈[b],h0[c]?=some junk:=fun c hc=>by rw[List.mem_singleton.1 hc];exact hj
end frn
section get
variable {P:Program} {n:Nat} {N R:Po} {X:Nat→Po} {ops:Array Oper} {k:Nat} {Γ:Env} {w:World} {h:Hp} {w0:World} {h0:Hp} {B:List Bx} {Rs:List Rw} {F:List (Hp→Prop)}
theorem lQe {α:Type}(t j:Nat)(l:List α)(f:α→List Value)(sz:Nat)(d:α)(e:Nat)(u v:Value)(s:SS w0 h0 w h B Rs F)(hk:e<l.length)(hv:u=v)(H:LG P n N R X ops (k+1) ((t,v)::Γ) w)(hc:cL ops Γ k t n=true:=by kernel_rfl)
    (hj:decide (j<B.length)=true:=by kernel_rfl)(hB:(bxAt B j).vs=l.flatMap f:=by kernel_rfl)(hf:∀ x,(f x).length=sz:=by intro _;rfl)
    (he:evalL P (execOp (ev Γ) (opAt ops k)) (f (l.getD e d))=some (.value u,mka (bxAt B j).b (0+e*sz) (f (l.getD e d)).length):=by kernel_rfl):LG P n N R X ops k Γ w:=by
  subst hv
  exact lQ t j l f sz d e u s hk H hc hj hB hf he
end get
section gete
variable {M:Ms} {P:Program} {n:Nat} {N R:Po} {X:Nat→Po} {ops:Array Oper} {k0:Nat} {hr:Hp} {AL:List Al} {L:Array Bool} {Γ:Env} {w:World} {h:Hp} {w0:World} {h0:Hp} {B:List Bx} {Rs:List Rw} {F:List (Hp→Prop)}
theorem eQe {α:Type}(i t j:Nat)(l:List α)(f:α→List Value)(sz:Nat)(d:α)(e:Nat)(u v:Value)(s:SS w0 h0 w h B Rs F)(hk:e<l.length)(hv:u=v)(H:EG M P n N R X ops k0 hr AL (L.setIfInBounds i true) ((t,v)::Γ) w h)(hM:(bxAt B j).b ∉ M.l:=by exact List.not_mem_nil)(hc:cEl n ops k0 AL L Γ i t=true:=by kernel_rfl)
    (hj:decide (j<B.length)=true:=by kernel_rfl)(hB:(bxAt B j).vs=l.flatMap f:=by kernel_rfl)(hf:∀ x,(f x).length=sz:=by intro _;rfl)
    (he:evalL P (execOp (ev Γ) (opAt ops i)) (f (l.getD e d))=some (.value u,mka (bxAt B j).b (0+e*sz) (f (l.getD e d)).length):=by kernel_rfl):EG M P n N R X ops k0 hr AL L Γ w h:=by
  subst hv
  exact eQ i t j l f sz d e u s hk H hM hc hj hB hf he
end gete
end Go.Proofs.YticblaklfnadoaaGreatDoor
