/- Laws and contracts that the card of this claim stands on, part 5. No condition of ours. -/
import Derived.Test.YticblaklfnadoaaGreatDoorPg0
import Derived.Test.YticblaklfnadoaaGreatDoorPg1
import Derived.Test.YticblaklfnadoaaGreatDoorPg2
import Derived.Test.YticblaklfnadoaaGreatDoorPg3
set_option maxRecDepth 100000
set_option maxHeartbeats 4000000
namespace Go.Proofs.YticblaklfnadoaaGreatDoor
open Go.RowKit
open Go.RowKit Go.Shelf
theorem lim_small {z:Int}(h0 : -9223372036854775808≤z)(h1:z<9223372036854775808):(lim (iabs z)).length≤2:=lim_len_le (by unfold iabs;omega)
theorem rOf (z:Int)(h0 : -9223372036854775808≤z)(h1:z<9223372036854775808)(w:World)(h:Hp)(g:G w h) :
    Calls Tryz.prog 52 #[.int .i64 z] w (Ret w h fun v h1=>RQ h1 v (z:Rat)):=by
 have hs:=SS.start g
 refine go Tryz.func52 [(0,.int .i64 z)] rfl ?_
 refine cSL (lA 2 95 ([.bool false,.slice none 0 0,.slice none 0 0]) hs (fun b1 w2 h3 hs=>?_))
 refine lNS (lL hs [.m 3 0] (lC 4 hs (rIntOf z oM oM _ _ hs.g) ?_))
 rintro _ w8 h9 hs ⟨A4,c5,rfl,hc6,hA7⟩
 replace hs:=(hs.a_SlO hA7)
 refine lC 5 hs (rNatOf 1 oM _ _ hs.g) ?_
 rintro _ w14 h15 hs ⟨A10,c11,rfl,hc12,hA13⟩
 replace hs:=(hs.a_SlO hA13)
 refine lL hs [.v 6 (.agg #[.bool (ineg z),.slice A4 ((lim (iabs z)).length) c5,.slice A10 ((lim 1).length) c11])] (lP 0 0 ([.bool (ineg z),.slice A4 ((lim (iabs z)).length) c5,.slice A10 ((lim 1).length) c11]) hs (fun w16 hs=>?_))
 exact lN (CG.ret (hs.ret [(0,0,3)] (.agg #[.bool (ineg z),.slice A4 ((lim (iabs z)).length) c5,.slice A10 ((lim 1).length) c11]) (by unfold RQ;rw[Rat.num_intCast,Rat.den_intCast];exact ⟨_,_,_,_,rfl,hc6,hc12,(hs.f.2.1),(hs.f.1)⟩)))
theorem rOver (x y:Int)(hy0:y≠0)(h0 : -9223372036854775808≤x)(h1:x<9223372036854775808)(h2 : -9223372036854775808≤y)(h3:y<9223372036854775808)(w:World)(h:Hp)(g:G w h) :
    Calls Tryz.prog 50 #[.int .i64 x,.int .i64 y] w (Ret w h fun v h1=>RQ h1 v (mkR x y)):=by
 have hs:=SS.start g
 have hx_:=lim_small h0 h1
 have hy_:=lim_small h2 h3
 refine go Tryz.func50 [(0,.int .i64 x),(1,.int .i64 y)] rfl ?_
 refine cSL (lA 4 95 ([.bool false,.slice none 0 0,.slice none 0 0]) hs (fun b1 w2 h3 hs=>?_))
 refine lNS (lL hs [.m 5 0] (lC 6 hs (rIntOf x oM oM _ _ hs.g) ?_))
 rintro _ w8 h9 hs ⟨A4,c5,rfl,hc6,hA7⟩
 replace hs:=(hs.a_SlO hA7)
 refine lL hs [.m 7 1] (lC 8 hs (rIntOf y oM oM _ _ hs.g) ?_)
 rintro _ w14 h15 hs ⟨A10,c11,rfl,hc12,hA13⟩
 replace hs:=(hs.a_SlO hA13)
 refine lC 9 hs (rMake x A4 c5 hc6 oM y A10 c11 hc12 oM hy0 _ _ hs.g (hs.f.2.1) (hs.f.1)) ?_
 rintro _ w24 h25 hs ⟨A16,c17,A20,c21,rfl,hc18,hc22,hA19,hA23⟩
 replace hs:=((hs.a_SlO hA19).a_SlO hA23)
 refine lP 0 0 ([.bool (ineg (mkR x y).num),.slice A16 ((lim (iabs (mkR x y).num)).length) c17,.slice A20 ((lim (mkR x y).den).length) c21]) hs (fun w26 hs=>?_)
 exact lN (CG.ret (hs.ret [(0,0,3)] (.agg #[.bool (ineg (mkR x y).num),.slice A16 ((lim (iabs (mkR x y).num)).length) c17,.slice A20 ((lim (mkR x y).den).length) c21]) (by skip;exact ⟨_,_,_,_,rfl,hc18,hc22,(hs.f.2.1),(hs.f.1)⟩)))
theorem opShlU32 {P:Program}{Γ:Env}{o:Oper}{t u:TypeId}{x y:Operand}{ky:IntKind}{a n:Nat}(ho:o.op=.binOp .shl t x y u)(hx:ev Γ x=.int .u32 (a:Int))(hy:ev Γ y=.int ky (n:Int))(hn:n≤32)(hf:a*2^n<4294967296)(w:World) :
    (execOp (ev Γ) o).run P w=.ok (.value (.int .u32 ((a*2^n:Nat):Int))) w:=by
  have:=opShl (P:=P) ho hx hy hn w
  rw[show ((a:Int)*2^n)=((a*2^n:Nat):Int) by simp,fnU32 hf] at this
  exact this
theorem lowL_init {n m:Nat}(h:n<256^m):∀ j,j<(m+3)/4→(List.replicate ((m+3)/4) 0).getD j 0=lowL n (m-0) j:=fun j hj=>by
  rw[Nat.sub_zero,lowL_top h];simp[hj]
theorem lowL_next {l:List Nat}{n m i x:Nat}(hi:i<m)(hl:l.length=(m+3)/4)(hv:∀ j,j<(m+3)/4→l.getD j 0=lowL n (m-i) j)(hx:x=lowL n (m-1-i) ((m-1-i)/4)) :
    ∀ j,j<(m+3)/4→(l.set ((m-1-i)/4) x).getD j 0=lowL n (m-(i+1)) j:=by
  intro j hj
  rw[show m-(i+1)=m-1-i by omega]
  by_cases e:j=(m-1-i)/4
  · subst e
    have:(m-1-i)/4<l.length:=by omega
    simp[this,hx]
  · rw[lowL_step,if_neg e,show m-1-i+1=m-i by omega,←hv j hj]
    simp only[List.getD_eq_getElem?_getD]
    rw[List.getElem?_set_ne (Ne.symm e)]
theorem from_or {n k:Nat}:lowL n (k+1) (k/4) ||| (n/256^k%256)*2^(8*(k%4))=lowL n k (k/4):=by rw[lowL_step n k (k/4),if_pos rfl]
theorem shl_fit32 {b k:Nat}(hb:b<256):b*2^(8*(k%4))<4294967296:=by
  have:k%4=0∨k%4=1∨k%4=2∨k%4=3:=by omega
  rcases this with e|e|e|e<;>rw[e]<;>omega
theorem from_fin {l:List Nat}{n m:Nat}(hn:n<256^m)(hl:l.length=(m+3)/4)(hv:∀ j,j<(m+3)/4→l.getD j 0=lowL n (m-m) j):bval 4294967296 l=n∧Ld l:=by
  constructor
  · rw[←nval_bval]
    refine nval_of_digits l n (fun j hj=>by rw[hv j oM,Nat.sub_self,lowL_zero]) ?_
    refine Nat.lt_of_lt_of_le hn ?_
    rw[hl,show (256:Nat)=2^8 by rfl,show (4294967296:Nat)=2^32 by rfl,←Nat.pow_mul,←Nat.pow_mul]
    exact Nat.pow_le_pow_right oM oM
  · intro x hx
    obtain ⟨j,hj,rfl⟩:=List.mem_iff_getElem.1 hx
    have:=hv j oM
    have e:l[j]=l.getD j 0:=by simp[hj]
    rw[e,this]
    exact lowL_lt _ _ _
theorem rNatFrom (n m:Nat)(A:Option Addr)(cap:Nat)(hc:m≤cap)(hm:m≤1099511627776)(hn:n<256^m)(w:World)(h:Hp)(g:G w h)(hA:SlO 1 u8c 0 h A (byt n m)) :
    Calls Tryz.prog 180 #[.slice A m cap] w (Ret w h fun v h1=>RN h1 v n):=by
 have hs:=SS.start g
 replace hs:=(hs.a_SlO hA)
 have hbl:=byt_len n m
 refine go Tryz.func180 [(0,.slice A m cap)] rfl ?_
 refine cSL (lL hs [.v 2 (.slice none 0 0)] (lNS (lL hs [.m 6 0,.v 7 (.int .i64 (m:Nat))] (lIn 8 ((m:Nat)+3) (m+3) ?_))))
 refine lV 9 (.int .i64 ((m+3)/4:Nat)) ?_ (hr:=rint (opQuo (t:=3) (u:=3) (x:=.tmp 8) (y:=.const (.int .i64 4)) (k:=.i64) (a:=((m+3:Nat):Int)) (b:=(4:Int)) kR kR kR oM _) (quoI64 (m+3) 4 oM))
 refine lK 10 214 ((m+3)/4) 1 4 (.int .u32 0) u32c 0 hs (fun b1 w2 h3 hs=>?_)
 have hl4:(List.replicate ((m+3)/4) 0).length=((m+3)/4):=by simp
 refine lL hs [.m 3 10] (lN (CG.seq (cSL (lL hs [.v 4 (.int .i64 0)] (lN (CG.block (cTo [(0,.slice A m cap),(2,.slice none 0 0),(3,.slice (some ⟨b1,0,none⟩) ((m+3)/4) ((m+3)/4)),(4,.int .i64 0)] ?_)))))))
 refine CG.loop (fun μ_ Γ w_=>∃ (i:Nat) (l:List Nat) (h_:Hp),μ_=m-i∧Γ=[(0,.slice A m cap),(2,.slice none 0 0),(3,.slice (some ⟨b1,0,none⟩) ((m+3)/4) ((m+3)/4)),(4,.int .i64 (i:Nat))]∧SS w h w_ h_ [⟨b1,214,(l).flatMap u32c⟩] [] [fun h_=>SlO 1 u8c 0 h_ A (byt n m)]∧(i≤m)∧(l.length=(m+3)/4)∧(∀ j,j<(m+3)/4→l.getD j 0=lowL n (m-i) j)) _ ⟨0,List.replicate ((m+3)/4) 0,h3,rfl,rfl,hs.to _ _,Nat.zero_le _,hl4,(lowL_init hn)⟩ ?_
 rintro _ _ w5 ⟨i,l,h6,hm7,rfl,hs,hi,hll,hv⟩
 refine CG.seq (cSL (lL hs [.m 11 4,.m 12 0,.v 13 (.int .i64 (m:Nat))] ?_))
 cases hb8:(decide (((i:Nat):Int)<((m:Nat):Int)))
 ·
  have phb8:=oF hb8
  refine lB 14 hb8 ?_
  refine lN (cIF (CG.exit ?_))
  show CG _ _ _ _ _ _ _ _
  refine cSL (lL hs [.m 42 3] ?_)
  have him:i=m:=by omega
  rw[him] at hv
  obtain ⟨hf1,hf2⟩:=from_fin hn hll hv
  obtain ⟨h9,hs,sg10,lo11,bc12⟩:=hs.pub 0
  replace hs:=(hs.to [] []).a_SlO (SlO.of_flat (sz:=1) (f:=u32c) (d:=0) (b:=b1) (o:=0) (l:=l) (fun _=>rfl) sg10)
  refine lC 43 hs (rTrim (some ⟨b1,0,none⟩) ((m+3)/4) l ((m+3)/4) hll oM oM _ _ hs.g (hs.f.1)) ?_
  rintro _ w14 h15 hs rfl
  exact lL hs [.m 2 43] (lN (CG.ret (hs.ret [] (.slice (some ⟨b1,0,none⟩) (tl l ((m+3)/4)) ((m+3)/4)) (RN.trim hf2 hf1 hll oM (hs.f.1)))))
 have phb8:=oT hb8
 refine lB 14 hb8 ?_
 refine lN (cIT (CG.skipN (CG.seq (CG.block (cSL (lL hs [.m 17 0,.v 18 (.int .i64 (m:Nat))] (lIn 19 ((m:Nat)-1) (m-1) ?_)))))))
 refine lL hs [.m 20 4] (lIn 21 ((m-1:Nat)-(i:Nat)) ((m-1)-i) ?_)
 refine lL hs [.m 5 21] (lN (cR 19 [] mixed hs al_nil ?_))
 refine eV 0 22 (.slice (some ⟨b1,0,none⟩) ((m+3)/4) ((m+3)/4)) ?_
 refine eV 1 23 (.int .i64 ((m-1)-i:Nat)) ?_
 refine eV 2 24 (.int .i64 (((m-1)-i)/4:Nat)) ?_ (hv:=fun _=>rint (opQuo (t:=3) (u:=3) (x:=.tmp 23) (y:=.const (.int .i64 4)) (k:=.i64) (a:=(((m-1)-i:Nat):Int)) (b:=(4:Int)) kR kR kR oM _) (quoI64 ((m-1)-i) 4 oM))
 refine eV 3 25 (.slice (some ⟨b1,0,none⟩) ((m+3)/4) ((m+3)/4)) ?_
 refine eV 4 26 (.int .i64 ((m-1)-i:Nat)) ?_
 refine eV 5 27 (.int .i64 (((m-1)-i)/4:Nat)) ?_ (hv:=fun _=>rint (opQuo (t:=3) (u:=3) (x:=.tmp 26) (y:=.const (.int .i64 4)) (k:=.i64) (a:=(((m-1)-i:Nat):Int)) (b:=(4:Int)) kR kR kR oM _) (quoI64 ((m-1)-i) 4 oM))
 refine eX 6 28 (some ⟨b1,0,none⟩) ((m+3)/4) ((m+3)/4) 1 (((m-1)-i)/4:Nat) (((m-1)-i)/4:Nat) rfl ?_
 refine eQ 7 29 0 l u32c 1 0 (((m-1)-i)/4:Nat) (.int .u32 ((l).getD (((m-1)-i)/4:Nat) 0:Nat)) hs oM ?_
 refine eV 8 30 (.slice A m cap) ?_
 refine eV 9 31 (.int .i64 (i:Nat)) ?_
 refine eX 10 32 A m cap 1 (i:Nat) i ((hs.f.1).ok oM) ?_
 have hvk:=hv ((m-1-i)/4) oM
 have hor:l.getD ((m-1-i)/4) 0 ||| (n/256^(m-1-i)%256)*2^(8*((m-1-i)%4))=lowL n (m-1-i) ((m-1-i)/4):=by rw[hvk,show m-i=m-1-i+1 by omega];exact from_or
 have hlt:l.getD ((m-1-i)/4) 0<4294967296:=by rw[hvk];exact lowL_lt _ _ _
 have hvk:=hv ((m-1-i)/4) oM
 have hor:l.getD ((m-1-i)/4) 0 ||| (n/256^(m-1-i)%256)*2^(8*((m-1-i)%4))=lowL n (m-1-i) ((m-1-i)/4):=by rw[hvk,show m-i=m-1-i+1 by omega];exact from_or
 have hlt:l.getD ((m-1-i)/4) 0<4294967296:=by rw[hvk];exact lowL_lt _ _ _
 refine eHe 11 33 (.int .u8 ((byt n m).getD i 0:Nat)) hs ((hs.f.1).el i oM) (by rw[byt_get n m _ oM]) ?_
 refine eV 12 34 (.int .u32 (n/256^(m-1-i)%256:Nat)) ?_ (hv:=fun _=>rint (n:=IntKind.wrap .u32 ((n/256^(m-1-i)%256:Nat):Int)) kR (fitU32 oM oM))
 refine eV 13 35 (.int .i64 ((m-1)-i:Nat)) ?_
 refine eV 14 36 (.int .i64 (((m-1)-i)%4:Nat)) ?_ (hv:=fun _=>rint (opRem (t:=3) (u:=3) (x:=.tmp 35) (y:=.const (.int .i64 4)) (k:=.i64) (a:=(((m-1)-i:Nat):Int)) (b:=(4:Int)) kR kR kR oM _) (tmodNat ((m-1)-i) 4))
 refine eIn 15 37 (8*(((m-1)-i)%4:Nat)) (8*(((m-1)-i)%4:Nat)) ?_
 refine eV 16 38 (.int .u64 (8*(((m-1)-i)%4:Nat):Nat)) ?_ (hv:=fun _=>rint (n:=IntKind.wrap .u64 ((8*(((m-1)-i)%4:Nat):Nat):Int)) kR (fitU64 oM oM))
 refine eV 17 39 (.int .u32 ((n/256^(m-1-i)%256)*2^(8*((m-1-i)%4)):Nat)) ?_ (hv:=fun _=>opShlU32 (t:=214) (u:=119) (x:=.tmp 34) (y:=.tmp 38) (ky:=.u64) (a:=n/256^(m-1-i)%256) (n:=8*((m-1-i)%4)) kR kR kR oM (shl_fit32 oM) _)
 refine eV 18 40 (.int .u32 (lowL n (m-1-i) ((m-1-i)/4):Nat)) ?_ (hv:=fun _=>rint (opOr32 (t:=214) (u:=214) (x:=.tmp 29) (y:=.tmp 39) (a:=l.getD ((m-1-i)/4) 0) (b:=(n/256^(m-1-i)%256)*2^(8*((m-1-i)%4))) kR kR kR hlt (shl_fit32 oM) _) (congrArg Int.ofNat hor))
 refine eD0 hs (fun w16 h17 hs=>?_)
 refine tX 19 41 (some ⟨b1,0,none⟩) ((m+3)/4) ((m+3)/4) 1 (((m-1)-i)/4:Nat) (((m-1)-i)/4:Nat) rfl ?_
 refine tW 20 0 l u32c 1 (((m-1)-i)/4:Nat) (lowL n (m-1-i) ((m-1-i)/4):Nat) hs oM (fun w18 hs=>?_)
 have hl19:((l).set (((m-1)-i)/4:Nat) (lowL n (m-1-i) ((m-1-i)/4):Nat)).length=((m+3)/4):=by rw[List.length_set];exact hll
 replace hs:=hs.to [⟨b1,214,((l).set (((m-1)-i)/4:Nat) (lowL n (m-1-i) ((m-1-i)/4):Nat)).flatMap u32c⟩] []
 refine tN (CG.listed (lL hs [.m 15 4] (lIn 16 ((i:Nat)+1) (i+1) ?_)))
 refine lL hs [.m 4 16] (lD ?_)
 intro a_ ka
 have q20:(i+1)≤m:=by omega
 have q21:((l).set (((m-1)-i)/4:Nat) (lowL n (m-1-i) ((m-1-i)/4):Nat)).length=(m+3)/4:=hl19
 have q22:∀ j,j<(m+3)/4→((l).set (((m-1)-i)/4:Nat) (lowL n (m-1-i) ((m-1-i)/4):Nat)).getD j 0=lowL n (m-(i+1)) j:=(lowL_next oM hll hv rfl)
 refine ⟨_,_,?_,⟨i+1,(l).set (((m-1)-i)/4:Nat) (lowL n (m-1-i) ((m-1-i)/4):Nat),h17,rfl,rfl,hs.to _ _,q20,q21,q22⟩,ka.to [(0,.slice A m cap),(2,.slice none 0 0),(3,.slice (some ⟨b1,0,none⟩) ((m+3)/4) ((m+3)/4)),(4,.int .i64 ((i+1):Nat))] kR⟩
 omega
def qabs (q:Rat):Rat:=if q.num<0 then -q else q
theorem qabs_num (q:Rat):(qabs q).num=((iabs q.num:Nat):Int):=by
  unfold qabs iabs;split
  · rw[Rat.neg_num];omega
  · omega
theorem qabs_den (q:Rat):(qabs q).den=q.den:=by
  unfold qabs;split
  · rw[Rat.neg_den]
  · rfl
theorem LQ.ln {q:Rat}(h:LQ 100000000 q):(lim (iabs q.num)).length≤300000000:=Nat.le_trans (lim_wds _) (by have:=h.1;omega)
theorem LQ.ld {q:Rat}(h:LQ 100000000 q):(lim q.den).length≤300000000:=Nat.le_trans (lim_wds _) (by have:=h.2;omega)
theorem LQ.abs {k:Nat}{q:Rat}(h:LQ k q):LQ k (qabs q):=⟨by rw[qabs_num];exact h.1,by rw[qabs_den];exact h.2⟩
theorem LQ.inv {k:Nat}{q:Rat}(h:LQ k q):LQ k q⁻¹:=by
  by_cases hz:q.num=0
  · have:q=0:=by rw[←Rat.num_eq_zero];exact hz
    subst this;rw[Rat.inv_zero];exact h
  · obtain ⟨h1,h2⟩:=rat_inv q hz
    exact ⟨by rw[h1,iabs_sgn];exact h.2,by rw[h2];exact h.1⟩
theorem LQ.div {k l:Nat}{a b:Rat}(ha:LQ k a)(hb:LQ l b):LQ (k+l) (a/b):=by rw[Rat.div_def];exact ha.mul hb.inv
theorem LQ.int {z:Int}(h0 : -9223372036854775808≤z)(h1:z≤9223372036854775807):LQ 1 (z:Rat):=⟨by rw[Rat.num_intCast];exact wds_len_lit.2 (by unfold iabs;omega),by rw[Rat.den_intCast];exact wds_len_lit.2 oM⟩
theorem LQ.lit {z:Int}(h : -9223372036854775808≤z∧z≤9223372036854775807):LQ 1 (z:Rat):=LQ.int h.1 h.2
def dotq (a b:List Rat):Nat→Rat
  | 0=>0
  | k+1=>dotq a b k+a.getD k 0*b.getD k 0
theorem LQ.dot {a b:List Rat}{k l n:Nat}(ha:∀ i,i<n→LQ k (a.getD i 0))(hb:∀ i,i<n→LQ l (b.getD i 0)):∀ i,i≤n→LQ (i*(k+l+1)+1) (dotq a b i)
  | 0,_=>by rw[Nat.zero_mul];exact LQ.lit (z:=0) kD
  | i+1,h=>by
    have h1:=(LQ.dot ha hb i oM).add ((ha i oM).mul (hb i oM))
    refine LQ.mono h1 ?_
    rw[Nat.succ_mul];omega
theorem hOutNat (n:Nat)(hl:(wds n).length≤100000000)(w:World)(h:Hp)(g:G w h) :
    Calls Tryz.prog 122 #[nv n] w (Ret w h fun v h1=>RN h1 v n):=by
 have hs:=SS.start g
 have hnb:=nb_len64 n
 refine go Tryz.func122 [(0,nv n)] rfl ?_
 refine cSL (lA 1 69 (nc n) hs (fun b1 w2 h3 hs=>?_))
 refine lL hs [.v 2 (.slice none 0 0)] (lNS (lL hs [.o 3 (nv n) 0 0 2] (lC 4 hs (nBytes n oM _ _ hs.g) ?_)))
 rintro _ w6 h7 hs ⟨A4,rfl,hA5⟩
 replace hs:=(hs.a_SlO hA5)
 refine lC 5 hs (rNatFrom n ((nb n+7)/8) A4 ((nb n+7)/8) (Nat.le_refl _) oM (lt256 n) _ _ hs.g (hs.f.1)) ?_
 rintro _ w12 h13 hs ⟨A8,c9,rfl,hc10,hA11⟩
 replace hs:=(hs.a_SlO hA11)
 exact lL hs [.m 2 5] (lN (CG.ret (hs.ret [] (.slice A8 ((lim n).length) c9) (⟨_,_,rfl,hc10,(hs.f.1)⟩))))
theorem sgn_sgn (z:Int):sgn (decide (z.sign<(0:Int))) (iabs z)=z:=by
  rcases Int.lt_trichotomy z 0 with h|h|h
  · rw[Int.sign_eq_neg_one_of_neg h];unfold sgn iabs;simp;omega
  · subst h;rfl
  · rw[Int.sign_eq_one_of_pos h];unfold sgn iabs;simp;omega
theorem hOutInt (z:Int)(hl:(wds (iabs z)).length≤100000000)(w:World)(h:Hp)(g:G w h) :
    Calls Tryz.prog 120 #[iv z] w (Ret w h fun v h1=>RI h1 v z):=by
 have hs:=SS.start g
 refine go Tryz.func120 [(0,iv z)] rfl ?_
 refine cSL (lA 1 71 (ic z) hs (fun b1 w2 h3 hs=>?_))
 refine lA 2 93 ([.bool false,.slice none 0 0]) hs (fun b4 w5 h6 hs=>?_)
 refine lN (CG.seq (cR 7 [] mixed hs al_nil ?_))
 refine eO 0 3 [(1,0,3)] (iv z) hs ?_
 refine eO 3 6 [(1,0,3)] (iv z) hs ?_
 refine eC 1 4 hs (fun _ _ hs=>wSign z oM _ _ hs.g) ?_
 rintro _ _ _ w7 h8 hs rfl
 refine eV 2 5 (.bool (decide ((z.sign:Int)<(0:Int)))) ?_
 refine eC 4 7 hs (fun _ _ hs=>wAbs z _ _ hs.g) ?_
 rintro _ _ _ w9 h10 hs rfl
 refine eC 5 8 hs (fun _ _ hs=>hOutNat (iabs z) (by first|exact hq.2|omega) _ _ hs.g) ?_
 rintro _ _ _ w15 h16 hs ⟨A11,c12,rfl,hc13,hA14⟩
 replace hs:=(hs.a_SlO hA14)
 refine eC 6 9 hs (fun _ _ hs=>rI (decide ((z.sign:Int)<(0:Int))) (iabs z) A11 c12 hc13 _ _ hs.g (hs.f.1)) ?_
 rintro _ _ _ w21 h22 hs ⟨A17,c18,rfl,hc19,hA20⟩
 replace hs:=(hs.a_SlO hA20)
 refine eD0 hs (fun w23 h24 hs=>?_)
 refine tP 7 0 0 ([.bool (ineg (sgn (decide ((z.sign:Int)<(0:Int))) (iabs z))),.slice A17 ((lim (iabs (sgn (decide ((z.sign:Int)<(0:Int))) (iabs z)))).length) c18]) hs (fun w25 hs=>?_)
 exact tN (CG.ret (hs.ret [(0,0,2)] (.agg #[.bool (ineg (sgn (decide ((z.sign:Int)<(0:Int))) (iabs z))),.slice A17 ((lim (iabs (sgn (decide ((z.sign:Int)<(0:Int))) (iabs z)))).length) c18]) (by rw[sgn_sgn] at *;exact ⟨_,_,rfl,hc19,(hs.f.1)⟩)))
theorem hOut (q:Rat)(hq:LQ 100000000 q)(w:World)(h:Hp)(g:G w h) :
    Calls Tryz.prog 75 #[qv q] w (Ret w h fun v h1=>RQ h1 v q):=by
 have hs:=SS.start g
 refine go Tryz.func75 [(0,qv q)] rfl ?_
 refine cSL (lA 1 73 (qc q) hs (fun b1 w2 h3 hs=>?_))
 refine lA 2 95 ([.bool false,.slice none 0 0,.slice none 0 0]) hs (fun b4 w5 h6 hs=>?_)
 refine lN (CG.seq (cR 7 [] mixed hs al_nil ?_))
 refine eO 0 3 [(1,0,5)] (qv q) hs ?_
 refine eO 3 6 [(1,0,5)] (qv q) hs ?_
 refine eC 1 4 hs (fun _ _ hs=>fNum q _ _ hs.g) ?_
 rintro _ _ _ w7 h8 hs rfl
 refine eC 2 5 hs (fun _ _ hs=>hOutInt q.num hq.1 _ _ hs.g) ?_
 rintro _ _ _ w13 h14 hs ⟨A9,c10,rfl,hc11,hA12⟩
 replace hs:=(hs.a_SlO hA12)
 refine eC 4 7 hs (fun _ _ hs=>fDen q hq _ _ hs.g) ?_
 rintro _ _ _ w15 h16 hs rfl
 refine eC 5 8 hs (fun _ _ hs=>hOutNat q.den (by first|exact hq.2|omega) _ _ hs.g) ?_
 rintro _ _ _ w21 h22 hs ⟨A17,c18,rfl,hc19,hA20⟩
 replace hs:=(hs.a_SlO hA20)
 refine eV 6 9 (.agg #[.bool (ineg q.num),.slice A9 ((lim (iabs q.num)).length) c10,.slice A17 ((lim q.den).length) c18]) ?_
 refine eD0 hs (fun w23 h24 hs=>?_)
 refine tP 7 0 0 ([.bool (ineg q.num),.slice A9 ((lim (iabs q.num)).length) c10,.slice A17 ((lim q.den).length) c18]) hs (fun w25 hs=>?_)
 exact tN (CG.ret (hs.ret [(0,0,3)] (.agg #[.bool (ineg q.num),.slice A9 ((lim (iabs q.num)).length) c10,.slice A17 ((lim q.den).length) c18]) (⟨_,_,_,_,rfl,hc11,hc19,(hs.f.2.1),(hs.f.1)⟩)))
def sameQ (a b:Rat):Bool:=decide (a=b)
theorem sameQ_t {a b:Rat}(h1:cmpN (iabs a.num) (iabs b.num)=0)(h2:ineg a.num=ineg b.num)(h3:cmpN a.den b.den=0):true=sameQ a b:=by
  have e1:iabs a.num=iabs b.num:=by unfold cmpN at h1;split at h1;omega;split at h1;omega;omega
  have e3:a.den=b.den:=by unfold cmpN at h3;split at h3;omega;split at h3;omega;omega
  have e2:a.num=b.num:=by rw[←sgn_self a.num,←sgn_self b.num,e1,h2]
  symm
  exact decide_eq_true (Rat.ext e2 e3)
theorem cmpN_self (a:Nat):cmpN a a=0:=by simp[cmpN]
theorem sameQ_f {a b:Rat}(h:cmpN (iabs a.num) (iabs b.num)≠0∨ineg a.num≠ineg b.num∨cmpN a.den b.den≠0):false=sameQ a b:=by
  symm
  refine decide_eq_false ?_
  rintro rfl
  rcases h with h|h|h
  · exact h (cmpN_self _)
  · exact h rfl
  · exact h (cmpN_self _)
theorem hSame (q r:Rat)(hq:LQ 100000000 q)(hr:LQ 100000000 r)(A1:Option Addr)(c1:Nat)(D1:Option Addr)(d1:Nat)(hc1:(lim (iabs r.num)).length≤c1)(hd1:(lim r.den).length≤d1)(w:World)(h:Hp)(g:G w h)(hA1:SlO 1 u32c 0 h A1 (lim (iabs r.num)))(hD1:SlO 1 u32c 0 h D1 (lim r.den)) :
    Calls Tryz.prog 33 #[qv q,.agg #[.bool (ineg r.num),.slice A1 ((lim (iabs r.num)).length) c1,.slice D1 ((lim r.den).length) d1]] w (Ret w h fun v _=>v=.bool (sameQ q r)):=by
 have hs:=SS.start g
 replace hs:=((hs.a_SlO hA1).a_SlO hD1)
 have hpd:0<(lim r.den).length:=lim_pos.2 r.den_pos
 have hq1:=LQ.ln hq
 have hq2:=LQ.ld hq
 have hr1:=LQ.ln hr
 have hr2:=LQ.ld hr
 refine go Tryz.func33 [(0,qv q),(1,.agg #[.bool (ineg r.num),.slice A1 ((lim (iabs r.num)).length) c1,.slice D1 ((lim r.den).length) d1])] rfl ?_
 refine cSL (lA 2 73 (qc q) hs (fun b1 w2 h3 hs=>?_))
 refine lA 3 95 ([.bool (ineg r.num),.slice A1 ((lim (iabs r.num)).length) c1,.slice D1 ((lim r.den).length) d1]) hs (fun b4 w5 h6 hs=>?_)
 refine lL hs [.v 4 (.bool false)] (lNS (lL hs [.o 6 (qv q) 1 0 5] (lC 7 hs (hOut q hq _ _ hs.g) ?_)))
 rintro _ w15 h16 hs ⟨A7,c8,A11,c12,rfl,hc9,hc13,hA10,hA14⟩
 replace hs:=((hs.a_SlO hA10).a_SlO hA14)
 refine lA 5 95 ([.bool false,.slice none 0 0,.slice none 0 0]) hs (fun b17 w18 h19 hs=>?_)
 refine lP 0 0 ([.bool (ineg q.num),.slice A7 ((lim (iabs q.num)).length) c8,.slice A11 ((lim q.den).length) c12]) hs (fun w20 hs=>?_)
 refine lN (CG.seq (cSL (lL hs [.v 8 (.pointer (some ⟨b4,2,none⟩)),.o 9 (.slice D1 ((lim r.den).length) d1) 1 2 1,.v 10 (.int .i64 ((lim r.den).length:Nat))] ?_)))
 have hb21:((((lim r.den).length:Nat):Int) == (0:Int))=false:=(by simp;exact fun h=>Nat.lt_irrefl 0 (by rw[h] at hpd;exact hpd))
 have phb21:=neOfBeq hb21
 refine lB 11 hb21 ?_
 refine lN (cIF (CG.skipN (cSL (lL hs [.v 13 (.pointer (some ⟨b17,0,none⟩)),.v 14 (.pointer (some ⟨b17,1,none⟩)),.o 15 (.slice A7 ((lim (iabs q.num)).length) c8) 0 1 1,.v 16 (.pointer (some ⟨b4,0,none⟩)),.v 17 (.pointer (some ⟨b4,1,none⟩)),.o 18 (.slice A1 ((lim (iabs r.num)).length) c1) 1 1 1] (lC 19 hs (rNatCmp (iabs q.num) A7 c8 hc9 (iabs r.num) A1 c1 hc1 oM oM _ _ hs.g (hs.f.2.1) (hs.f.2.2.2.1)) ?_)))))
 rintro _ w22 h23 hs rfl
 cases hb24:((cmpN (iabs q.num) (iabs r.num):Int) == (0:Int))
 ·
  have phb24:=neOfBeq hb24
  refine lB 20 hb24 ?_
  refine lL hs [.m 21 20] (lG 22 ?_)
  refine lG 23 ?_
  refine lG 24 ?_
  refine lG 25 ?_
  refine lG 26 ?_
  refine lG 27 ?_
  refine lG 28 ?_
  refine lL hs [.v 29 (.bool false),.m 30 29] (lG 31 ?_)
  refine lG 32 ?_
  refine lG 33 ?_
  refine lG 34 ?_
  refine lG 35 ?_
  refine lG 36 ?_
  exact lL hs [.v 37 (.bool false),.m 4 37] (lN (CG.ret (hs.ret [] (.bool false) (congrArg Value.bool (sameQ_f (by first|(left;assumption)|(right;right;assumption)|(right;left;exact beq_eq_false_iff_ne.1 ‹_›)))))))
 have phb24:=eq_of_beq hb24
 refine lB 20 hb24 ?_
 refine lL hs [.m 21 20,.v 22 (.pointer (some ⟨b17,0,none⟩)),.v 23 (.pointer (some ⟨b17,0,none⟩)),.o 24 (.bool (ineg q.num)) 0 0 1,.v 25 (.pointer (some ⟨b4,0,none⟩)),.v 26 (.pointer (some ⟨b4,0,none⟩)),.o 27 (.bool (ineg r.num)) 1 0 1] ?_
 cases hb25:((ineg q.num) == (ineg r.num))
 ·
  refine lB 28 hb25 ?_
  refine lL hs [.v 29 (.bool false),.m 30 29] (lG 31 ?_)
  refine lG 32 ?_
  refine lG 33 ?_
  refine lG 34 ?_
  refine lG 35 ?_
  refine lG 36 ?_
  exact lL hs [.v 37 (.bool false),.m 4 37] (lN (CG.ret (hs.ret [] (.bool false) (congrArg Value.bool (sameQ_f (by first|(left;assumption)|(right;right;assumption)|(right;left;exact beq_eq_false_iff_ne.1 ‹_›)))))))
 refine lB 28 hb25 ?_
 refine lL hs [.v 29 (.bool true),.m 30 29,.v 31 (.pointer (some ⟨b17,2,none⟩)),.o 32 (.slice A11 ((lim q.den).length) c12) 0 2 1,.v 33 (.pointer (some ⟨b4,2,none⟩)),.o 34 (.slice D1 ((lim r.den).length) d1) 1 2 1] (lC 35 hs (rNatCmp q.den A11 c12 hc13 r.den D1 d1 hd1 oM oM _ _ hs.g (hs.f.1) (hs.f.2.2.1)) ?_)
 rintro _ w26 h27 hs rfl
 cases hb28:((cmpN q.den r.den:Int) == (0:Int))
 ·
  have phb28:=neOfBeq hb28
  refine lB 36 hb28 ?_
  exact lL hs [.v 37 (.bool false),.m 4 37] (lN (CG.ret (hs.ret [] (.bool false) (congrArg Value.bool (sameQ_f (by first|(left;assumption)|(right;right;assumption)|(right;left;exact beq_eq_false_iff_ne.1 ‹_›)))))))
 have phb28:=eq_of_beq hb28
 refine lB 36 hb28 ?_
 exact lL hs [.v 37 (.bool true),.m 4 37] (lN (CG.ret (hs.ret [] (.bool true) (congrArg Value.bool (sameQ_t aM (eq_of_beq ‹_›) aM)))))
theorem LQ.mkR {n d:Int}(hd:d≠0)(h0 : -9223372036854775808≤n)(h1:n≤9223372036854775807)(h2 : -9223372036854775808≤d)(h3:d≤9223372036854775807):LQ 1 (mkR n d):=by
  unfold Go.Proofs.YticblaklfnadoaaGreatDoor.mkR
  have hp:0<iabs d:=by unfold iabs;omega
  obtain ⟨p1,p2,p3,p4⟩:=mkRat_parts (if d<0 then -n else n) (iabs d) hp
  refine ⟨?_,?_⟩
  · rw[p1];refine wds_len_lit.2 (Nat.lt_of_le_of_lt (iabs_div_le _ _ p3) ?_)
    unfold iabs;split<;>omega
  · rw[p2];exact wds_len_lit.2 (Nat.lt_of_le_of_lt (Nat.div_le_self _ _) (by unfold iabs;omega))
theorem hIs (q:Rat)(z e:Int)(hq:LQ 100000000 q)(he:e≠0)(hz0 : -9223372036854775808≤z)(hz1:z<9223372036854775808)(he0 : -9223372036854775808≤e)(he1:e<9223372036854775808)(w:World)(h:Hp)(g:G w h) :
    Calls Tryz.prog 29 #[qv q,.int .i64 z,.int .i64 e] w (Ret w h fun v _=>v=.bool (sameQ q (mkR z e))):=by
 have hs:=SS.start g
 have hb:LQ 100000000 (mkR z e):=(LQ.mkR he hz0 oM he0 oM).mono oM
 refine go Tryz.func29 [(0,qv q),(1,.int .i64 z),(2,.int .i64 e)] rfl ?_
 refine cSL (lA 3 73 (qc q) hs (fun b1 w2 h3 hs=>?_))
 refine lL hs [.v 6 (.bool false)] (lN (CG.seq (cR 5 [] mixed hs al_nil ?_)))
 refine eO 0 7 [(0,0,5)] (qv q) hs ?_
 refine eV 1 8 (.int .i64 z) ?_
 refine eV 2 9 (.int .i64 e) ?_
 refine eC 3 10 hs (fun _ _ hs=>rOver z e oM oM oM oM oM _ _ hs.g) ?_
 rintro _ _ _ w12 h13 hs ⟨A4,c5,A8,c9,rfl,hc6,hc10,hA7,hA11⟩
 replace hs:=((hs.a_SlO hA7).a_SlO hA11)
 refine eC 4 11 hs (fun _ _ hs=>hSame q (mkR z e) hq hb A4 c5 A8 c9 hc6 hc10 _ _ hs.g (hs.f.2.1) (hs.f.1)) ?_
 rintro _ _ _ w14 h15 hs rfl
 refine eD0 hs (fun w16 h17 hs=>?_)
 refine tV 5 6 (.bool (sameQ q (mkR z e))) ?_
 exact tN (CG.ret (hs.ret [] (.bool (sameQ q (mkR z e))) rfl))
def pick (n:Int)(m:Nat):Nat:=(n%(m:Int)).toNat
theorem pick_lt (n:Int)(m:Nat)(h:0<m):pick n m<m:=by
  unfold pick
  have h1:=Int.emod_nonneg n (show (m:Int)≠0 by omega)
  have h2:=Int.emod_lt_of_pos n (show (0:Int)<m by omega)
  omega
theorem pick_int (n:Int)(m:Nat)(h:0<m):((pick n m:Nat):Int)=n%(m:Int):=by
  unfold pick
  have h1:=Int.emod_nonneg n (show (m:Int)≠0 by omega)
  omega
theorem tmod_neg (n:Int)(m:Nat)(hm:0<m)(hn:n<0):(n%(m:Int)=0∧n.tmod (m:Int)=0)∨(0<n%(m:Int)∧n.tmod (m:Int)=n%(m:Int)-m):=by
  have b1:=Int.emod_nonneg n (show (m:Int)≠0 by omega)
  rw[Int.tmod_eq_emod]
  by_cases h:(m:Int)∣n
  · left
    rw[if_pos (.inr h)]
    have:=Int.emod_eq_zero_of_dvd h
    exact ⟨this,by omega⟩
  · right
    have h2:¬(n%(m:Int)=0):=fun h'=>h (Int.dvd_of_emod_eq_zero h')
    rw[if_neg (by intro h';rcases h' with h'|h';omega;exact h h')]
    refine ⟨by omega,by simp⟩
def smallq (n:Int):Rat:=mkR ((pick n 9:Int)-4) (((pick (n.tdiv 9) 2:Nat):Int)+1)
theorem pick_neg {n:Int}{m:Nat}(hm:0<m)(h:n.tmod (m:Int)<0):n.tmod (m:Int)+m=((pick n m:Nat):Int):=by
  rw[pick_int n m hm]
  rcases Int.lt_or_le n 0 with hn|hn
  · rcases tmod_neg n m hm hn with ⟨h1,h2⟩|⟨h1,h2⟩<;>omega
  · rw[Int.tmod_eq_emod_of_nonneg hn] at h
    have:=Int.emod_nonneg n (show (m:Int)≠0 by omega)
    omega
theorem pick_nneg {n:Int}{m:Nat}(hm:0<m)(h:¬n.tmod (m:Int)<0):n.tmod (m:Int)=((pick n m:Nat):Int):=by
  rw[pick_int n m hm]
  rcases Int.lt_or_le n 0 with hn|hn
  · rcases tmod_neg n m hm hn with ⟨h1,h2⟩|⟨h1,h2⟩
    · omega
    · have:=Int.emod_lt_of_pos n (show (0:Int)<m by omega)
      omega
  · rw[Int.tmod_eq_emod_of_nonneg hn]
theorem tmod_bd (n:Int){m:Nat}(hm:0<m) : -(m:Int)<n.tmod (m:Int)∧n.tmod (m:Int)<m:=by
  have h1:=Int.tmod_lt_of_pos n (show (0:Int)<m by omega)
  have h2:=Int.lt_tmod_of_pos n (show (0:Int)<m by omega)
  exact ⟨h2,h1⟩
theorem hPick (n:Int)(m:Nat)(hm:0<m)(hm2:m<1000000)(w:World)(h:Hp)(g:G w h) :
    Calls Tryz.prog 8 #[.int .i64 n,.int .i64 (m:Nat)] w (Ret w h fun v _=>v=.int .i64 (pick n m:Nat)):=by
 have hs:=SS.start g
 obtain ⟨b1,b2⟩:=tmod_bd n hm
 refine go Tryz.func8 [(0,.int .i64 n),(1,.int .i64 (m:Nat))] rfl ?_
 refine cSL (lL hs [.v 4 (.int .i64 0)] (lNS (lL hs [.m 5 0,.m 6 1] (lV 7 (.int .i64 (n.tmod (m:Nat))) ?_ (hr:=opRem (t:=3) (u:=3) (x:=.tmp 5) (y:=.tmp 6) (k:=.i64) (a:=n) (b:=(m:Nat)) kR kR kR oM _)))))
 refine lL hs [.m 0 7] (lN (CG.seq (cSL (lL hs [.m 8 0] ?_))))
 cases hb1:(decide ((n.tmod (m:Nat):Int)<(0:Int)))
 ·
  have phb1:=oF hb1
  refine lB 9 hb1 ?_
  exact lN (cIF (CG.skipN (cSL (lL hs [.m 13 0,.m 4 13] (lN (CG.ret (hs.ret [] (.int .i64 (n.tmod (m:Nat))) (congrArg (Value.int .i64) (pick_nneg hm aM)))))))))
 have phb1:=oT hb1
 refine lB 9 hb1 ?_
 refine lN (cIT (CG.listed (lL hs [.m 10 0,.m 11 1] (lI 12 ((n.tmod (m:Nat))+(m:Nat)) ?_))))
 exact lL hs [.m 0 12] (lNS (lL hs [.m 13 0,.m 4 13] (lN (CG.ret (hs.ret [] (.int .i64 ((n.tmod (m:Nat))+(m:Nat))) (congrArg (Value.int .i64) (pick_neg hm aM)))))))
abbrev RT:=Bool × Value × Value
def rqc (t:RT):List Value:=[.bool t.1,t.2.1,t.2.2]
def rqd:RT:=(false,undef,undef)
def rtv (t:RT):Value:=.agg #[.bool t.1,t.2.1,t.2.2]
structure RTs (h:Hp) (ts:List RT) (qs:List Rat):Prop where
  len:ts.length=qs.length
  at_:∀ i,i<qs.length→RQ h (rtv (ts.getD i rqd)) (qs.getD i 0)
theorem RTs.gw {h h':Hp}{ts:List RT}{qs:List Rat}(r:RTs h ts qs)(u:Gw h h'):RTs h' ts qs:=⟨r.len,fun i hi=>(r.at_ i hi).gw u⟩
theorem RTs.nil {h:Hp}:RTs h [] []:=⟨rfl,fun i hi=>by simp at hi⟩
theorem getD_snoc {α:Type}(l:List α)(x d:α)(i:Nat):(l++[x]).getD i d=if i<l.length then l.getD i d else if i=l.length then x else d:=by
  split
  · rename_i h;simp[List.getElem?_append_left h]
  · rename_i h
    split
    · rename_i h2;subst h2;simp
    · rename_i h2;simp[List.getElem?_eq_none (show (l++[x]).length≤i by simp;omega)]
theorem RTs.snoc {h:Hp}{ts:List RT}{qs:List Rat}(r:RTs h ts qs){t:RT}{q:Rat}(hq:RQ h (rtv t) q):RTs h (ts++[t]) (qs++[q]):=by
  refine ⟨by simp[r.len],fun i hi=>?_⟩
  rw[getD_snoc,getD_snoc,r.len]
  split
  · rename_i h1;exact r.at_ i h1
  · rename_i h1
    have:i=qs.length:=by simp at hi;omega
    rw[if_pos this,if_pos this];exact hq
theorem take_snoc' {α:Type}{l:List α}{k:Nat}(d:α)(h:k<l.length):l.take (k+1)=l.take k++[l.getD k d]:=by
  rw[List.take_add_one];simp[h]
def vc (v:Value):List Value:=[v]
def I64s (zs:List Int):Prop:=∀ k,-9223372036854775808≤zs.getD k 0∧zs.getD k 0≤9223372036854775807
structure RVs (h:Hp) (vs:List Value) (qss:List (List Rat)):Prop where
  len:vs.length=qss.length
  at_:∀ i,i<qss.length→∃ A cap,∃ ts:List RT,vs.getD i undef=.slice A ts.length cap∧ts.length≤cap∧SlO 3 rqc rqd h A ts∧RTs h ts (qss.getD i [])
theorem RVs.gw {h h':Hp}{vs:List Value}{qss:List (List Rat)}(r:RVs h vs qss)(u:Gw h h'):RVs h' vs qss:=⟨r.len,fun i hi=>by
  obtain ⟨A,cap,ts,h1,h2,h3,h4⟩:=r.at_ i hi
  exact ⟨A,cap,ts,h1,h2,h3.gw u,h4.gw u⟩⟩
structure QVs (h:Hp) (vs:List Value) (qss:List (List Rat)):Prop where
  len:vs.length=qss.length
  at_:∀ i,i<qss.length→SlV 5 qc 0 h (vs.getD i undef) (qss.getD i [])
theorem QVs.gw {h h':Hp}{vs:List Value}{qss:List (List Rat)}(r:QVs h vs qss)(u:Gw h h'):QVs h' vs qss:=⟨r.len,fun i hi=>(r.at_ i hi).gw u⟩
theorem QVs.nil {h:Hp}:QVs h [] []:=⟨rfl,fun i hi=>by simp at hi⟩
theorem QVs.snoc {h:Hp}{vs:List Value}{qss:List (List Rat)}(r:QVs h vs qss){v:Value}{l:List Rat}(hv:SlV 5 qc 0 h v l):QVs h (vs++[v]) (qss++[l]):=by
  refine ⟨by simp[r.len],fun i hi=>?_⟩
  rw[getD_snoc,getD_snoc,r.len]
  split
  · rename_i h1;exact r.at_ i h1
  · rename_i h1
    have:i=qss.length:=by simp at hi;omega
    rw[if_pos this,if_pos this];exact hv
theorem RVs.nil {h:Hp}:RVs h [] []:=⟨rfl,fun i hi=>by simp at hi⟩
theorem RVs.snoc {h:Hp}{vs:List Value}{qss:List (List Rat)}(r:RVs h vs qss){v:Value}{l:List Rat}(hv:∃ A cap,∃ ts:List RT,v=.slice A ts.length cap∧ts.length≤cap∧SlO 3 rqc rqd h A ts∧RTs h ts l):RVs h (vs++[v]) (qss++[l]):=by
  refine ⟨by simp[r.len],fun i hi=>?_⟩
  rw[getD_snoc,getD_snoc,r.len]
  split
  · rename_i h1;exact r.at_ i h1
  · rename_i h1
    have:i=qss.length:=by simp at hi;omega
    rw[if_pos this,if_pos this];exact hv
theorem rqOk {h:Hp}{A D:Option Addr}{c d:Nat}{q:Rat}(h1:(lim (iabs q.num)).length≤c)(h2:(lim q.den).length≤d)(h3:SlO 1 u32c 0 h A (lim (iabs q.num)))(h4:SlO 1 u32c 0 h D (lim q.den)):RQ h (rtv ((ineg q.num,.slice A (lim (iabs q.num)).length c,.slice D (lim q.den).length d):RT)) q:=⟨_,_,_,_,rfl,h1,h2,h3,h4⟩
theorem eq_more {α:Type}{d:α}{a b:List α}{k:Nat}(h:∀ i,i<k→a.getD i d=b.getD i d)(h2:a.getD k d=b.getD k d):∀ i,i<k+1→a.getD i d=b.getD i d:=fun i hi=>by
  by_cases e:i=k
  · rw[e];exact h2
  · exact h i oM
theorem row_t {α:Type}[DecidableEq α]{d:α}{a b:List α}(hl:a.length=b.length)(h:∀ i,i<a.length→a.getD i d=b.getD i d):Value.bool true=.bool (decide (a=b)):=by
  rw[decide_eq_true]
  refine List.ext_getElem hl (fun i h1 h2=>?_)
  have:=h i h1
  simpa [h1,h2] using this
theorem row_f {α:Type}[DecidableEq α]{a b:List α}(hl:a.length≠b.length):Value.bool false=.bool (decide (a=b)):=by
  rw[decide_eq_false];intro e;exact hl (by rw[e])
theorem row_fq {α:Type}[DecidableEq α]{d:α}{a b:List α}(k:Nat)(h:a.getD k d≠b.getD k d):Value.bool false=.bool (decide (a=b)):=by
  rw[decide_eq_false];intro e;exact h (by rw[e])
theorem hSameRow (A:Option Addr)(ca:Nat)(qs ps:List Rat)(D:Option Addr)(cd:Nat)(ts:List RT)(hl:qs.length≤1000000)(hlp:ps.length≤1000000)(hf:∀ i,i<qs.length→LQ 100000000 (qs.getD i 0))(hfp:∀ i,i<ps.length→LQ 100000000 (ps.getD i 0))(w:World)(h:Hp)(g:G w h)(hA:SlO 5 qc 0 h A qs)(hD:SlO 3 rqc rqd h D ts)(hT:RTs h ts ps) :
    Calls Tryz.prog 35 #[.slice A qs.length ca,.slice D ts.length cd] w (Ret w h fun v _=>v=.bool (decide (qs=ps))):=by
 have hs:=SS.start g
 replace hs:=(((hs.a_SlO hA).a_SlO hD).add (K:=fun h_=>RTs h_ ts ps) hT)
 have hlt:=(hs.f.1).len
 refine go Tryz.func35 [(0,.slice A qs.length ca),(1,.slice D ts.length cd)] rfl ?_
 refine cSL (lL hs [.v 4 (.bool false)] (lN (CG.seq (cSL (lL hs [.m 6 0,.v 7 (.int .i64 (qs.length:Nat)),.m 8 1,.v 9 (.int .i64 (ts.length:Nat))] ?_)))))
 cases hb1:(((qs.length:Nat):Int) != ((ts.length:Nat):Int))
 ·
  have phb1:=eqOfBne hb1
  refine lB 10 hb1 ?_
  refine lN (cIF (CG.skipN (CG.seq (cSL (lL hs [.v 5 (.int .i64 0)] (lN (CG.block (cTo [(0,.slice A qs.length ca),(1,.slice D ts.length cd),(5,.int .i64 0)] ?_))))))))
  refine CG.loop (fun μ_ Γ w_=>∃ (k:Nat) (h_:Hp),μ_=qs.length-k∧Γ=[(0,.slice A qs.length ca),(1,.slice D ts.length cd),(5,.int .i64 (k:Nat))]∧SS w h w_ h_ [] [] [fun h_=>RTs h_ ts ps,fun h_=>SlO 3 rqc rqd h_ D ts,fun h_=>SlO 5 qc 0 h_ A qs]∧(k≤qs.length)∧(qs.length=ps.length)∧(∀ i,i<k→qs.getD i 0=ps.getD i 0)) _ ⟨0,h,rfl,rfl,hs.to _ _,Nat.zero_le _,by omega,fun i hi=>absurd hi (Nat.not_lt_zero i)⟩ ?_
  rintro _ _ w2 ⟨k,h3,hm4,rfl,hs,hk,hlqp,hsm⟩
  refine CG.seq (cSL (lL hs [.m 11 5,.m 12 0,.v 13 (.int .i64 (qs.length:Nat))] ?_))
  cases hb5:(decide (((k:Nat):Int)<((qs.length:Nat):Int)))
  ·
   have phb5:=oF hb5
   refine lB 14 hb5 ?_
   refine lN (cIF (CG.exit ?_))
   show CG _ _ _ _ _ _ _ _
   exact cSL (lL hs [.v 4 (.bool true)] (lN (CG.ret (hs.ret [] (.bool true) (row_t hlqp (fun i hi=>hsm i oM))))))
  have phb5:=oT hb5
  refine lB 14 hb5 ?_
  refine lN (cIT (CG.skipN (CG.seq (CG.block (CG.seq (cR 10 [] mixed hs al_nil ?_))))))
  refine eV 0 17 (.slice A qs.length ca) ?_
  refine eV 1 18 (.int .i64 (k:Nat)) ?_
  refine eX 2 19 A qs.length ca 5 (k:Nat) k ((hs.f.2.2.1).ok oM) ?_
  refine eH 3 20 (qv (qs.getD k 0)) hs ((hs.f.2.2.1).el k oM) ?_
  refine eV 4 21 (.slice D ts.length cd) ?_
  refine eV 5 22 (.int .i64 (k:Nat)) ?_
  refine eX 6 23 D ts.length cd 3 (k:Nat) k ((hs.f.2.1).ok oM) ?_
  obtain ⟨Ax,cx,Dx,dx,ex,hcx,hdx,hAx,hDx⟩:=(hs.f.1).at_ k oM
  replace hs:=((hs.a_SlO hAx).a_SlO hDx)
  refine eHe 7 24 (.agg #[.bool ((ts.getD k rqd).1),(ts.getD k rqd).2.1,(ts.getD k rqd).2.2]) hs ((hs.f.2.2.2.1).el k oM) ex ?_
  refine eC 8 25 hs (fun _ _ hs=>hSame (qs.getD k 0) (ps.getD k 0) (hf k oM) (hfp k oM) Ax cx Dx dx hcx hdx _ _ hs.g (hs.f.2.1) (hs.f.1)) ?_
  rintro _ _ _ w6 h7 hs rfl
  cases hb8:(sameQ (qs.getD k 0) (ps.getD k 0))
  ·
   refine eV 9 26 (.bool true) ?_
   refine eD0 hs (fun w9 h10 hs=>?_)
   exact tN (cIT (cSL (lL hs [.v 4 (.bool false)] (lN (CG.ret (hs.ret [] (.bool false) (row_fq k (oF ‹sameQ _ _=false›))))))))
  refine eV 9 26 (.bool false) ?_
  refine eD0 hs (fun w11 h12 hs=>?_)
  refine tN (cIF (CG.skipN (CG.listed (lL hs [.m 15 5] (lIn 16 ((k:Nat)+1) (k+1) ?_)))))
  refine lL hs [.m 5 16] (lD ?_)
  intro a_ ka
  have q13:(k+1)≤qs.length:=by omega
  have q14:qs.length=ps.length:=hlqp
  have q15:∀ i,i<(k+1)→qs.getD i 0=ps.getD i 0:=(eq_more hsm (oT ‹sameQ _ _=true›))
  replace hs:=hs.tl.tl
  refine ⟨_,_,?_,⟨k+1,h12,rfl,rfl,hs.to _ _,q13,q14,q15⟩,ka.to [(0,.slice A qs.length ca),(1,.slice D ts.length cd),(5,.int .i64 ((k+1):Nat))] kR⟩
  omega
 have phb1:=neOfBne hb1
 refine lB 10 hb1 ?_
 exact lN (cIT (cSL (lL hs [.v 4 (.bool false)] (lN (CG.ret (hs.ret [] (.bool false) (row_f oM)))))))
def maxR (a b:Rat):Rat:=if a<b then b else a
theorem LQ.maxR {k:Nat}{a b:Rat}(ha:LQ k a)(hb:LQ k b):LQ k (maxR a b):=by unfold Go.Proofs.YticblaklfnadoaaGreatDoor.maxR;split;exact hb;exact ha
theorem fAbs (a:Rat)(ha:LQ 100000000 a)(w:World)(h:Hp)(g:G w h) :
    Calls Tryz.prog 160 #[qv a] w (Ret w h fun v _=>v=qv (qabs a)):=by
 have hs:=SS.start g
 refine go Tryz.func160 [(0,qv a)] rfl ?_
 refine cSL (lA 1 73 (qc a) hs (fun b1 w2 h3 hs=>?_))
 refine lA 2 73 ([.bool false,.int .u64 0,.string ⟨#[]⟩,.int .u64 0,.string ⟨#[]⟩]) hs (fun b4 w5 h6 hs=>?_)
 refine lN (CG.seq (cR 7 [] mixed hs al_nil ?_))
 refine eV 0 3 (.pointer (some ⟨b1,0,none⟩)) ?_
 refine eO 1 4 [(1,0,3)] (iv a.num) hs ?_
 refine eV 4 7 (.pointer (some ⟨b1,3,none⟩)) ?_
 refine eO 5 8 [(1,3,2)] (nv (qd a)) hs ?_
 refine eC 2 5 hs (fun _ _ hs=>wAbs a.num _ _ hs.g) ?_
 rintro _ _ _ w7 h8 hs rfl
 refine eC 3 6 hs (fun _ _ hs=>wFromN (iabs a.num) _ _ hs.g) ?_
 rintro _ _ _ w9 h10 hs rfl
 refine eV 6 9 (.agg #[.bool (ineg (((iabs a.num):Nat):Int)),.int .u64 (lo (iabs (((iabs a.num):Nat):Int))),.string (hi (iabs (((iabs a.num):Nat):Int))),.int .u64 (lo (qd a)),.string (hi (qd a))]) ?_
 refine eD0 hs (fun w11 h12 hs=>?_)
 refine tP 7 0 0 ([.bool (ineg (((iabs a.num):Nat):Int)),.int .u64 (lo (iabs (((iabs a.num):Nat):Int))),.string (hi (iabs (((iabs a.num):Nat):Int))),.int .u64 (lo (qd a)),.string (hi (qd a))]) hs (fun w13 hs=>?_)
 exact tN (CG.ret (hs.ret [(0,0,5)] (.agg #[.bool (ineg (((iabs a.num):Nat):Int)),.int .u64 (lo (iabs (((iabs a.num):Nat):Int))),.string (hi (iabs (((iabs a.num):Nat):Int))),.int .u64 (lo (qd a)),.string (hi (qd a))]) (qv_lit (qabs_num a) (by unfold qd;rw[qabs_den]))))
theorem fDot (A:Option Addr)(ca:Nat)(a:List Rat)(D:Option Addr)(cd:Nat)(b:List Rat)(K L:Nat)(hl:a.length=b.length)(hn:a.length≤1000000)(hb:a.length*(K+L+1)+K+L+2≤100000000)(ha:∀ i,i<a.length→LQ K (a.getD i 0))(hbb:∀ i,i<a.length→LQ L (b.getD i 0))(w:World)(h:Hp)(g:G w h)(hA:SlO 5 qc 0 h A a)(hD:SlO 5 qc 0 h D b)(tb:Tab h) :
    Calls Tryz.prog 127 #[.slice A a.length ca,.slice D b.length cd] w (Ret w h fun v _=>v=.tuple #[qv (dotq a b a.length),.bool true]):=by
 have hs:=SS.start g
 replace hs:=(((hs.a_SlO hA).a_SlO hD).add (K:=fun h_=>Tab h_) tb)
 refine go Tryz.func127 [(0,.slice A a.length ca),(1,.slice D b.length cd)] rfl ?_
 refine cSL (lA 4 73 ([.bool false,.int .u64 0,.string ⟨#[]⟩,.int .u64 0,.string ⟨#[]⟩]) hs (fun b1 w2 h3 hs=>?_))
 refine lL hs [.v 5 (.bool false)] (lN (CG.seq (cSL (lL hs [.m 9 0,.v 10 (.int .i64 (a.length:Nat)),.m 11 1,.v 12 (.int .i64 (b.length:Nat))] ?_))))
 have hb4:(((a.length:Nat):Int) != ((b.length:Nat):Int))=false:=bneF oM
 have phb4:=eqOfBne hb4
 refine lB 13 hb4 ?_
 refine lN (cIF (CG.skipN (cSL (lA 6 73 ([.bool false,.int .u64 0,.string ⟨#[]⟩,.int .u64 0,.string ⟨#[]⟩]) hs (fun b5 w6 h7 hs=>?_)))))
 refine lN (CG.seq (cSL (lL hs [.m 15 0,.v 16 (.int .i64 (a.length:Nat)),.v 17 (.int .i64 0)] (lN (CG.block (cTo [(1,.slice D b.length cd),(4,.pointer (some ⟨b1,0,none⟩)),(5,.bool false),(6,.pointer (some ⟨b5,0,none⟩)),(15,.slice A a.length ca),(16,.int .i64 (a.length:Nat)),(17,.int .i64 0)] ?_))))))
 refine CG.loop (fun μ_ Γ w_=>∃ (k:Nat) (h_:Hp),μ_=a.length-k∧Γ=[(1,.slice D b.length cd),(4,.pointer (some ⟨b1,0,none⟩)),(5,.bool false),(6,.pointer (some ⟨b5,0,none⟩)),(15,.slice A a.length ca),(16,.int .i64 (a.length:Nat)),(17,.int .i64 (k:Nat))]∧SS w h w_ h_ [⟨b5,73,qc (dotq a b k)⟩,⟨b1,73,[.bool false,.int .u64 0,.string ⟨#[]⟩,.int .u64 0,.string ⟨#[]⟩]⟩] [] [fun h_=>Tab h_,fun h_=>SlO 5 qc 0 h_ D b,fun h_=>SlO 5 qc 0 h_ A a]∧(k≤a.length)) _ ⟨0,h7,rfl,rfl,hs.to _ _,Nat.zero_le _⟩ ?_
 rintro _ _ w8 ⟨k,h9,hm10,rfl,hs,hk⟩
 have hmk:k*(K+L+1)≤a.length*(K+L+1):=Nat.mul_le_mul_right _ hk
 have hdk:LQ (100000000-K-L-1) (dotq a b k):=(LQ.dot ha hbb k hk).mono oM
 refine cSL ?_
 cases hb11:(decide (((k:Nat):Int)<((a.length:Nat):Int)))
 ·
  have phb11:=oF hb11
  refine lB 18 hb11 ?_
  refine lN (CG.seq (cIF (CG.exit ?_)))
  show CG _ _ _ _ _ _ _ _
  refine cSL (lL hs [.o 31 (qv (dotq a b k)) 0 0 5] (lP 1 0 (qc (dotq a b k)) hs (fun w12 hs=>?_)))
  exact lL hs [.v 5 (.bool true)] (lN (CG.ret (hs.ret [(1,0,5)] (.tuple #[qv (dotq a b k),.bool true]) (by rw[show a.length=k by omega]))))
 have phb11:=oT hb11
 refine lB 18 hb11 ?_
 refine lN (CG.seq (cIT (CG.skipN (CG.seq (CG.block (cSL (lL hs [.m 19 17] (lX 20 A a.length ca 5 (k:Nat) k ((hs.f.2.2.1).ok oM) ?_))))))))
 refine lH 21 (qv (a.getD k 0)) hs ((hs.f.2.2.1).el k oM) ?_
 refine lA 8 73 ([.bool false,.int .u64 0,.string ⟨#[]⟩,.int .u64 0,.string ⟨#[]⟩]) hs (fun b13 w14 h15 hs=>?_)
 refine lL hs [.m 7 19] (lP 0 0 (qc (a.getD k 0)) hs (fun w16 hs=>?_))
 refine lN (cR 8 [] mixed hs al_nil ?_)
 refine eO 0 22 [(1,0,5)] (qv (dotq a b k)) hs ?_
 refine eO 1 23 [(0,0,5)] (qv (a.getD k 0)) hs ?_
 refine eV 2 24 (.slice D b.length cd) ?_
 refine eV 3 25 (.int .i64 (k:Nat)) ?_
 refine eX 4 26 D b.length cd 5 (k:Nat) k ((hs.f.2.1).ok oM) ?_
 refine eH 5 27 (qv (b.getD k 0)) hs ((hs.f.2.1).el k oM) ?_
 have hq17:=LQ.mul (ha k oM) (hbb k oM)
 refine eC 6 28 hs (fun _ _ hs=>fMul (a.getD k 0) (b.getD k 0) (LQ.mono (ha k oM) oM) (LQ.mono (hbb k oM) oM) _ _ hs.g (hs.f.1)) ?_
 rintro _ _ _ w18 h19 hs rfl
 have hq20:=LQ.add hdk hq17
 refine eC 7 29 hs (fun _ _ hs=>fAdd (dotq a b k) ((a.getD k 0)*(b.getD k 0)) (LQ.mono hdk oM) (LQ.mono hq17 oM) _ _ hs.g (hs.f.1)) ?_
 rintro _ _ _ w21 h22 hs rfl
 refine eD0 hs (fun w23 h24 hs=>?_)
 refine tP 8 1 0 (qc ((dotq a b k)+((a.getD k 0)*(b.getD k 0)))) hs (fun w25 hs=>?_)
 refine tN (CG.listed (lIn 30 ((k:Nat)+1) (k+1) ?_))
 refine lL hs [.m 17 30] (lD ?_)
 intro a_ ka
 have q26:(k+1)≤a.length:=by omega
 replace hs:=hs.drop 1 0
 refine ⟨_,_,?_,⟨k+1,h24,rfl,rfl,hs.to _ _,q26⟩,ka.to [(1,.slice D b.length cd),(4,.pointer (some ⟨b1,0,none⟩)),(5,.bool false),(6,.pointer (some ⟨b5,0,none⟩)),(15,.slice A a.length ca),(16,.int .i64 (a.length:Nat)),(17,.int .i64 ((k+1):Nat))] kR⟩
 omega
theorem dNext (rbk s:Nat)(hs_:s<18446744073709551616)(w:World)(h:Hp)(g:G w h)(ho:Own w rbk 118 [.int .u64 (s:Nat)])(hj:h[rbk]?=some junk) :
    Calls Tryz.prog 107 #[.pointer (some ⟨rbk,0,none⟩)] w (RetM rbk w h fun v w' _=>v=.int .u64 (dmix (dnx s):Nat)∧Own w' rbk 118 [.int .u64 (dnx s:Nat)]):=by
 have hmo:UpM [rbk] w h w h:=UpM.refl g
 obtain ⟨wz,hz0_,hs⟩:=SS.at_ g ho hj
 refine go Tryz.func107 [(0,.pointer (some ⟨rbk,0,none⟩))] rfl ?_
 refine cSL (lL hs [.v 2 (.int .u64 0)] (lN (CG.seq (cSL (lL hs [.m 4 0,.v 5 (.bool false)] (lN (cIF (CG.skipN (cSL (lL hs [.m 6 0,.v 7 (.pointer (some ⟨rbk,0,none⟩)),.v 8 (.pointer (some ⟨rbk,0,none⟩)),.o 9 (.int .u64 (s:Nat)) 0 0 1] (lV 10 (.int .u64 ((s+11400714819323198485)%18446744073709551616:Nat)) ?_ (hr:=rint (n:=IntKind.wrap .u64 (((s:Nat):Int)+(11400714819323198485:Int))) kR (wAU64 s 11400714819323198485)))))))))))))
 refine lL hs [.v 11 (.pointer (some ⟨rbk,0,none⟩)),.v 12 (.pointer (some ⟨rbk,0,none⟩))] (lPu 0 0 ([.int .u64 ((s+11400714819323198485)%18446744073709551616:Nat)]) hs (fun w1 pu hs=>?_))
 replace hmo:=hmo.put pu (List.mem_singleton.2 rfl) hs.g
 refine lNS (lL hs [.m 13 0,.v 14 (.pointer (some ⟨rbk,0,none⟩)),.v 15 (.pointer (some ⟨rbk,0,none⟩)),.o 16 (.int .u64 ((s+11400714819323198485)%18446744073709551616:Nat)) 0 0 1,.m 3 16] (lNS (lL hs [.m 17 3,.m 18 3] (lV 19 (.int .u64 (((s+11400714819323198485)%18446744073709551616)/1073741824:Nat)) ?_ (hr:=rint (n:=Int.fdiv (((s+11400714819323198485)%18446744073709551616:Nat):Int) 1073741824) kR (fdivNat _ 1073741824))))))
 refine lV 20 (.int .u64 (((s+11400714819323198485)%18446744073709551616) ^^^ (((s+11400714819323198485)%18446744073709551616)/1073741824:Nat):Nat)) ?_ (hr:=opXorN (t:=23) (u:=23) (x:=.tmp 17) (y:=.tmp 19) (a:=((s+11400714819323198485)%18446744073709551616)) (b:=(((s+11400714819323198485)%18446744073709551616)/1073741824:Nat)) kR kR kR (by first|exact Nat.mod_lt _ kD|exact Nat.lt_of_le_of_lt (Nat.div_le_self _ _) (Nat.mod_lt _ kD)) (by first|exact Nat.mod_lt _ kD|exact Nat.lt_of_le_of_lt (Nat.div_le_self _ _) (Nat.mod_lt _ kD)) _)
 refine lV 21 (.int .u64 (((((s+11400714819323198485)%18446744073709551616) ^^^ (((s+11400714819323198485)%18446744073709551616)/1073741824:Nat):Nat)*13787848793156543929)%18446744073709551616:Nat)) ?_ (hr:=rint (n:=IntKind.wrap .u64 (((((s+11400714819323198485)%18446744073709551616) ^^^ (((s+11400714819323198485)%18446744073709551616)/1073741824:Nat):Nat):Int)*(13787848793156543929:Int))) kR (wMU64 (((s+11400714819323198485)%18446744073709551616) ^^^ (((s+11400714819323198485)%18446744073709551616)/1073741824:Nat):Nat) 13787848793156543929))
 refine lL hs [.m 3 21] (lNS (lL hs [.m 22 3,.m 23 3] (lV 24 (.int .u64 ((((((s+11400714819323198485)%18446744073709551616) ^^^ (((s+11400714819323198485)%18446744073709551616)/1073741824:Nat):Nat)*13787848793156543929)%18446744073709551616:Nat)/134217728:Nat)) ?_ (hr:=rint (n:=Int.fdiv ((((((s+11400714819323198485)%18446744073709551616) ^^^ (((s+11400714819323198485)%18446744073709551616)/1073741824:Nat):Nat)*13787848793156543929)%18446744073709551616:Nat):Int) 134217728) kR (fdivNat _ 134217728)))))
 refine lV 25 (.int .u64 ((((((s+11400714819323198485)%18446744073709551616) ^^^ (((s+11400714819323198485)%18446744073709551616)/1073741824:Nat):Nat)*13787848793156543929)%18446744073709551616:Nat) ^^^ ((((((s+11400714819323198485)%18446744073709551616) ^^^ (((s+11400714819323198485)%18446744073709551616)/1073741824:Nat):Nat)*13787848793156543929)%18446744073709551616:Nat)/134217728:Nat):Nat)) ?_ (hr:=opXorN (t:=23) (u:=23) (x:=.tmp 22) (y:=.tmp 24) (a:=(((((s+11400714819323198485)%18446744073709551616) ^^^ (((s+11400714819323198485)%18446744073709551616)/1073741824:Nat):Nat)*13787848793156543929)%18446744073709551616:Nat)) (b:=((((((s+11400714819323198485)%18446744073709551616) ^^^ (((s+11400714819323198485)%18446744073709551616)/1073741824:Nat):Nat)*13787848793156543929)%18446744073709551616:Nat)/134217728:Nat)) kR kR kR (by first|exact Nat.mod_lt _ kD|exact Nat.lt_of_le_of_lt (Nat.div_le_self _ _) (Nat.mod_lt _ kD)) (by first|exact Nat.mod_lt _ kD|exact Nat.lt_of_le_of_lt (Nat.div_le_self _ _) (Nat.mod_lt _ kD)) _)
 refine lV 26 (.int .u64 ((((((((s+11400714819323198485)%18446744073709551616) ^^^ (((s+11400714819323198485)%18446744073709551616)/1073741824:Nat):Nat)*13787848793156543929)%18446744073709551616:Nat) ^^^ ((((((s+11400714819323198485)%18446744073709551616) ^^^ (((s+11400714819323198485)%18446744073709551616)/1073741824:Nat):Nat)*13787848793156543929)%18446744073709551616:Nat)/134217728:Nat):Nat)*10723151780598845931)%18446744073709551616:Nat)) ?_ (hr:=rint (n:=IntKind.wrap .u64 ((((((((s+11400714819323198485)%18446744073709551616) ^^^ (((s+11400714819323198485)%18446744073709551616)/1073741824:Nat):Nat)*13787848793156543929)%18446744073709551616:Nat) ^^^ ((((((s+11400714819323198485)%18446744073709551616) ^^^ (((s+11400714819323198485)%18446744073709551616)/1073741824:Nat):Nat)*13787848793156543929)%18446744073709551616:Nat)/134217728:Nat):Nat):Int)*(10723151780598845931:Int))) kR (wMU64 ((((((s+11400714819323198485)%18446744073709551616) ^^^ (((s+11400714819323198485)%18446744073709551616)/1073741824:Nat):Nat)*13787848793156543929)%18446744073709551616:Nat) ^^^ ((((((s+11400714819323198485)%18446744073709551616) ^^^ (((s+11400714819323198485)%18446744073709551616)/1073741824:Nat):Nat)*13787848793156543929)%18446744073709551616:Nat)/134217728:Nat):Nat) 10723151780598845931))
 refine lL hs [.m 3 26] (lNS (lL hs [.m 27 3,.m 28 3] (lV 29 (.int .u64 (((((((((s+11400714819323198485)%18446744073709551616) ^^^ (((s+11400714819323198485)%18446744073709551616)/1073741824:Nat):Nat)*13787848793156543929)%18446744073709551616:Nat) ^^^ ((((((s+11400714819323198485)%18446744073709551616) ^^^ (((s+11400714819323198485)%18446744073709551616)/1073741824:Nat):Nat)*13787848793156543929)%18446744073709551616:Nat)/134217728:Nat):Nat)*10723151780598845931)%18446744073709551616:Nat)/2147483648:Nat)) ?_ (hr:=rint (n:=Int.fdiv (((((((((s+11400714819323198485)%18446744073709551616) ^^^ (((s+11400714819323198485)%18446744073709551616)/1073741824:Nat):Nat)*13787848793156543929)%18446744073709551616:Nat) ^^^ ((((((s+11400714819323198485)%18446744073709551616) ^^^ (((s+11400714819323198485)%18446744073709551616)/1073741824:Nat):Nat)*13787848793156543929)%18446744073709551616:Nat)/134217728:Nat):Nat)*10723151780598845931)%18446744073709551616:Nat):Int) 2147483648) kR (fdivNat _ 2147483648)))))
 refine lV 30 (.int .u64 (((((((((s+11400714819323198485)%18446744073709551616) ^^^ (((s+11400714819323198485)%18446744073709551616)/1073741824:Nat):Nat)*13787848793156543929)%18446744073709551616:Nat) ^^^ ((((((s+11400714819323198485)%18446744073709551616) ^^^ (((s+11400714819323198485)%18446744073709551616)/1073741824:Nat):Nat)*13787848793156543929)%18446744073709551616:Nat)/134217728:Nat):Nat)*10723151780598845931)%18446744073709551616:Nat) ^^^ (((((((((s+11400714819323198485)%18446744073709551616) ^^^ (((s+11400714819323198485)%18446744073709551616)/1073741824:Nat):Nat)*13787848793156543929)%18446744073709551616:Nat) ^^^ ((((((s+11400714819323198485)%18446744073709551616) ^^^ (((s+11400714819323198485)%18446744073709551616)/1073741824:Nat):Nat)*13787848793156543929)%18446744073709551616:Nat)/134217728:Nat):Nat)*10723151780598845931)%18446744073709551616:Nat)/2147483648:Nat):Nat)) ?_ (hr:=opXorN (t:=23) (u:=23) (x:=.tmp 27) (y:=.tmp 29) (a:=((((((((s+11400714819323198485)%18446744073709551616) ^^^ (((s+11400714819323198485)%18446744073709551616)/1073741824:Nat):Nat)*13787848793156543929)%18446744073709551616:Nat) ^^^ ((((((s+11400714819323198485)%18446744073709551616) ^^^ (((s+11400714819323198485)%18446744073709551616)/1073741824:Nat):Nat)*13787848793156543929)%18446744073709551616:Nat)/134217728:Nat):Nat)*10723151780598845931)%18446744073709551616:Nat)) (b:=(((((((((s+11400714819323198485)%18446744073709551616) ^^^ (((s+11400714819323198485)%18446744073709551616)/1073741824:Nat):Nat)*13787848793156543929)%18446744073709551616:Nat) ^^^ ((((((s+11400714819323198485)%18446744073709551616) ^^^ (((s+11400714819323198485)%18446744073709551616)/1073741824:Nat):Nat)*13787848793156543929)%18446744073709551616:Nat)/134217728:Nat):Nat)*10723151780598845931)%18446744073709551616:Nat)/2147483648:Nat)) kR kR kR (by first|exact Nat.mod_lt _ kD|exact Nat.lt_of_le_of_lt (Nat.div_le_self _ _) (Nat.mod_lt _ kD)) (by first|exact Nat.mod_lt _ kD|exact Nat.lt_of_le_of_lt (Nat.div_le_self _ _) (Nat.mod_lt _ kD)) _)
 exact lL hs [.m 2 30] (lN (CG.ret (hs.retM hmo [] (.int .u64 (((((((((s+11400714819323198485)%18446744073709551616) ^^^ (((s+11400714819323198485)%18446744073709551616)/1073741824:Nat):Nat)*13787848793156543929)%18446744073709551616:Nat) ^^^ ((((((s+11400714819323198485)%18446744073709551616) ^^^ (((s+11400714819323198485)%18446744073709551616)/1073741824:Nat):Nat)*13787848793156543929)%18446744073709551616:Nat)/134217728:Nat):Nat)*10723151780598845931)%18446744073709551616:Nat) ^^^ (((((((((s+11400714819323198485)%18446744073709551616) ^^^ (((s+11400714819323198485)%18446744073709551616)/1073741824:Nat):Nat)*13787848793156543929)%18446744073709551616:Nat) ^^^ ((((((s+11400714819323198485)%18446744073709551616) ^^^ (((s+11400714819323198485)%18446744073709551616)/1073741824:Nat):Nat)*13787848793156543929)%18446744073709551616:Nat)/134217728:Nat):Nat)*10723151780598845931)%18446744073709551616:Nat)/2147483648:Nat):Nat)) ⟨congrArg (fun n:Nat=>Value.int .u64 (n:Int)) (dmix_eq (dnx s)).symm,hs.own 0⟩)))
theorem rDNext (rbk s:Nat)(hs_:s<18446744073709551616)(w:World)(h:Hp)(g:G w h)(ho:Own w rbk 41 [.int .u64 (s:Nat)])(hj:h[rbk]?=some junk) :
    Calls Tryz.prog 110 #[.pointer (some ⟨rbk,0,none⟩)] w (RetM rbk w h fun v w' _=>v=.int .u64 (dmix (dnx s):Nat)∧Own w' rbk 41 [.int .u64 (dnx s:Nat)]):=by
 have hmo:UpM [rbk] w h w h:=UpM.refl g
 obtain ⟨wz,hz0_,hs⟩:=SS.at_ g ho hj
 refine go Tryz.func110 [(0,.pointer (some ⟨rbk,0,none⟩))] rfl ?_
 refine cSL (lL hs [.v 2 (.int .u64 0)] (lNS (lL hs [.m 4 0,.m 5 0,.v 6 (.pointer (some ⟨rbk,0,none⟩)),.v 7 (.pointer (some ⟨rbk,0,none⟩)),.o 8 (.int .u64 (s:Nat)) 0 0 1] (lV 9 (.int .u64 ((s+11400714819323198485)%18446744073709551616:Nat)) ?_ (hr:=rint (n:=IntKind.wrap .u64 (((s:Nat):Int)+(11400714819323198485:Int))) kR (wAU64 s 11400714819323198485))))))
 refine lL hs [.v 10 (.pointer (some ⟨rbk,0,none⟩)),.v 11 (.pointer (some ⟨rbk,0,none⟩))] (lPu 0 0 ([.int .u64 ((s+11400714819323198485)%18446744073709551616:Nat)]) hs (fun w1 pu hs=>?_))
 replace hmo:=hmo.put pu (List.mem_singleton.2 rfl) hs.g
 refine lNS (lL hs [.m 12 0,.v 13 (.pointer (some ⟨rbk,0,none⟩)),.v 14 (.pointer (some ⟨rbk,0,none⟩)),.o 15 (.int .u64 ((s+11400714819323198485)%18446744073709551616:Nat)) 0 0 1,.m 3 15] (lNS (lL hs [.m 16 3,.m 17 3] (lV 18 (.int .u64 (((s+11400714819323198485)%18446744073709551616)/1073741824:Nat)) ?_ (hr:=rint (n:=Int.fdiv (((s+11400714819323198485)%18446744073709551616:Nat):Int) 1073741824) kR (fdivNat _ 1073741824))))))
 refine lV 19 (.int .u64 (((s+11400714819323198485)%18446744073709551616) ^^^ (((s+11400714819323198485)%18446744073709551616)/1073741824:Nat):Nat)) ?_ (hr:=opXorN (t:=23) (u:=23) (x:=.tmp 16) (y:=.tmp 18) (a:=((s+11400714819323198485)%18446744073709551616)) (b:=(((s+11400714819323198485)%18446744073709551616)/1073741824:Nat)) kR kR kR (by first|exact Nat.mod_lt _ kD|exact Nat.lt_of_le_of_lt (Nat.div_le_self _ _) (Nat.mod_lt _ kD)) (by first|exact Nat.mod_lt _ kD|exact Nat.lt_of_le_of_lt (Nat.div_le_self _ _) (Nat.mod_lt _ kD)) _)
 refine lV 20 (.int .u64 (((((s+11400714819323198485)%18446744073709551616) ^^^ (((s+11400714819323198485)%18446744073709551616)/1073741824:Nat):Nat)*13787848793156543929)%18446744073709551616:Nat)) ?_ (hr:=rint (n:=IntKind.wrap .u64 (((((s+11400714819323198485)%18446744073709551616) ^^^ (((s+11400714819323198485)%18446744073709551616)/1073741824:Nat):Nat):Int)*(13787848793156543929:Int))) kR (wMU64 (((s+11400714819323198485)%18446744073709551616) ^^^ (((s+11400714819323198485)%18446744073709551616)/1073741824:Nat):Nat) 13787848793156543929))
 refine lL hs [.m 3 20] (lNS (lL hs [.m 21 3,.m 22 3] (lV 23 (.int .u64 ((((((s+11400714819323198485)%18446744073709551616) ^^^ (((s+11400714819323198485)%18446744073709551616)/1073741824:Nat):Nat)*13787848793156543929)%18446744073709551616:Nat)/134217728:Nat)) ?_ (hr:=rint (n:=Int.fdiv ((((((s+11400714819323198485)%18446744073709551616) ^^^ (((s+11400714819323198485)%18446744073709551616)/1073741824:Nat):Nat)*13787848793156543929)%18446744073709551616:Nat):Int) 134217728) kR (fdivNat _ 134217728)))))
 refine lV 24 (.int .u64 ((((((s+11400714819323198485)%18446744073709551616) ^^^ (((s+11400714819323198485)%18446744073709551616)/1073741824:Nat):Nat)*13787848793156543929)%18446744073709551616:Nat) ^^^ ((((((s+11400714819323198485)%18446744073709551616) ^^^ (((s+11400714819323198485)%18446744073709551616)/1073741824:Nat):Nat)*13787848793156543929)%18446744073709551616:Nat)/134217728:Nat):Nat)) ?_ (hr:=opXorN (t:=23) (u:=23) (x:=.tmp 21) (y:=.tmp 23) (a:=(((((s+11400714819323198485)%18446744073709551616) ^^^ (((s+11400714819323198485)%18446744073709551616)/1073741824:Nat):Nat)*13787848793156543929)%18446744073709551616:Nat)) (b:=((((((s+11400714819323198485)%18446744073709551616) ^^^ (((s+11400714819323198485)%18446744073709551616)/1073741824:Nat):Nat)*13787848793156543929)%18446744073709551616:Nat)/134217728:Nat)) kR kR kR (by first|exact Nat.mod_lt _ kD|exact Nat.lt_of_le_of_lt (Nat.div_le_self _ _) (Nat.mod_lt _ kD)) (by first|exact Nat.mod_lt _ kD|exact Nat.lt_of_le_of_lt (Nat.div_le_self _ _) (Nat.mod_lt _ kD)) _)
 refine lV 25 (.int .u64 ((((((((s+11400714819323198485)%18446744073709551616) ^^^ (((s+11400714819323198485)%18446744073709551616)/1073741824:Nat):Nat)*13787848793156543929)%18446744073709551616:Nat) ^^^ ((((((s+11400714819323198485)%18446744073709551616) ^^^ (((s+11400714819323198485)%18446744073709551616)/1073741824:Nat):Nat)*13787848793156543929)%18446744073709551616:Nat)/134217728:Nat):Nat)*10723151780598845931)%18446744073709551616:Nat)) ?_ (hr:=rint (n:=IntKind.wrap .u64 ((((((((s+11400714819323198485)%18446744073709551616) ^^^ (((s+11400714819323198485)%18446744073709551616)/1073741824:Nat):Nat)*13787848793156543929)%18446744073709551616:Nat) ^^^ ((((((s+11400714819323198485)%18446744073709551616) ^^^ (((s+11400714819323198485)%18446744073709551616)/1073741824:Nat):Nat)*13787848793156543929)%18446744073709551616:Nat)/134217728:Nat):Nat):Int)*(10723151780598845931:Int))) kR (wMU64 ((((((s+11400714819323198485)%18446744073709551616) ^^^ (((s+11400714819323198485)%18446744073709551616)/1073741824:Nat):Nat)*13787848793156543929)%18446744073709551616:Nat) ^^^ ((((((s+11400714819323198485)%18446744073709551616) ^^^ (((s+11400714819323198485)%18446744073709551616)/1073741824:Nat):Nat)*13787848793156543929)%18446744073709551616:Nat)/134217728:Nat):Nat) 10723151780598845931))
 refine lL hs [.m 3 25] (lNS (lL hs [.m 26 3,.m 27 3] (lV 28 (.int .u64 (((((((((s+11400714819323198485)%18446744073709551616) ^^^ (((s+11400714819323198485)%18446744073709551616)/1073741824:Nat):Nat)*13787848793156543929)%18446744073709551616:Nat) ^^^ ((((((s+11400714819323198485)%18446744073709551616) ^^^ (((s+11400714819323198485)%18446744073709551616)/1073741824:Nat):Nat)*13787848793156543929)%18446744073709551616:Nat)/134217728:Nat):Nat)*10723151780598845931)%18446744073709551616:Nat)/2147483648:Nat)) ?_ (hr:=rint (n:=Int.fdiv (((((((((s+11400714819323198485)%18446744073709551616) ^^^ (((s+11400714819323198485)%18446744073709551616)/1073741824:Nat):Nat)*13787848793156543929)%18446744073709551616:Nat) ^^^ ((((((s+11400714819323198485)%18446744073709551616) ^^^ (((s+11400714819323198485)%18446744073709551616)/1073741824:Nat):Nat)*13787848793156543929)%18446744073709551616:Nat)/134217728:Nat):Nat)*10723151780598845931)%18446744073709551616:Nat):Int) 2147483648) kR (fdivNat _ 2147483648)))))
 refine lV 29 (.int .u64 (((((((((s+11400714819323198485)%18446744073709551616) ^^^ (((s+11400714819323198485)%18446744073709551616)/1073741824:Nat):Nat)*13787848793156543929)%18446744073709551616:Nat) ^^^ ((((((s+11400714819323198485)%18446744073709551616) ^^^ (((s+11400714819323198485)%18446744073709551616)/1073741824:Nat):Nat)*13787848793156543929)%18446744073709551616:Nat)/134217728:Nat):Nat)*10723151780598845931)%18446744073709551616:Nat) ^^^ (((((((((s+11400714819323198485)%18446744073709551616) ^^^ (((s+11400714819323198485)%18446744073709551616)/1073741824:Nat):Nat)*13787848793156543929)%18446744073709551616:Nat) ^^^ ((((((s+11400714819323198485)%18446744073709551616) ^^^ (((s+11400714819323198485)%18446744073709551616)/1073741824:Nat):Nat)*13787848793156543929)%18446744073709551616:Nat)/134217728:Nat):Nat)*10723151780598845931)%18446744073709551616:Nat)/2147483648:Nat):Nat)) ?_ (hr:=opXorN (t:=23) (u:=23) (x:=.tmp 26) (y:=.tmp 28) (a:=((((((((s+11400714819323198485)%18446744073709551616) ^^^ (((s+11400714819323198485)%18446744073709551616)/1073741824:Nat):Nat)*13787848793156543929)%18446744073709551616:Nat) ^^^ ((((((s+11400714819323198485)%18446744073709551616) ^^^ (((s+11400714819323198485)%18446744073709551616)/1073741824:Nat):Nat)*13787848793156543929)%18446744073709551616:Nat)/134217728:Nat):Nat)*10723151780598845931)%18446744073709551616:Nat)) (b:=(((((((((s+11400714819323198485)%18446744073709551616) ^^^ (((s+11400714819323198485)%18446744073709551616)/1073741824:Nat):Nat)*13787848793156543929)%18446744073709551616:Nat) ^^^ ((((((s+11400714819323198485)%18446744073709551616) ^^^ (((s+11400714819323198485)%18446744073709551616)/1073741824:Nat):Nat)*13787848793156543929)%18446744073709551616:Nat)/134217728:Nat):Nat)*10723151780598845931)%18446744073709551616:Nat)/2147483648:Nat)) kR kR kR (by first|exact Nat.mod_lt _ kD|exact Nat.lt_of_le_of_lt (Nat.div_le_self _ _) (Nat.mod_lt _ kD)) (by first|exact Nat.mod_lt _ kD|exact Nat.lt_of_le_of_lt (Nat.div_le_self _ _) (Nat.mod_lt _ kD)) _)
 exact lL hs [.m 2 29] (lN (CG.ret (hs.retM hmo [] (.int .u64 (((((((((s+11400714819323198485)%18446744073709551616) ^^^ (((s+11400714819323198485)%18446744073709551616)/1073741824:Nat):Nat)*13787848793156543929)%18446744073709551616:Nat) ^^^ ((((((s+11400714819323198485)%18446744073709551616) ^^^ (((s+11400714819323198485)%18446744073709551616)/1073741824:Nat):Nat)*13787848793156543929)%18446744073709551616:Nat)/134217728:Nat):Nat)*10723151780598845931)%18446744073709551616:Nat) ^^^ (((((((((s+11400714819323198485)%18446744073709551616) ^^^ (((s+11400714819323198485)%18446744073709551616)/1073741824:Nat):Nat)*13787848793156543929)%18446744073709551616:Nat) ^^^ ((((((s+11400714819323198485)%18446744073709551616) ^^^ (((s+11400714819323198485)%18446744073709551616)/1073741824:Nat):Nat)*13787848793156543929)%18446744073709551616:Nat)/134217728:Nat):Nat)*10723151780598845931)%18446744073709551616:Nat)/2147483648:Nat):Nat)) ⟨congrArg (fun n:Nat=>Value.int .u64 (n:Int)) (dmix_eq (dnx s)).symm,hs.own 0⟩)))
theorem dBelow (rbk s n:Nat)(hs_:s<18446744073709551616)(hn0:0<n)(hn:n<9223372036854775808)(w:World)(h:Hp)(g:G w h)(ho:Own w rbk 118 [.int .u64 (s:Nat)])(hj:h[rbk]?=some junk) :
    Calls Tryz.prog 49 #[.pointer (some ⟨rbk,0,none⟩),.int .i64 (n:Nat)] w (RetM rbk w h fun v w' _=>v=.int .i64 ((belowq n s).1:Nat)∧Own w' rbk 118 [.int .u64 ((belowq n s).2:Nat)]):=by
 have hmo:UpM [rbk] w h w h:=UpM.refl g
 obtain ⟨wz,hz0_,hs⟩:=SS.at_ g ho hj
 have hr1:=Nat.mod_lt 18446744073709551615 hn0
 have hr2:=Nat.mod_lt (18446744073709551615%n+1) hn0
 have hr3:=Nat.mod_lt 18446744073709551616 hn0
 refine go Tryz.func49 [(0,.pointer (some ⟨rbk,0,none⟩)),(1,.int .i64 (n:Nat))] rfl ?_
 refine cSL (lL hs [.v 4 (.int .i64 0)] (lN (CG.seq (cSL (lL hs [.m 8 1] ?_)))))
 have ⟨hb1,phb1⟩:=dF (p:=((n:Nat):Int)<(1:Int)) oM
 refine lB 9 hb1 ?_
 refine lN (cIF (CG.skipN (cSL (lL hs [.m 10 1] (lV 11 (.int .u64 (n:Nat)) ?_ (hr:=rint (n:=IntKind.wrap .u64 ((n:Nat):Int)) kR (fitU64 oM oM)))))))
 refine lL hs [.m 5 11] (lNS (lL hs [.m 12 5] (lV 13 (.int .u64 (18446744073709551615%n:Nat)) ?_ (hr:=rint (opRem (t:=23) (u:=23) (x:=.const (.int .u64 18446744073709551615)) (y:=.tmp 12) (k:=.u64) (a:=(18446744073709551615:Int)) (b:=((n:Nat):Int)) kR kR kR oM _) (tmodNat 18446744073709551615 n)))))
 refine lV 14 (.int .u64 ((18446744073709551615%n)+1:Nat)) ?_ (hr:=rint (n:=IntKind.wrap .u64 (((18446744073709551615%n:Nat):Int)+(1:Int))) kR (fAU64 (18446744073709551615%n) 1 oM))
 refine lL hs [.m 15 5] (lV 16 (.int .u64 (((18446744073709551615%n)+1)%n:Nat)) ?_ (hr:=rint (opRem (t:=23) (u:=23) (x:=.tmp 14) (y:=.tmp 15) (k:=.u64) (a:=(((18446744073709551615%n)+1:Nat):Int)) (b:=((n:Nat):Int)) kR kR kR oM _) (tmodNat ((18446744073709551615%n)+1) n)))
 refine lV 17 (.int .u64 (dlast n:Nat)) ?_ (hr:=rint (rint (n:=IntKind.wrap .u64 ((18446744073709551615:Int)-((((18446744073709551615%n)+1)%n:Nat):Int))) kR (fSU64 18446744073709551615 (((18446744073709551615%n)+1)%n:Nat) oM oM)) (by rw[dlast_p]))
 refine lL hs [.m 6 17] (lN (CG.block (cTo [(0,.pointer (some ⟨rbk,0,none⟩)),(5,.int .u64 (n:Nat)),(6,.int .u64 (dlast n:Nat))] ?_)))
 refine CG.loop (fun μ_ Γ w_=>∃ (k:Nat) (s2:Nat) (h_:Hp),μ_=k∧Γ=[(0,.pointer (some ⟨rbk,0,none⟩)),(5,.int .u64 (n:Nat)),(6,.int .u64 (dlast n:Nat))]∧SS wz hz0_ w_ h_ [⟨rbk,118,[.int .u64 (s2:Nat)]⟩] [] []∧(Hit k s2)∧(drawF n k s2=belowq n s)∧(s2<18446744073709551616)∧(UpM [rbk] w h w_ h_)) _ ⟨dk s,s,h,rfl,rfl,hs.to _ _,(hit_first hs_),rfl,hs_,hmo⟩ ?_
 rintro _ _ w2 ⟨k,s2,h3,hm4,rfl,hs,hH,hD,hs2,hmo⟩
 obtain ⟨m,rfl⟩:∃ m,k=m+1:=⟨k-1,by have:=hH.2;omega⟩
 have hml:=Nat.mod_lt (dmix (dnx s2)) hn0
 have hdl:=dmix_lt (dnx s2)
 refine CG.block (cSL (lL hs [.m 18 0] (lCm 19 (dNext rbk s2 hs2 _ _ hs.g (hs.own 0) (hs.jk 0)) ?_)))
 rintro _ w5 h6 u7 ⟨rfl,hO⟩
 replace hs:=(hs.stepM 0 u7 hO).to [⟨rbk,118,[.int .u64 (dnx s2:Nat)]⟩] []
 replace hmo:=hmo.trans u7
 refine lL hs [.m 7 19] (lNS (lL hs [.m 20 7,.m 21 6] ?_))
 cases hb8:(decide (((dmix (dnx s2):Nat):Int)≤((dlast n:Nat):Int)))
 ·
  have phb8:=oF hb8
  refine lB 22 hb8 ?_
  refine lN (cIF (CG.skip ?_))
  intro a_ ka
  have q9:Hit m (dnx s2):=(hit_next (n:=n) hH oM)
  have q10:drawF n m (dnx s2)=belowq n s:=(by rw[←draw_no (n:=n) (k:=m) (s:=s2) oM];exact hD)
  have q11:(dnx s2)<18446744073709551616:=(dnx_lt _)
  have q12:UpM [rbk] w h w5 h6:=hmo
  refine ⟨_,_,?_,⟨m,dnx s2,h6,rfl,rfl,hs.to _ _,q9,q10,q11,q12⟩,ka.to [(0,.pointer (some ⟨rbk,0,none⟩)),(5,.int .u64 (n:Nat)),(6,.int .u64 (dlast n:Nat))] kR⟩
  omega
 have phb8:=oT hb8
 refine lB 22 hb8 ?_
 refine lN (cIT (cSL (lL hs [.m 23 7,.m 24 5] (lV 25 (.int .u64 ((dmix (dnx s2))%n:Nat)) ?_ (hr:=rint (opRem (t:=23) (u:=23) (x:=.tmp 23) (y:=.tmp 24) (k:=.u64) (a:=((dmix (dnx s2):Nat):Int)) (b:=((n:Nat):Int)) kR kR kR oM _) (tmodNat (dmix (dnx s2)) n))))))
 refine lV 26 (.int .i64 ((dmix (dnx s2))%n:Nat)) ?_ (hr:=rint (n:=IntKind.wrap .i64 (((dmix (dnx s2))%n:Nat):Int)) kR (fitI64 oM oM))
 refine lL hs [.m 4 26] (lN (CG.ret ?_))
 have hb_:=hD.symm.trans (draw_yes oM)
 exact hs.retM hmo [] (.int .i64 ((dmix (dnx s2))%n:Nat)) ⟨by rw[hb_],by rw[hb_];exact hs.own 0⟩
theorem rDBelow (rbk s n:Nat)(hs_:s<18446744073709551616)(hn0:0<n)(hn:n<9223372036854775808)(w:World)(h:Hp)(g:G w h)(ho:Own w rbk 41 [.int .u64 (s:Nat)])(hj:h[rbk]?=some junk) :
    Calls Tryz.prog 51 #[.pointer (some ⟨rbk,0,none⟩),.int .i64 (n:Nat)] w (RetM rbk w h fun v w' _=>v=.int .i64 ((belowq n s).1:Nat)∧Own w' rbk 41 [.int .u64 ((belowq n s).2:Nat)]):=by
 have hmo:UpM [rbk] w h w h:=UpM.refl g
 obtain ⟨wz,hz0_,hs⟩:=SS.at_ g ho hj
 have hr1:=Nat.mod_lt 18446744073709551615 hn0
 have hr2:=Nat.mod_lt (18446744073709551615%n+1) hn0
 have hr3:=Nat.mod_lt 18446744073709551616 hn0
 refine go Tryz.func51 [(0,.pointer (some ⟨rbk,0,none⟩)),(1,.int .i64 (n:Nat))] rfl ?_
 refine cSL (lL hs [.v 4 (.int .i64 0)] (lN (CG.seq (cSL (lL hs [.m 8 1] ?_)))))
 have ⟨hb1,phb1⟩:=dF (p:=((n:Nat):Int)<(1:Int)) oM
 refine lB 9 hb1 ?_
 refine lN (cIF (CG.skipN (cSL (lL hs [.m 10 1] (lV 11 (.int .u64 (n:Nat)) ?_ (hr:=rint (n:=IntKind.wrap .u64 ((n:Nat):Int)) kR (fitU64 oM oM)))))))
 refine lL hs [.m 5 11] (lNS (lL hs [.m 12 5] (lV 13 (.int .u64 (18446744073709551616-n:Nat)) ?_ (hr:=rint (n:=IntKind.wrap .u64 (0-((n:Nat):Int))) kR (by rw[IntKind.wrap_u64];omega)))))
 refine lL hs [.m 14 5] (lV 15 (.int .u64 (18446744073709551616%n:Nat)) ?_ (hr:=rint (rint (opRem (t:=23) (u:=23) (x:=.tmp 13) (y:=.tmp 14) (k:=.u64) (a:=((18446744073709551616-n:Nat):Int)) (b:=((n:Nat):Int)) kR kR kR oM _) (tmodNat (18446744073709551616-n) n)) (by rw[←Nat.mod_eq_sub_mod oM])))
 refine lL hs [.m 6 15] (lN (CG.block (cTo [(0,.pointer (some ⟨rbk,0,none⟩)),(5,.int .u64 (n:Nat)),(6,.int .u64 (18446744073709551616%n:Nat))] ?_)))
 refine CG.loop (fun μ_ Γ w_=>∃ (k:Nat) (s2:Nat) (h_:Hp),μ_=k∧Γ=[(0,.pointer (some ⟨rbk,0,none⟩)),(5,.int .u64 (n:Nat)),(6,.int .u64 (18446744073709551616%n:Nat))]∧SS wz hz0_ w_ h_ [⟨rbk,41,[.int .u64 (s2:Nat)]⟩] [] []∧(Hit k s2)∧(drawF n k s2=belowq n s)∧(s2<18446744073709551616)∧(UpM [rbk] w h w_ h_)) _ ⟨dk s,s,h,rfl,rfl,hs.to _ _,(hit_first hs_),rfl,hs_,hmo⟩ ?_
 rintro _ _ w2 ⟨k,s2,h3,hm4,rfl,hs,hH,hD,hs2,hmo⟩
 obtain ⟨m,rfl⟩:∃ m,k=m+1:=⟨k-1,by have:=hH.2;omega⟩
 have hml:=Nat.mod_lt (dmix (dnx s2)) hn0
 have hdl:=dmix_lt (dnx s2)
 refine CG.block (cSL (lL hs [.m 16 0] (lCm 17 (rDNext rbk s2 hs2 _ _ hs.g (hs.own 0) (hs.jk 0)) ?_)))
 rintro _ w5 h6 u7 ⟨rfl,hO⟩
 replace hs:=(hs.stepM 0 u7 hO).to [⟨rbk,41,[.int .u64 (dnx s2:Nat)]⟩] []
 replace hmo:=hmo.trans u7
 refine lL hs [.m 7 17] (lNS (lL hs [.m 18 7,.m 19 6] (lV 20 (.int .u64 (dlast n:Nat)) ?_ (hr:=rint (rint (n:=IntKind.wrap .u64 ((18446744073709551615:Int)-((18446744073709551616%n:Nat):Int))) kR (fSU64 18446744073709551615 (18446744073709551616%n) oM oM)) (by rfl)))))
 cases hb8:(decide (((dmix (dnx s2):Nat):Int)≤((dlast n:Nat):Int)))
 ·
  have phb8:=oF hb8
  refine lB 21 hb8 ?_
  refine lN (cIF (CG.skip ?_))
  intro a_ ka
  have q9:Hit m (dnx s2):=(hit_next (n:=n) hH oM)
  have q10:drawF n m (dnx s2)=belowq n s:=(by rw[←draw_no (n:=n) (k:=m) (s:=s2) oM];exact hD)
  have q11:(dnx s2)<18446744073709551616:=(dnx_lt _)
  have q12:UpM [rbk] w h w5 h6:=hmo
  refine ⟨_,_,?_,⟨m,dnx s2,h6,rfl,rfl,hs.to _ _,q9,q10,q11,q12⟩,ka.to [(0,.pointer (some ⟨rbk,0,none⟩)),(5,.int .u64 (n:Nat)),(6,.int .u64 (18446744073709551616%n:Nat))] kR⟩
  omega
 have phb8:=oT hb8
 refine lB 21 hb8 ?_
 refine lN (cIT (cSL (lL hs [.m 22 7,.m 23 5] (lV 24 (.int .u64 ((dmix (dnx s2))%n:Nat)) ?_ (hr:=rint (opRem (t:=23) (u:=23) (x:=.tmp 22) (y:=.tmp 23) (k:=.u64) (a:=((dmix (dnx s2):Nat):Int)) (b:=((n:Nat):Int)) kR kR kR oM _) (tmodNat (dmix (dnx s2)) n))))))
 refine lV 25 (.int .i64 ((dmix (dnx s2))%n:Nat)) ?_ (hr:=rint (n:=IntKind.wrap .i64 (((dmix (dnx s2))%n:Nat):Int)) kR (fitI64 oM oM))
 refine lL hs [.m 4 25] (lN (CG.ret ?_))
 have hb_:=hD.symm.trans (draw_yes oM)
 exact hs.retM hmo [] (.int .i64 ((dmix (dnx s2))%n:Nat)) ⟨by rw[hb_],by rw[hb_];exact hs.own 0⟩
structure Lay where
  k:Int
  W:List (List Rat)
  B:List Rat
def lay0:Lay:=⟨0,[],[]⟩
abbrev LV:=Int × Value × Value
def lvc (t:LV):List Value:=[.int .i64 t.1,t.2.1,t.2.2]
def lvd:LV:=(0,undef,undef)
structure NetL (h:Hp) (ts:List LV) (ls:List Lay):Prop where
  len:ts.length=ls.length
  at_:∀ i,i<ls.length→(ts.getD i lvd).1=(ls.getD i lay0).k∧(∃ A c,∃ us:List Value,(ts.getD i lvd).2.1=.slice A us.length c∧us.length≤c∧SlO 1 vc undef h A us∧QVs h us (ls.getD i lay0).W)∧SlV 5 qc 0 h (ts.getD i lvd).2.2 (ls.getD i lay0).B
theorem NetL.gw {h h':Hp}{ts:List LV}{ls:List Lay}(r:NetL h ts ls)(u:Gw h h'):NetL h' ts ls:=⟨r.len,fun i hi=>by
  obtain ⟨h1,⟨A,c,us,h2,h3,h4,h5⟩,h6⟩:=r.at_ i hi
  exact ⟨h1,⟨A,c,us,h2,h3,h4.gw u,h5.gw u⟩,h6.gw u⟩⟩
structure RNetL (h:Hp) (ts:List LV) (ls:List Lay):Prop where
  len:ts.length=ls.length
  at_:∀ i,i<ls.length→(ts.getD i lvd).1=(ls.getD i lay0).k∧(∃ A c,∃ us:List Value,(ts.getD i lvd).2.1=.slice A us.length c∧us.length≤c∧SlO 1 vc undef h A us∧RVs h us (ls.getD i lay0).W) ∧
    (∃ A c,∃ rs:List RT,(ts.getD i lvd).2.2=.slice A rs.length c∧rs.length≤c∧SlO 3 rqc rqd h A rs∧RTs h rs (ls.getD i lay0).B)
theorem RNetL.gw {h h':Hp}{ts:List LV}{ls:List Lay}(r:RNetL h ts ls)(u:Gw h h'):RNetL h' ts ls:=⟨r.len,fun i hi=>by
  obtain ⟨h1,⟨A,c,us,h2,h3,h4,h5⟩,⟨D,e,rs,g2,g3,g4,g5⟩⟩:=r.at_ i hi
  exact ⟨h1,⟨A,c,us,h2,h3,h4.gw u,h5.gw u⟩,⟨D,e,rs,g2,g3,g4.gw u,g5.gw u⟩⟩⟩
theorem NetL.nil {h:Hp}:NetL h [] []:=⟨rfl,fun i hi=>by simp at hi⟩
theorem RNetL.nil {h:Hp}:RNetL h [] []:=⟨rfl,fun i hi=>by simp at hi⟩
theorem NetL.snoc {h:Hp}{ts:List LV}{ls:List Lay}(r:NetL h ts ls){t:LV}{L:Lay}(hx:t.1=L.k∧(∃ A c,∃ us:List Value,t.2.1=.slice A us.length c∧us.length≤c∧SlO 1 vc undef h A us∧QVs h us L.W)∧SlV 5 qc 0 h t.2.2 L.B):NetL h (ts++[t]) (ls++[L]):=by
  refine ⟨by simp[r.len],fun i hi=>?_⟩
  rw[getD_snoc,getD_snoc,r.len]
  split
  · rename_i h1;exact r.at_ i h1
  · rename_i h1
    have:i=ls.length:=by simp at hi;omega
    rw[if_pos this,if_pos this];exact hx
theorem RNetL.snoc {h:Hp}{ts:List LV}{ls:List Lay}(r:RNetL h ts ls){t:LV}{L:Lay}(hx:t.1=L.k∧(∃ A c,∃ us:List Value,t.2.1=.slice A us.length c∧us.length≤c∧SlO 1 vc undef h A us∧RVs h us L.W) ∧
    (∃ A c,∃ rs:List RT,t.2.2=.slice A rs.length c∧rs.length≤c∧SlO 3 rqc rqd h A rs∧RTs h rs L.B)):RNetL h (ts++[t]) (ls++[L]):=by
  refine ⟨by simp[r.len],fun i hi=>?_⟩
  rw[getD_snoc,getD_snoc,r.len]
  split
  · rename_i h1;exact r.at_ i h1
  · rename_i h1
    have:i=ls.length:=by simp at hi;omega
    rw[if_pos this,if_pos this];exact hx
def natc (n:Nat):List Value:=[.int .i64 (n:Int)]
def Smalls (l:List Rat):Prop:=∀ q∈l,∃ z,q=smallq z
structure LayMk (L:Lay) (kq:Nat) (r c:Nat):Prop where
  k:L.k=(kq:Int)
  rows:L.W.length=r
  row:∀ q∈L.W,q.length=c∧Smalls q
  bl:L.B.length=r
  bs:Smalls L.B
structure LayFit (L:Lay):Prop where
  rl:L.W.length≤1000000
  rls:∀ i,i<L.W.length→(L.W.getD i []).length≤1000000
  rf:∀ i,i<L.W.length→∀ j,j<(L.W.getD i []).length→LQ 100000000 ((L.W.getD i []).getD j 0)
  bl:L.B.length≤1000000
  bf:∀ i,i<L.B.length→LQ 100000000 (L.B.getD i 0)
def RightP (W:List (List Rat)):Prop:=0<W.length∧0<(W.getD 0 []).length∧∀ i,i<W.length→(W.getD i []).length=(W.getD 0 []).length
noncomputable def rightq (W:List (List Rat)):Bool:=@decide (RightP W) (Classical.propDecidable _)
theorem right_step {W:List (List Rat)}{k:Nat}(hR:∀ i,i<k→(W.getD i []).length=(W.getD 0 []).length)(h:(W.getD k []).length=(W.getD 0 []).length):∀ i,i<k+1→(W.getD i []).length=(W.getD 0 []).length:=fun i hi=>by
  by_cases e:i=k
  · rw[e];exact h
  · exact hR i oM
theorem rq_t {W:List (List Rat)}(h:RightP W):Value.bool true=.bool (rightq W):=by unfold rightq;rw[@decide_eq_true _ (Classical.propDecidable _) h]
theorem rq_f {W:List (List Rat)}(h:¬RightP W):Value.bool false=.bool (rightq W):=by unfold rightq;rw[@decide_eq_false _ (Classical.propDecidable _) h]
theorem rq_is {W:List (List Rat)}(h:rightq W=true):RightP W:=by unfold rightq at h;exact @oT _ (Classical.propDecidable _) h
theorem rq_not {W:List (List Rat)}(h:rightq W=false):¬RightP W:=by unfold rightq at h;exact @oF _ (Classical.propDecidable _) h
theorem mRightG (A:Option Addr)(cap:Nat)(us:List Value)(W:List (List Rat))(hl:W.length≤1000000)(hls:∀ i,i<W.length→(W.getD i []).length≤1000000)(w:World)(h:Hp)(g:G w h)(hA:SlO 1 vc undef h A us)(hU:QVs h us W) :
    Calls Tryz.prog 126 #[.slice A us.length cap] w (Ret w h fun v _=>v=.bool (rightq W)):=by
 have hs:=SS.start g
 replace hs:=((hs.a_SlO hA).add (K:=fun h_=>QVs h_ us W) hU)
 have hlu:=(hs.f.1).len
 refine go Tryz.func126 [(0,.slice A us.length cap)] rfl ?_
 refine cSL (lL hs [.v 2 (.bool false)] (lN (CG.seq (cSL (lL hs [.m 5 0,.v 6 (.int .i64 (us.length:Nat))] ?_)))))
 cases hb1:(((us.length:Nat):Int) == (0:Int))
 ·
  have phb1:=neOfBeq hb1
  refine lB 7 hb1 ?_
  refine lL hs [.m 8 7,.m 9 0] (lX 10 A us.length cap 1 0 0 ((hs.f.2.1).ok oM) ?_)
  obtain ⟨Aqz,cqz,eqz,hcqz,hRqz⟩:=(hs.f.1).at_ 0 oM
  replace hs:=(hs.a_SlO hRqz)
  refine lHe 11 (us.getD 0 undef) hs ((hs.f.2.2.1).el 0 oM) eqz ?_
  refine lL hs [.v 12 (.int .i64 ((W.getD 0 []).length:Nat))] ?_
  cases hb2:((((W.getD 0 []).length:Nat):Int) == (0:Int))
  ·
   have phb2:=neOfBeq hb2
   refine lB 13 hb2 ?_
   refine lL hs [.v 14 (.bool false)] (lN (cIF (CG.skipN (CG.seq (cSL (lL hs [.m 15 0,.v 16 (.int .i64 (us.length:Nat)),.v 17 (.int .i64 0)] (lN (CG.block (cTo [(0,.slice A us.length cap),(15,.slice A us.length cap),(16,.int .i64 (us.length:Nat)),(17,.int .i64 0)] ?_)))))))))
   refine CG.loop (fun μ_ Γ w_=>∃ (k:Nat) (h_:Hp),μ_=us.length-k∧Γ=[(0,.slice A us.length cap),(15,.slice A us.length cap),(16,.int .i64 (us.length:Nat)),(17,.int .i64 (k:Nat))]∧SS w h w_ h_ [] [] [fun h_=>SlO 5 qc 0 h_ Aqz (W.getD 0 []),fun h_=>QVs h_ us W,fun h_=>SlO 1 vc undef h_ A us]∧(k≤us.length)∧(∀ i,i<k→(W.getD i []).length=(W.getD 0 []).length)) _ ⟨0,h,rfl,rfl,hs.to _ _,Nat.zero_le _,fun i hi=>absurd hi (Nat.not_lt_zero i)⟩ ?_
   rintro _ _ w3 ⟨k,h4,hm5,rfl,hs,hk,hR⟩
   refine cSL ?_
   cases hb6:(decide (((k:Nat):Int)<((us.length:Nat):Int)))
   ·
    have phb6:=oF hb6
    refine lB 18 hb6 ?_
    refine lN (CG.seq (cIF (CG.exit ?_)))
    show CG _ _ _ _ _ _ _ _
    exact cSL (lL hs [.v 2 (.bool true)] (lN (CG.ret (hs.ret [] (.bool true) (rq_t ⟨by omega,by omega,fun i hi=>hR i oM⟩)))))
   have phb6:=oT hb6
   refine lB 18 hb6 ?_
   refine lN (CG.seq (cIT (CG.skipN (CG.seq (CG.block (cSL (lX 19 A us.length cap 1 (k:Nat) k ((hs.f.2.2.1).ok oM) ?_)))))))
   obtain ⟨Aqx,cqx,eqx,hcqx,hRqx⟩:=(hs.f.2.1).at_ k oM
   replace hs:=(hs.a_SlO hRqx)
   refine lHe 20 (us.getD k undef) hs ((hs.f.2.2.2.1).el k oM) eqx ?_
   refine lL hs [.m 4 20] (lNS (lL hs [.m 21 4,.v 22 (.int .i64 ((W.getD k []).length:Nat)),.m 23 0] (lX 24 A us.length cap 1 0 0 ((hs.f.2.2.2.1).ok oM) ?_)))
   obtain ⟨Aqy,cqy,eqy,hcqy,hRqy⟩:=(hs.f.2.2.1).at_ 0 oM
   replace hs:=(hs.a_SlO hRqy)
   refine lHe 25 (us.getD 0 undef) hs ((hs.f.2.2.2.2.1).el 0 oM) eqy ?_
   refine lL hs [.v 26 (.int .i64 ((W.getD 0 []).length:Nat))] ?_
   cases hb7:((((W.getD k []).length:Nat):Int) != (((W.getD 0 []).length:Nat):Int))
   ·
    have phb7:=eqOfBne hb7
    refine lB 27 hb7 ?_
    refine lN (cIF (CG.skipN (CG.listed (lIn 28 ((k:Nat)+1) (k+1) ?_))))
    refine lL hs [.m 17 28] (lD ?_)
    intro a_ ka
    have q8:(k+1)≤us.length:=by omega
    have q9:∀ i,i<(k+1)→(W.getD i []).length=(W.getD 0 []).length:=right_step hR oM
    replace hs:=hs.tl.tl
    refine ⟨_,_,?_,⟨k+1,h4,rfl,rfl,hs.to _ _,q8,q9⟩,ka.to [(0,.slice A us.length cap),(15,.slice A us.length cap),(16,.int .i64 (us.length:Nat)),(17,.int .i64 ((k+1):Nat))] kR⟩
    omega
   have phb7:=neOfBne hb7
   refine lB 27 hb7 ?_
   exact lN (cIT (cSL (lL hs [.v 2 (.bool false)] (lN (CG.ret (hs.ret [] (.bool false) (rq_f (fun h_=>by have h1_:=h_.1;have h2_:=h_.2.1;have h3_:=h_.2.2 k oM;omega))))))))
  have phb2:=eq_of_beq hb2
  refine lB 13 hb2 ?_
  exact lL hs [.v 14 (.bool true)] (lN (cIT (cSL (lL hs [.v 2 (.bool false)] (lN (CG.ret (hs.ret [] (.bool false) (rq_f (fun h_=>by have h1_:=h_.1;have h2_:=h_.2.1;omega)))))))))
 have phb1:=eq_of_beq hb1
 refine lB 7 hb1 ?_
 refine lL hs [.m 8 7] (lG 9 ?_)
 refine lG 10 ?_
 refine lG 11 ?_
 refine lG 12 ?_
 refine lG 13 ?_
 exact lL hs [.v 14 (.bool true)] (lN (cIT (cSL (lL hs [.v 2 (.bool false)] (lN (CG.ret (hs.ret [] (.bool false) (rq_f (fun h_=>by have h1_:=h_.1;have h2_:=h_.2.1;omega)))))))))
theorem nKnownG (k:Int)(w:World)(h:Hp)(g:G w h) :
    Calls Tryz.prog 47 #[.int .i64 k] w (Ret w h fun v _=>v=.bool (decide (1≤k∧k≤3))):=by
 have hs:=SS.start g
 refine go Tryz.func47 [(0,.int .i64 k)] rfl ?_
 refine cSL (lL hs [.v 2 (.bool false)] (lNS (lL hs [.m 3 0] ?_)))
 cases hb1:((k:Int) == (1:Int))
 ·
  have phb1:=neOfBeq hb1
  refine lB 4 hb1 ?_
  refine lL hs [.m 5 4,.m 6 0] ?_
  cases hb2:((k:Int) == (2:Int))
  ·
   have phb2:=neOfBeq hb2
   refine lB 7 hb2 ?_
   refine lL hs [.v 8 (.bool false),.m 9 8,.m 10 0] ?_
   cases hb3:((k:Int) == (3:Int))
   ·
    have phb3:=neOfBeq hb3
    refine lB 11 hb3 ?_
    exact lL hs [.v 12 (.bool false),.m 2 12] (lN (CG.ret (hs.ret [] (.bool false) (congrArg Value.bool (decide_eq_false oM).symm))))
   have phb3:=eq_of_beq hb3
   refine lB 11 hb3 ?_
   exact lL hs [.v 12 (.bool true),.m 2 12] (lN (CG.ret (hs.ret [] (.bool true) (congrArg Value.bool (decide_eq_true oM).symm))))
  have phb2:=eq_of_beq hb2
  refine lB 7 hb2 ?_
  refine lL hs [.v 8 (.bool true),.m 9 8] (lG 10 ?_)
  refine lG 11 ?_
  exact lL hs [.v 12 (.bool true),.m 2 12] (lN (CG.ret (hs.ret [] (.bool true) (congrArg Value.bool (decide_eq_true oM).symm))))
 have phb1:=eq_of_beq hb1
 refine lB 4 hb1 ?_
 refine lL hs [.m 5 4] (lG 6 ?_)
 refine lG 7 ?_
 refine lL hs [.v 8 (.bool true),.m 9 8] (lG 10 ?_)
 refine lG 11 ?_
 exact lL hs [.v 12 (.bool true),.m 2 12] (lN (CG.ret (hs.ret [] (.bool true) (congrArg Value.bool (decide_eq_true oM).symm))))
def Fine (ls:List Lay)(k:Nat):Prop:=RightP (ls.getD k lay0).W∧(ls.getD k lay0).W.length≤12∧(ls.getD k lay0).B.length=(ls.getD k lay0).W.length∧(k=0→((ls.getD k lay0).W.getD 0 []).length≤20)∧(0<k→((ls.getD k lay0).W.getD 0 []).length=(ls.getD (k-1) lay0).W.length)
def Kd (ls:List Lay)(k:Nat):Prop:=1≤(ls.getD k lay0).k∧(ls.getD k lay0).k≤3
open Classical in
noncomputable def chkFrom (ls:List Lay) (k:Nat):Nat→Int
  | 0=>0
  | n+1=>if Fine ls k then (if Kd ls k then chkFrom ls (k+1) n else 10) else 5
noncomputable def chkq (ls:List Lay):Int:=if 1≤ls.length∧ls.length≤4 then chkFrom ls 0 ls.length else 5
theorem chk_len {ls:List Lay}(h:¬(1≤ls.length∧ls.length≤4)):Value.int .i64 5=.int .i64 (chkq ls):=by unfold chkq;rw[if_neg h]
theorem chk_start {ls:List Lay}(h:1≤ls.length∧ls.length≤4):chkq ls=chkFrom ls 0 (ls.length-0):=by unfold chkq;rw[if_pos h];rfl
theorem chk_sub {ls:List Lay}{k:Nat}(h:k<ls.length):ls.length-k=(ls.length-(k+1))+1:=by omega
theorem chk_end {ls:List Lay}{k:Nat}(h:chkq ls=chkFrom ls k (ls.length-k))(hk:ls.length≤k):Value.int .i64 0=.int .i64 (chkq ls):=by rw[h,Nat.sub_eq_zero_of_le hk];rfl
theorem chk_bad {ls:List Lay}{k:Nat}(h:chkq ls=chkFrom ls k (ls.length-k))(hk:k<ls.length)(hf:¬Fine ls k):Value.int .i64 5=.int .i64 (chkq ls):=by rw[h,chk_sub hk,chkFrom,if_neg hf]
theorem chk_kind {ls:List Lay}{k:Nat}(h:chkq ls=chkFrom ls k (ls.length-k))(hk:k<ls.length)(hf:Fine ls k)(hd:¬Kd ls k):Value.int .i64 10=.int .i64 (chkq ls):=by rw[h,chk_sub hk,chkFrom,if_pos hf,if_neg hd]
theorem chk_step {ls:List Lay}{k:Nat}(h:chkq ls=chkFrom ls k (ls.length-k))(hk:k<ls.length)(hf:Fine ls k)(hd:Kd ls k):chkq ls=chkFrom ls (k+1) (ls.length-(k+1)):=by rw[h,chk_sub hk,chkFrom,if_pos hf,if_pos hd]
structure LayLen (L:Lay):Prop where
  rl:L.W.length≤1000000
  rls:∀ i,i<L.W.length→(L.W.getD i []).length≤1000000
  bl:L.B.length≤1000000
theorem nCheckG (A:Option Addr)(cap:Nat)(ts:List LV)(ls:List Lay)(hn:ls.length≤1000000)(hF:∀ i,i<ls.length→LayLen (ls.getD i lay0))(w:World)(h:Hp)(g:G w h)(hA:SlO 3 lvc lvd h A ts)(hN:NetL h ts ls) :
    Calls Tryz.prog 78 #[.agg #[.slice A ts.length cap]] w (Ret w h fun v _=>v=.int .i64 (chkq ls)):=by
 have hs:=SS.start g
 replace hs:=((hs.a_SlO hA).add (K:=fun h_=>NetL h_ ts ls) hN)
 have hl:=(hs.f.1).len
 refine go Tryz.func78 [(0,.agg #[.slice A ts.length cap])] rfl ?_
 refine cSL (lA 1 28 ([.slice A ts.length cap]) hs (fun b1 w2 h3 hs=>?_))
 refine lL hs [.v 2 (.int .i64 0)] (lN (CG.seq (cSL (lL hs [.v 5 (.pointer (some ⟨b1,0,none⟩)),.o 6 (.slice A ts.length cap) 0 0 1,.v 7 (.int .i64 (ts.length:Nat))] ?_))))
 cases hb4:(decide (((ts.length:Nat):Int)<(1:Int)))
 ·
  have phb4:=oF hb4
  refine lB 8 hb4 ?_
  refine lL hs [.m 9 8,.v 10 (.pointer (some ⟨b1,0,none⟩)),.o 11 (.slice A ts.length cap) 0 0 1,.v 12 (.int .i64 (ts.length:Nat))] ?_
  cases hb5:(decide ((4:Int)<((ts.length:Nat):Int)))
  ·
   have phb5:=oF hb5
   refine lB 13 hb5 ?_
   refine lL hs [.v 14 (.bool false)] (lN (cIF (CG.skipN (CG.seq (cSL (lL hs [.v 15 (.pointer (some ⟨b1,0,none⟩)),.o 16 (.slice A ts.length cap) 0 0 1,.v 17 (.int .i64 (ts.length:Nat)),.v 18 (.int .i64 0)] (lN (CG.block (cTo [(1,.pointer (some ⟨b1,0,none⟩)),(16,.slice A ts.length cap),(17,.int .i64 (ts.length:Nat)),(18,.int .i64 0)] ?_)))))))))
   refine CG.loop (fun μ_ Γ w_=>∃ (k:Nat) (h_:Hp),μ_=ls.length-k∧Γ=[(1,.pointer (some ⟨b1,0,none⟩)),(16,.slice A ts.length cap),(17,.int .i64 (ts.length:Nat)),(18,.int .i64 (k:Nat))]∧SS w h w_ h_ [⟨b1,28,[.slice A ts.length cap]⟩] [] [fun h_=>NetL h_ ts ls,fun h_=>SlO 3 lvc lvd h_ A ts]∧(k≤ls.length)∧(chkq ls=chkFrom ls k (ls.length-k))) _ ⟨0,h3,rfl,rfl,hs.to _ _,Nat.zero_le _,chk_start oM⟩ ?_
   rintro _ _ w6 ⟨k,h7,hm8,rfl,hs,hk,hi⟩
   refine cSL ?_
   cases hb9:(decide (((k:Nat):Int)<((ts.length:Nat):Int)))
   ·
    have phb9:=oF hb9
    refine lB 19 hb9 ?_
    refine lN (CG.seq (cIF (CG.exit ?_)))
    show CG _ _ _ _ _ _ _ _
    exact cSL (lL hs [.v 2 (.int .i64 0)] (lN (CG.ret (hs.ret [] (.int .i64 0) (chk_end hi oM)))))
   have phb9:=oT hb9
   refine lB 19 hb9 ?_
   refine lN (CG.seq (cIT (CG.skipN (CG.seq (CG.block (cSL (lL hs [.m 20 18] (lX 21 A ts.length cap 3 (k:Nat) k ((hs.f.2.1).ok oM) ?_))))))))
   obtain ⟨ekx,⟨AWx,cWx,usx,eWx,hcWx,hAWx,hUx⟩,⟨ABx,cBx,eBx,hcBx,hABx⟩⟩:=(hs.f.1).at_ k oM
   have lux:=hUx.len
   replace hs:=(((hs.a_SlO hAWx).add (K:=fun h_=>QVs h_ usx (ls.getD k lay0).W) hUx).a_SlO hABx)
   refine lHe 22 (.agg #[.int .i64 ((ts.getD k lvd).1),(ts.getD k lvd).2.1,(ts.getD k lvd).2.2]) hs ((hs.f.2.2.2.2.1).el k oM) (by rw[ekx,eWx,eBx]) ?_
   refine lA 4 77 ([.int .i64 0,.slice none 0 0,.slice none 0 0]) hs (fun b10 w11 h12 hs=>?_)
   refine lL hs [.m 3 20] (lP 0 0 ([.int .i64 ((ls.getD k lay0).k),.slice AWx usx.length cWx,.slice ABx ((ls.getD k lay0).B.length) cBx]) hs (fun w13 hs=>?_))
   refine lN (CG.seq (cSL (lL hs [.v 23 (.pointer (some ⟨b10,1,none⟩)),.o 24 (.slice AWx usx.length cWx) 0 1 1] (lC 25 hs (mRightG AWx cWx usx (ls.getD k lay0).W (hF k oM).rl (hF k oM).rls _ _ hs.g (hs.f.2.2.1) (hs.f.2.1)) ?_))))
   rintro _ w14 h15 hs rfl
   cases hb16:(rightq (ls.getD k lay0).W)
   ·
    have phb16:=rq_not hb16
    refine lL hs [.v 26 (.bool true),.m 27 26] (lG 28 ?_)
    refine lG 29 ?_
    refine lG 30 ?_
    refine lG 31 ?_
    refine lL hs [.v 32 (.bool true),.m 33 32] (lG 34 ?_)
    refine lG 35 ?_
    refine lG 36 ?_
    refine lG 37 ?_
    refine lG 38 ?_
    refine lG 39 ?_
    refine lG 40 ?_
    exact lL hs [.v 41 (.bool true)] (lN (cIT (cSL (lL hs [.v 2 (.int .i64 5)] (lN (CG.ret (hs.ret [] (.int .i64 5) (chk_bad hi oM (fun ⟨f1,f2,f3,f4,f5⟩=>by first|exact absurd f1 aM|omega|(have:=f4 oM;omega)|(have:=f5 oM;omega)|(have:=hwd oM;have:=f5 oM;omega))))))))))
   have phb16:=rq_is hb16
   refine lL hs [.v 26 (.bool false),.m 27 26] ?_
   obtain ⟨hr1,hr2,hr3⟩:=‹RightP (ls.getD k lay0).W›
   refine lL hs [.v 28 (.pointer (some ⟨b10,1,none⟩)),.o 29 (.slice AWx usx.length cWx) 0 1 1,.v 30 (.int .i64 (usx.length:Nat))] ?_
   cases hb17:(decide ((12:Int)<((usx.length:Nat):Int)))
   ·
    have phb17:=oF hb17
    refine lB 31 hb17 ?_
    refine lL hs [.v 32 (.bool false),.m 33 32,.v 34 (.pointer (some ⟨b10,2,none⟩)),.o 35 (.slice ABx ((ls.getD k lay0).B.length) cBx) 0 2 1,.v 36 (.int .i64 ((ls.getD k lay0).B.length:Nat)),.v 37 (.pointer (some ⟨b10,1,none⟩)),.o 38 (.slice AWx usx.length cWx) 0 1 1,.v 39 (.int .i64 (usx.length:Nat))] ?_
    cases hb18:((((ls.getD k lay0).B.length:Nat):Int) != ((usx.length:Nat):Int))
    ·
     have phb18:=eqOfBne hb18
     refine lB 40 hb18 ?_
     refine lL hs [.v 41 (.bool false)] (lN (cIF (CG.skipN (CG.seq (CG.seq (cR 30 [] mixed hs al_nil ?_))))))
     refine eV 0 42 (.int .i64 (k:Nat)) ?_
     cases hb19:(((k:Nat):Int) == (0:Int))
     ·
      have phb19:=neOfBeq hb19
      refine eB 1 43 hb19 ?_
      refine eV 2 44 (.bool false) ?_
      refine eG 3 45 ?_
      refine eG 4 46 ?_
      refine eG 5 47 ?_
      refine eG 6 48 ?_
      refine eG 7 49 ?_
      refine eG 8 50 ?_
      refine eV 9 51 (.bool false) ?_
      refine eV 10 52 (.bool false) ?_
      refine eV 11 53 (.int .i64 (k:Nat)) ?_
      cases hb20:(decide ((0:Int)<((k:Nat):Int)))
      ·
       have phb20:=oF hb20
       refine eB 12 54 hb20 ?_
       refine eV 13 55 (.bool false) ?_
       refine eG 14 56 ?_
       refine eG 15 57 ?_
       refine eG 16 58 ?_
       refine eG 17 59 ?_
       refine eG 18 60 ?_
       refine eG 19 61 ?_
       refine eG 20 62 ?_
       refine eG 21 63 ?_
       refine eG 22 64 ?_
       refine eG 23 65 ?_
       refine eG 24 66 ?_
       refine eG 25 67 ?_
       refine eG 26 68 ?_
       refine eG 27 69 ?_
       refine eV 28 70 (.bool false) ?_
       refine eV 29 71 (.bool false) ?_
       refine eD0 hs (fun w21 h22 hs=>?_)
       refine tN (cTo [(1,.pointer (some ⟨b1,0,none⟩)),(16,.slice A ts.length cap),(17,.int .i64 (ts.length:Nat)),(18,.int .i64 (k:Nat)),(4,.pointer (some ⟨b10,0,none⟩)),(71,.bool false)] ?_)
       refine cIF (CG.skipN (cSL (lL hs [.v 72 (.pointer (some ⟨b10,0,none⟩)),.o 73 (.int .i64 ((ls.getD k lay0).k)) 0 0 1] (lC 74 hs (nKnownG (ls.getD k lay0).k _ _ hs.g) ?_))))
       rintro _ w23 h24 hs rfl
       cases hb25:(decide (1≤(ls.getD k lay0).k∧(ls.getD k lay0).k≤3))
       ·
        have phb25:=oF hb25
        exact lL hs [.v 75 (.bool true)] (lN (cIT (cSL (lL hs [.v 2 (.int .i64 10)] (lN (CG.ret (hs.ret [] (.int .i64 10) (chk_kind hi oM (⟨‹RightP _›,by omega,by omega,fun _=>by omega,fun h_=>by first|omega|(have:=hwd h_;omega)⟩) (by first|assumption|(intro h_;have h1_:=h_.1;have h2_:=h_.2;omega))))))))))
       have phb25:=oT hb25
       refine lL hs [.v 75 (.bool false)] (lN (cIF (CG.skipN (CG.listed (lIn 76 ((k:Nat)+1) (k+1) ?_)))))
       refine lL hs [.m 18 76] (lD ?_)
       intro a_ ka
       have q26:(k+1)≤ls.length:=by omega
       have q27:chkq ls=chkFrom ls (k+1) (ls.length-(k+1)):=chk_step hi oM ⟨‹RightP _›,by omega,by omega,fun _=>by omega,fun _=>by omega⟩ aM
       replace hs:=hs.tl.tl.tl
       replace hs:=hs.drop 1 0
       refine ⟨_,_,?_,⟨k+1,h24,rfl,rfl,hs.to _ _,q26,q27⟩,ka.to [(1,.pointer (some ⟨b1,0,none⟩)),(16,.slice A ts.length cap),(17,.int .i64 (ts.length:Nat)),(18,.int .i64 ((k+1):Nat))] kR⟩
       omega
      have phb20:=oT hb20
      refine eB 12 54 hb20 ?_
      refine eV 13 55 (.bool true) ?_
      refine eV 14 56 (.pointer (some ⟨b10,1,none⟩)) ?_
      refine eO 15 57 [(0,1,1)] (.slice AWx usx.length cWx) hs ?_
      refine eX 16 58 AWx usx.length cWx 1 0 0 ((hs.f.2.2.1).ok oM) ?_
      obtain ⟨Arq,crq,erq,hcrq,hRrq⟩:=(hs.f.2.1).at_ 0 oM
      replace hs:=(hs.a_SlO hRrq)
      refine eHe 17 59 (usx.getD 0 undef) hs ((hs.f.2.2.2.1).el 0 oM) erq ?_
      refine eV 18 60 (.int .i64 ((((ls.getD k lay0).W).getD 0 []).length:Nat)) ?_
      refine eV 19 61 (.pointer (some ⟨b1,0,none⟩)) ?_
      refine eO 20 62 [(1,0,1)] (.slice A ts.length cap) hs ?_
      refine eV 21 63 (.int .i64 (k:Nat)) ?_
      refine eIn 22 64 ((k:Nat)-1) (k-1) ?_
      refine eX 23 65 A ts.length cap 3 (k-1:Nat) (k-1) ((hs.f.2.2.2.2.2.1).ok oM) ?_
      refine eV 24 66 (.pointer (some ⟨(aB A),aO A+(k-1)*3+1,none⟩)) ?_
      obtain ⟨eky,⟨AWy,cWy,usy,eWy,hcWy,hAWy,hUy⟩,⟨ABy,cBy,eBy,hcBy,hABy⟩⟩:=(hs.f.2.2.2.2.1).at_ (k-1) oM
      have luy:=hUy.len
      replace hs:=(((hs.a_SlO hAWy).add (K:=fun h_=>QVs h_ usy (ls.getD (k-1) lay0).W) hUy).a_SlO hABy)
      refine eHe 25 67 ((ts.getD (k-1) lvd).2.1) hs (((hs.f.2.2.2.2.2.2.2.2.1).el (k-1) oM).part 1 1) eWy ?_
      refine eV 26 68 (.int .i64 (usy.length:Nat)) ?_
      cases hb28:((((((ls.getD k lay0).W).getD 0 []).length:Nat):Int) != ((usy.length:Nat):Int))
      ·
       have phb28:=eqOfBne hb28
       refine eB 27 69 hb28 ?_
       refine eV 28 70 (.bool false) ?_
       refine eV 29 71 (.bool false) ?_
       refine eD0 hs (fun w29 h30 hs=>?_)
       refine tN (cTo [(1,.pointer (some ⟨b1,0,none⟩)),(16,.slice A ts.length cap),(17,.int .i64 (ts.length:Nat)),(18,.int .i64 (k:Nat)),(4,.pointer (some ⟨b10,0,none⟩)),(71,.bool false)] ?_)
       refine cIF (CG.skipN (cSL (lL hs [.v 72 (.pointer (some ⟨b10,0,none⟩)),.o 73 (.int .i64 ((ls.getD k lay0).k)) 0 0 1] (lC 74 hs (nKnownG (ls.getD k lay0).k _ _ hs.g) ?_))))
       rintro _ w31 h32 hs rfl
       cases hb33:(decide (1≤(ls.getD k lay0).k∧(ls.getD k lay0).k≤3))
       ·
        have phb33:=oF hb33
        exact lL hs [.v 75 (.bool true)] (lN (cIT (cSL (lL hs [.v 2 (.int .i64 10)] (lN (CG.ret (hs.ret [] (.int .i64 10) (chk_kind hi oM (⟨‹RightP _›,by omega,by omega,fun _=>by omega,fun h_=>by first|omega|(have:=hwd h_;omega)⟩) (by first|assumption|(intro h_;have h1_:=h_.1;have h2_:=h_.2;omega))))))))))
       have phb33:=oT hb33
       refine lL hs [.v 75 (.bool false)] (lN (cIF (CG.skipN (CG.listed (lIn 76 ((k:Nat)+1) (k+1) ?_)))))
       refine lL hs [.m 18 76] (lD ?_)
       intro a_ ka
       have q34:(k+1)≤ls.length:=by omega
       have q35:chkq ls=chkFrom ls (k+1) (ls.length-(k+1)):=chk_step hi oM ⟨‹RightP _›,by omega,by omega,fun _=>by omega,fun _=>by omega⟩ aM
       replace hs:=hs.tl.tl.tl.tl.tl.tl.tl
       replace hs:=hs.drop 1 0
       refine ⟨_,_,?_,⟨k+1,h32,rfl,rfl,hs.to _ _,q34,q35⟩,ka.to [(1,.pointer (some ⟨b1,0,none⟩)),(16,.slice A ts.length cap),(17,.int .i64 (ts.length:Nat)),(18,.int .i64 ((k+1):Nat))] kR⟩
       omega
      have phb28:=neOfBne hb28
      refine eB 27 69 hb28 ?_
      refine eV 28 70 (.bool true) ?_
      refine eV 29 71 (.bool true) ?_
      refine eD0 hs (fun w36 h37 hs=>?_)
      refine tN (cTo [(1,.pointer (some ⟨b1,0,none⟩)),(16,.slice A ts.length cap),(17,.int .i64 (ts.length:Nat)),(18,.int .i64 (k:Nat)),(4,.pointer (some ⟨b10,0,none⟩)),(71,.bool true)] ?_)
      exact cIT (cSL (lL hs [.v 2 (.int .i64 5)] (lN (CG.ret (hs.ret [] (.int .i64 5) (chk_bad hi oM (fun ⟨f1,f2,f3,f4,f5⟩=>by first|exact absurd f1 aM|omega|(have:=f4 oM;omega)|(have:=f5 oM;omega)|(have:=hwd oM;have:=f5 oM;omega))))))))
     have phb19:=eq_of_beq hb19
     refine eB 1 43 hb19 ?_
     refine eV 2 44 (.bool true) ?_
     refine eV 3 45 (.pointer (some ⟨b10,1,none⟩)) ?_
     refine eO 4 46 [(0,1,1)] (.slice AWx usx.length cWx) hs ?_
     refine eX 5 47 AWx usx.length cWx 1 0 0 ((hs.f.2.2.1).ok oM) ?_
     obtain ⟨Arp,crp,erp,hcrp,hRrp⟩:=(hs.f.2.1).at_ 0 oM
     replace hs:=(hs.a_SlO hRrp)
     refine eHe 6 48 (usx.getD 0 undef) hs ((hs.f.2.2.2.1).el 0 oM) erp ?_
     refine eV 7 49 (.int .i64 ((((ls.getD k lay0).W).getD 0 []).length:Nat)) ?_
     cases hb38:(decide ((20:Int)<(((((ls.getD k lay0).W).getD 0 []).length:Nat):Int)))
     ·
      have phb38:=oF hb38
      refine eB 8 50 hb38 ?_
      refine eV 9 51 (.bool false) ?_
      refine eV 10 52 (.bool false) ?_
      refine eV 11 53 (.int .i64 (k:Nat)) ?_
      have ⟨hb39,phb39⟩:=dF (p:=(0:Int)<((k:Nat):Int)) oM
      refine eB 12 54 hb39 ?_
      refine eV 13 55 (.bool false) ?_
      refine eG 14 56 ?_
      refine eG 15 57 ?_
      refine eG 16 58 ?_
      refine eG 17 59 ?_
      refine eG 18 60 ?_
      refine eG 19 61 ?_
      refine eG 20 62 ?_
      refine eG 21 63 ?_
      refine eG 22 64 ?_
      refine eG 23 65 ?_
      refine eG 24 66 ?_
      refine eG 25 67 ?_
      refine eG 26 68 ?_
      refine eG 27 69 ?_
      refine eV 28 70 (.bool false) ?_
      refine eV 29 71 (.bool false) ?_
      refine eD0 hs (fun w40 h41 hs=>?_)
      refine tN (cTo [(1,.pointer (some ⟨b1,0,none⟩)),(16,.slice A ts.length cap),(17,.int .i64 (ts.length:Nat)),(18,.int .i64 (k:Nat)),(4,.pointer (some ⟨b10,0,none⟩)),(71,.bool false)] ?_)
      refine cIF (CG.skipN (cSL (lL hs [.v 72 (.pointer (some ⟨b10,0,none⟩)),.o 73 (.int .i64 ((ls.getD k lay0).k)) 0 0 1] (lC 74 hs (nKnownG (ls.getD k lay0).k _ _ hs.g) ?_))))
      rintro _ w42 h43 hs rfl
      cases hb44:(decide (1≤(ls.getD k lay0).k∧(ls.getD k lay0).k≤3))
      ·
       have phb44:=oF hb44
       exact lL hs [.v 75 (.bool true)] (lN (cIT (cSL (lL hs [.v 2 (.int .i64 10)] (lN (CG.ret (hs.ret [] (.int .i64 10) (chk_kind hi oM (⟨‹RightP _›,by omega,by omega,fun _=>by omega,fun h_=>by first|omega|(have:=hwd h_;omega)⟩) (by first|assumption|(intro h_;have h1_:=h_.1;have h2_:=h_.2;omega))))))))))
      have phb44:=oT hb44
      refine lL hs [.v 75 (.bool false)] (lN (cIF (CG.skipN (CG.listed (lIn 76 ((k:Nat)+1) (k+1) ?_)))))
      refine lL hs [.m 18 76] (lD ?_)
      intro a_ ka
      have q45:(k+1)≤ls.length:=by omega
      have q46:chkq ls=chkFrom ls (k+1) (ls.length-(k+1)):=chk_step hi oM ⟨‹RightP _›,by omega,by omega,fun _=>by omega,fun _=>by omega⟩ aM
      replace hs:=hs.tl.tl.tl.tl
      replace hs:=hs.drop 1 0
      refine ⟨_,_,?_,⟨k+1,h43,rfl,rfl,hs.to _ _,q45,q46⟩,ka.to [(1,.pointer (some ⟨b1,0,none⟩)),(16,.slice A ts.length cap),(17,.int .i64 (ts.length:Nat)),(18,.int .i64 ((k+1):Nat))] kR⟩
      omega
     have phb38:=oT hb38
     refine eB 8 50 hb38 ?_
     refine eV 9 51 (.bool true) ?_
     refine eV 10 52 (.bool true) ?_
     refine eG 11 53 ?_
     refine eG 12 54 ?_
     refine eG 13 55 ?_
     refine eG 14 56 ?_
     refine eG 15 57 ?_
     refine eG 16 58 ?_
     refine eG 17 59 ?_
     refine eG 18 60 ?_
     refine eG 19 61 ?_
     refine eG 20 62 ?_
     refine eG 21 63 ?_
     refine eG 22 64 ?_
     refine eG 23 65 ?_
     refine eG 24 66 ?_
     refine eG 25 67 ?_
     refine eG 26 68 ?_
     refine eG 27 69 ?_
     refine eG 28 70 ?_
     refine eV 29 71 (.bool true) ?_
     refine eD0 hs (fun w47 h48 hs=>?_)
     refine tN (cTo [(1,.pointer (some ⟨b1,0,none⟩)),(16,.slice A ts.length cap),(17,.int .i64 (ts.length:Nat)),(18,.int .i64 (k:Nat)),(4,.pointer (some ⟨b10,0,none⟩)),(71,.bool true)] ?_)
     exact cIT (cSL (lL hs [.v 2 (.int .i64 5)] (lN (CG.ret (hs.ret [] (.int .i64 5) (chk_bad hi oM (fun ⟨f1,f2,f3,f4,f5⟩=>by first|exact absurd f1 aM|omega|(have:=f4 oM;omega)|(have:=f5 oM;omega)|(have:=hwd oM;have:=f5 oM;omega))))))))
    have phb18:=neOfBne hb18
    refine lB 40 hb18 ?_
    exact lL hs [.v 41 (.bool true)] (lN (cIT (cSL (lL hs [.v 2 (.int .i64 5)] (lN (CG.ret (hs.ret [] (.int .i64 5) (chk_bad hi oM (fun ⟨f1,f2,f3,f4,f5⟩=>by first|exact absurd f1 aM|omega|(have:=f4 oM;omega)|(have:=f5 oM;omega)|(have:=hwd oM;have:=f5 oM;omega))))))))))
   have phb17:=oT hb17
   refine lB 31 hb17 ?_
   refine lL hs [.v 32 (.bool true),.m 33 32] (lG 34 ?_)
   refine lG 35 ?_
   refine lG 36 ?_
   refine lG 37 ?_
   refine lG 38 ?_
   refine lG 39 ?_
   refine lG 40 ?_
   exact lL hs [.v 41 (.bool true)] (lN (cIT (cSL (lL hs [.v 2 (.int .i64 5)] (lN (CG.ret (hs.ret [] (.int .i64 5) (chk_bad hi oM (fun ⟨f1,f2,f3,f4,f5⟩=>by first|exact absurd f1 aM|omega|(have:=f4 oM;omega)|(have:=f5 oM;omega)|(have:=hwd oM;have:=f5 oM;omega))))))))))
  have phb5:=oT hb5
  refine lB 13 hb5 ?_
  exact lL hs [.v 14 (.bool true)] (lN (cIT (cSL (lL hs [.v 2 (.int .i64 5)] (lN (CG.ret (hs.ret [] (.int .i64 5) (chk_len oM))))))))
 have phb4:=oT hb4
 refine lB 8 hb4 ?_
 refine lL hs [.m 9 8] (lG 10 ?_)
 refine lG 11 ?_
 refine lG 12 ?_
 refine lG 13 ?_
 exact lL hs [.v 14 (.bool true)] (lN (cIT (cSL (lL hs [.v 2 (.int .i64 5)] (lN (CG.ret (hs.ret [] (.int .i64 5) (chk_len oM))))))))
structure Mat (W:List (List Rat)) (r c:Nat):Prop where
  rows:W.length=r
  rpos:0<r
  cpos:0<c
  row:∀ i,i<r→(W.getD i []).length=c
structure Net3 (ls:List Lay) (d:Nat→Nat):Prop where
  len:1≤ls.length∧ls.length≤4
  first:d 0≤20
  lay:∀ i,i<ls.length→Mat (ls.getD i lay0).W (d (i+1)) (d i)∧(ls.getD i lay0).B.length=d (i+1)∧d (i+1)≤12∧((ls.getD i lay0).k=1∨(ls.getD i lay0).k=2∨(ls.getD i lay0).k=3)
theorem Net3.small {ls:List Lay}{d:Nat→Nat}(o:Net3 ls d)(i:Nat)(h:i<ls.length):d i≤20:=by
  cases i with
  | zero=>exact o.first
  | succ i=>have:=(o.lay i oM).2.2.1;omega
theorem one_abs_pos (u:Rat):0<((1:Int):Rat)+qabs u:=by
  have h:(0:Rat)≤qabs u:=by rw[←Rat.num_nonneg,qabs_num];omega
  have h1:(0:Rat)<((1:Int):Rat):=by decide
  grind
theorem one_abs_ne (u:Rat):(((1:Int):Rat)+qabs u).num≠0:=by
  have:=one_abs_pos u
  intro e
  have e2:((1:Int):Rat)+qabs u=0:=by rw[←Rat.num_eq_zero];exact e
  rw[e2] at this;exact absurd this kD
def act (k:Int)(u:Rat):Rat:=if k=2 then maxR u 0 else if k=3 then u/(((1:Int):Rat)+qabs u) else u
theorem LQ.act {m:Nat}{u:Rat}(k:Int)(h:LQ m u)(hm:0<m):LQ (2*m+2) (act k u):=by
  unfold Go.Proofs.YticblaklfnadoaaGreatDoor.act
  split
  · exact (LQ.maxR h ((LQ.lit (z:=0) kD).mono oM)).mono oM
  · split
    · exact (h.div ((LQ.lit (z:=1) kD).add h.abs)).mono oM
    · exact h.mono oM
def layq (L:Lay)(x:List Rat):List Rat:=(List.range L.W.length).map fun i=>act L.k (dotq (L.W.getD i []) x x.length+L.B.getD i 0)
def outq (ls:List Lay)(xs:List Rat):Nat→List Rat
  | 0=>xs
  | k+1=>layq (ls.getD k lay0) (outq ls xs k)
theorem outq_len {ls:List Lay}{d:Nat→Nat}(o:Net3 ls d){xs:List Rat}(hx:xs.length=d 0)(k:Nat)(hk:k≤ls.length):(outq ls xs k).length=d k:=by
  cases k with
  | zero=>exact hx
  | succ k=>show (layq _ _).length=_;unfold layq;rw[List.length_map,List.length_range];exact (o.lay k oM).1.rows
structure NetB (ls:List Lay) (xs:List Rat):Prop where
  w:∀ k i j,LQ 1000000 (((ls.getD k lay0).W.getD i []).getD j 0)
  b:∀ k i,LQ 1000000 ((ls.getD k lay0).B.getD i 0)
  x:∀ k,k≤ls.length→∀ j,LQ 1000000 ((outq ls xs k).getD j 0)
theorem getD_set_self {l:List Rat}{i:Nat}{x:Rat}(h:i<l.length):(l.set i x).getD i 0=x:=by
  rw[List.getD_eq_getElem?_getD,List.getElem?_set_self h];rfl
theorem fstep {pl:List Rat}{f:Nat→Rat}{i:Nat}{x:Rat}(hp:∀ j,j<i→pl.getD j 0=f j)(hi:i<pl.length)(hx:x=f i):∀ j,j<i+1→(pl.set i x).getD j 0=f j:=by
  intro j hj
  by_cases e:j=i
  · subst e;rw[getD_set_self hi,hx]
  · rw[List.getD_eq_getElem?_getD,List.getElem?_set_ne (Ne.symm e),←List.getD_eq_getElem?_getD];exact hp j oM
theorem dot_b1 {n:Nat}(h:n≤20):n*(1000000+1000000+1)+1000000+1000000+2≤100000000:=by rw[Nat.mul_comm n];omega
theorem dot_b2 {n:Nat}(h:n≤20):n*(1000000+1000000+1)+1≤41000000:=by rw[Nat.mul_comm n];omega
theorem map_of {pl:List Rat}{f:Nat→Rat}{i n:Nat}(hp:∀ j,j<i→pl.getD j 0=f j)(hi:i=n)(hl:pl.length=n):pl=(List.range n).map f:=by
  subst hi
  refine List.ext_getElem (by simp[hl]) (fun j h1 h2=>?_)
  have:=hp j oM
  rw[List.getD_eq_getElem?_getD,List.getElem?_eq_getElem h1] at this
  simp only[List.getElem_map,List.getElem_range]
  exact this
def sumq (L:Lay)(x:List Rat):List Rat:=(List.range L.W.length).map fun i=>dotq (L.W.getD i []) x x.length+L.B.getD i 0
def insq (ls:List Lay)(xs:List Rat)(n:Nat):List (List Rat):=(List.range n).map (outq ls xs)
def sumsq (ls:List Lay)(xs:List Rat)(n:Nat):List (List Rat):=(List.range n).map fun k=>sumq (ls.getD k lay0) (outq ls xs k)
theorem insq_succ (ls:List Lay)(xs:List Rat)(n:Nat):insq ls xs (n+1)=insq ls xs n++[outq ls xs n]:=by unfold insq;rw[List.range_succ,List.map_append];rfl
theorem sumsq_succ (ls:List Lay)(xs:List Rat)(n:Nat):sumsq ls xs (n+1)=sumsq ls xs n++[sumq (ls.getD n lay0) (outq ls xs n)]:=by unfold sumsq;rw[List.range_succ,List.map_append];rfl
theorem fDotN (A:Option Addr)(ca:Nat)(a:List Rat)(D:Option Addr)(cd:Nat)(b:List Rat)(n m1 m2:Nat)(h1:a.length=m1)(h2:b.length=m2)(e1:m1=n)(e2:m2=n)(K L:Nat)(hn:n≤1000000)(hb:n*(K+L+1)+K+L+2≤100000000)(ha:∀ i,LQ K (a.getD i 0))(hbb:∀ i,LQ L (b.getD i 0))(w:World)(h:Hp)(g:G w h)(hA:SlO 5 qc 0 h A a)(hD:SlO 5 qc 0 h D b)(tb:Tab h) :
    Calls Tryz.prog 127 #[.slice A m1 ca,.slice D m2 cd] w (Ret w h fun v _=>v=.tuple #[qv (dotq a b n),.bool true]):=by
  subst h1 h2 e1
  exact fDot A ca a D cd b K L e2.symm hn hb (fun i _=>ha i) (fun i _=>hbb i) w h g hA hD tb
theorem nAct1 (u:Rat)(w:World)(h:Hp)(g:G w h) :
    Calls Tryz.prog 128 #[.int .i64 1,qv u] w (Ret w h fun v _=>v=qv u):=by
 have hs:=SS.start g
 refine go Tryz.func128 [(0,.int .i64 1),(1,qv u)] rfl ?_
 refine cSL (lA 3 73 (qc u) hs (fun b1 w2 h3 hs=>?_))
 refine lA 4 73 ([.bool false,.int .u64 0,.string ⟨#[]⟩,.int .u64 0,.string ⟨#[]⟩]) hs (fun b4 w5 h6 hs=>?_)
 refine lN (CG.seq (cSL (lL hs [.m 7 0] (lN (CG.block (cSL (lL hs [.v 9 (.bool false),.m 8 9] (lN (cIF (cSL (lL hs [.v 14 (.bool false),.m 13 14] (lN (cIF (CG.skipN (cSL (lL hs [.o 25 (qv u) 1 0 5] (lP 0 0 (qc u) hs (fun w7 hs=>?_))))))))))))))))))
 exact lN (CG.ret (hs.ret [(0,0,5)] (qv u) rfl))
theorem nAct2 (u:Rat)(hu:LQ 45000000 u)(w:World)(h:Hp)(g:G w h) :
    Calls Tryz.prog 128 #[.int .i64 2,qv u] w (Ret w h fun v _=>v=qv (maxR u 0)):=by
 have hs:=SS.start g
 refine go Tryz.func128 [(0,.int .i64 2),(1,qv u)] rfl ?_
 refine cSL (lA 3 73 (qc u) hs (fun b1 w2 h3 hs=>?_))
 refine lA 4 73 ([.bool false,.int .u64 0,.string ⟨#[]⟩,.int .u64 0,.string ⟨#[]⟩]) hs (fun b4 w5 h6 hs=>?_)
 refine lN (CG.seq (cSL (lL hs [.m 7 0] (lN (CG.block (cSL (lL hs [.v 9 (.bool true),.m 8 9] (lN (cIT (cSL (lL hs [.o 10 (qv u) 1 0 5,.v 11 (qv 0)] (lC 12 hs (fMax u 0 (LQ.mono hu oM) (LQ.mono (LQ.lit (z:=0) kD) oM) _ _ hs.g) ?_))))))))))))
 rintro _ w7 h8 hs rfl
 refine lP 0 0 (qc (maxR u 0)) hs (fun w9 hs=>?_)
 exact lN (CG.ret (hs.ret [(0,0,5)] (qv (maxR u 0)) rfl))
theorem nAct3 (u:Rat)(hu:LQ 45000000 u)(w:World)(h:Hp)(g:G w h)(tb:Tab h) :
    Calls Tryz.prog 128 #[.int .i64 3,qv u] w (Ret w h fun v _=>v=qv (u/(((1:Int):Rat)+qabs u))):=by
 have hs:=SS.start g
 replace hs:=(hs.add (K:=fun h_=>Tab h_) tb)
 refine go Tryz.func128 [(0,.int .i64 3),(1,qv u)] rfl ?_
 refine cSL (lA 3 73 (qc u) hs (fun b1 w2 h3 hs=>?_))
 refine lA 4 73 ([.bool false,.int .u64 0,.string ⟨#[]⟩,.int .u64 0,.string ⟨#[]⟩]) hs (fun b4 w5 h6 hs=>?_)
 refine lN (CG.seq (cSL (lL hs [.m 7 0] (lN (CG.block (cSL (lL hs [.v 9 (.bool false),.m 8 9] (lN (cIF (cSL (lL hs [.v 14 (.bool true),.m 13 14] (lN (cIT (CG.seq ?_))))))))))))))
 have hsr:=hs
 refine cR 10 [⟨9,5,.cells (List.toArray [.bool false,.int .u64 0,.string ⟨#[]⟩,.int .u64 0,.string ⟨#[]⟩]) 73 (0,0)⟩] mixed hs (al_cons (alOk kR (fun _ _=>by kernel_rfl)) al_nil) ?_
 refine eO 0 16 [(1,0,5)] (qv u) hs ?_
 refine eO 2 18 [(1,0,5)] (qv u) hs ?_
 refine eC 1 17 hs (fun _ _ hs=>fOf 1 oM oM _ _ hs.g) ?_
 rintro _ _ _ w7 h8 hs rfl
 have hq9:LQ (45000000) (qabs u):=LQ.abs hu
 refine eC 3 19 hs (fun _ _ hs=>fAbs u (LQ.mono hu oM) _ _ hs.g) ?_
 rintro _ _ _ w10 h11 hs rfl
 have hq12:=LQ.add (LQ.lit (z:=1) kD) hq9
 refine eC 4 20 hs (fun _ _ hs=>fAdd ((1:Int):Rat) (qabs u) (LQ.mono (LQ.lit (z:=1) kD) oM) (LQ.mono hq9 oM) _ _ hs.g (hs.f.1)) ?_
 rintro _ _ _ w13 h14 hs rfl
 have hq15:=LQ.div hu hq12
 refine eC 5 21 hs (fun _ _ hs=>fDivN u (((1:Int):Rat)+(qabs u)) (LQ.mono hu oM) (LQ.mono hq12 oM) (one_abs_ne u) _ _ hs.g (hs.f.1)) ?_
 rintro _ _ _ w16 h17 hs rfl
 refine eV 6 15 (.tuple #[qv (u/(((1:Int):Rat)+(qabs u))),.bool true]) ?_
 refine eV 7 22 (qv (u/(((1:Int):Rat)+(qabs u)))) ?_
 refine eV 8 23 (.bool true) ?_
 refine eD1p [] hsr hs 73 [.bool false,.int .u64 0,.string ⟨#[]⟩,.int .u64 0,.string ⟨#[]⟩] (fun w18 h19 b20 hs=>?_)
 refine tP 10 0 0 (qc (u/(((1:Int):Rat)+(qabs u)))) hs (fun w21 hs=>?_)
 refine tV 11 6 (.bool true) ?_
 refine tNS ?_
 refine lL hs [.o 24 (qv (u/(((1:Int):Rat)+(qabs u)))) 0 0 5] (lP 1 0 (qc (u/(((1:Int):Rat)+(qabs u)))) hs (fun w22 hs=>?_))
 exact lN (CG.ret (hs.ret [(1,0,5)] (qv (u/(((1:Int):Rat)+(qabs u)))) rfl))
theorem nAct (k:Int)(hk:k=1∨k=2∨k=3)(u:Rat)(hu:LQ 45000000 u)(w:World)(h:Hp)(g:G w h)(tb:Tab h):Calls Tryz.prog 128 #[.int .i64 k,qv u] w (Ret w h fun v _=>v=qv (act k u)):=by
  rcases hk with rfl|rfl|rfl
  · exact nAct1 u w h g
  · exact nAct2 u hu w h g
  · exact nAct3 u hu w h g tb
theorem nSuitsT (A:Option Addr)(cap:Nat)(ts:List LV)(ls:List Lay)(d:Nat→Nat)(hO:Net3 ls d)(X:Option Addr)(c0:Nat)(xs:List Rat)(hx:xs.length=d 0)(w:World)(h:Hp)(g:G w h)(hA:SlO 3 lvc lvd h A ts)(hN:NetL h ts ls)(hX:SlO 5 qc 0 h X xs) :
    Calls Tryz.prog 79 #[.agg #[.slice A ts.length cap],.slice X xs.length c0] w (Ret w h fun v _=>v=.bool true):=by
 have hs:=SS.start g
 replace hs:=(((hs.a_SlO hA).add (K:=fun h_=>NetL h_ ts ls) hN).a_SlO hX)
 have hl:=(hs.f.2.1).len
 obtain ⟨o1,o2⟩:=hO.len
 have o3:=hO.first
 refine go Tryz.func79 [(0,.agg #[.slice A ts.length cap]),(1,.slice X xs.length c0)] rfl ?_
 refine cSL (lA 2 28 ([.slice A ts.length cap]) hs (fun b1 w2 h3 hs=>?_))
 refine lL hs [.v 4 (.bool false)] (lNS (lL hs [.m 5 1,.v 6 (.int .i64 (xs.length:Nat)),.v 7 (.pointer (some ⟨b1,0,none⟩)),.o 8 (.slice A ts.length cap) 0 0 1] (lX 9 A ts.length cap 3 0 0 ((hs.f.2.2.1).ok oM) ?_)))
 refine lL hs [.v 10 (.pointer (some ⟨(aB A),aO A+0*3+1,none⟩))] ?_
 obtain ⟨ekx,⟨AWx,cWx,usx,eWx,hcWx,hAWx,hUx⟩,⟨ABx,cBx,eBx,hcBx,hABx⟩⟩:=(hs.f.2.1).at_ 0 oM
 obtain ⟨mtx,lbx,r12x,kdx⟩:=hO.lay 0 oM
 have lux:=hUx.len;have mrx:=mtx.rows;have mpx:=mtx.rpos;have mcx:=mtx.cpos;have m0x:=mtx.row 0 oM
 replace hs:=(((hs.a_SlO hAWx).add (K:=fun h_=>QVs h_ usx (ls.getD 0 lay0).W) hUx).a_SlO hABx)
 refine lHe 11 ((ts.getD 0 lvd).2.1) hs (((hs.f.2.2.2.2.2.1).el 0 oM).part 1 1) eWx ?_
 refine lX 12 AWx usx.length cWx 1 0 0 ((hs.f.2.2.1).ok oM) ?_
 obtain ⟨Arp,crp,erp,hcrp,hRrp⟩:=(hs.f.2.1).at_ 0 oM
 replace hs:=(hs.a_SlO hRrp)
 refine lHe 13 (usx.getD 0 undef) hs ((hs.f.2.2.2.1).el 0 oM) erp ?_
 refine lL hs [.v 14 (.int .i64 ((((ls.getD 0 lay0).W).getD 0 []).length:Nat))] ?_
 have hb4:(((xs.length:Nat):Int) == (((((ls.getD 0 lay0).W).getD 0 []).length:Nat):Int))=true:=beqT oM
 have phb4:=eq_of_beq hb4
 refine lB 15 hb4 ?_
 exact lL hs [.m 4 15] (lN (CG.ret (hs.ret [] (.bool true) rfl)))
theorem nSuitsF (A:Option Addr)(cap:Nat)(ts:List LV)(ls:List Lay)(d:Nat→Nat)(hO:Net3 ls d)(X:Option Addr)(c0:Nat)(xs:List Rat)(hx:xs.length≠d 0)(w:World)(h:Hp)(g:G w h)(hA:SlO 3 lvc lvd h A ts)(hN:NetL h ts ls)(hX:SlO 5 qc 0 h X xs) :
    Calls Tryz.prog 79 #[.agg #[.slice A ts.length cap],.slice X xs.length c0] w (Ret w h fun v _=>v=.bool false):=by
 have hs:=SS.start g
 replace hs:=(((hs.a_SlO hA).add (K:=fun h_=>NetL h_ ts ls) hN).a_SlO hX)
 have hl:=(hs.f.2.1).len
 obtain ⟨o1,o2⟩:=hO.len
 have o3:=hO.first
 refine go Tryz.func79 [(0,.agg #[.slice A ts.length cap]),(1,.slice X xs.length c0)] rfl ?_
 refine cSL (lA 2 28 ([.slice A ts.length cap]) hs (fun b1 w2 h3 hs=>?_))
 refine lL hs [.v 4 (.bool false)] (lNS (lL hs [.m 5 1,.v 6 (.int .i64 (xs.length:Nat)),.v 7 (.pointer (some ⟨b1,0,none⟩)),.o 8 (.slice A ts.length cap) 0 0 1] (lX 9 A ts.length cap 3 0 0 ((hs.f.2.2.1).ok oM) ?_)))
 refine lL hs [.v 10 (.pointer (some ⟨(aB A),aO A+0*3+1,none⟩))] ?_
 obtain ⟨ekx,⟨AWx,cWx,usx,eWx,hcWx,hAWx,hUx⟩,⟨ABx,cBx,eBx,hcBx,hABx⟩⟩:=(hs.f.2.1).at_ 0 oM
 obtain ⟨mtx,lbx,r12x,kdx⟩:=hO.lay 0 oM
 have lux:=hUx.len;have mrx:=mtx.rows;have mpx:=mtx.rpos;have mcx:=mtx.cpos;have m0x:=mtx.row 0 oM
 replace hs:=(((hs.a_SlO hAWx).add (K:=fun h_=>QVs h_ usx (ls.getD 0 lay0).W) hUx).a_SlO hABx)
 refine lHe 11 ((ts.getD 0 lvd).2.1) hs (((hs.f.2.2.2.2.2.1).el 0 oM).part 1 1) eWx ?_
 refine lX 12 AWx usx.length cWx 1 0 0 ((hs.f.2.2.1).ok oM) ?_
 obtain ⟨Arp,crp,erp,hcrp,hRrp⟩:=(hs.f.2.1).at_ 0 oM
 replace hs:=(hs.a_SlO hRrp)
 refine lHe 13 (usx.getD 0 undef) hs ((hs.f.2.2.2.1).el 0 oM) erp ?_
 refine lL hs [.v 14 (.int .i64 ((((ls.getD 0 lay0).W).getD 0 []).length:Nat))] ?_
 have hb4:(((xs.length:Nat):Int) == (((((ls.getD 0 lay0).W).getD 0 []).length:Nat):Int))=false:=beqF oM
 have phb4:=neOfBeq hb4
 refine lB 15 hb4 ?_
 exact lL hs [.m 4 15] (lN (CG.ret (hs.ret [] (.bool false) rfl)))
theorem nForward (A:Option Addr)(cap:Nat)(ts:List LV)(ls:List Lay)(d:Nat→Nat)(hO:Net3 ls d)(X:Option Addr)(c0:Nat)(xs:List Rat)(hx:xs.length=d 0)(hc0:xs.length≤c0)(hB:NetB ls xs)(w:World)(h:Hp)(g:G w h)(hA:SlO 3 lvc lvd h A ts)(hN:NetL h ts ls)(hX:SlO 5 qc 0 h X xs)(tb:Tab h) :
    Calls Tryz.prog 80 #[.agg #[.slice A ts.length cap],.slice X xs.length c0] w (Ret w h fun v h1=>∃ A1 c1 u1 A2 c2 u2 Ax cx,v=.agg #[.slice A1 (u1:List Value).length c1,.slice A2 (u2:List Value).length c2,.slice Ax (outq ls xs ls.length).length cx]∧u1.length≤c1∧u2.length≤c2∧(outq ls xs ls.length).length≤cx∧SlO 1 vc undef h1 A1 u1∧SlO 1 vc undef h1 A2 u2∧QVs h1 u1 (insq ls xs ls.length)∧QVs h1 u2 (sumsq ls xs ls.length)∧SlO 5 qc 0 h1 Ax (outq ls xs ls.length)):=by
 have hs:=SS.start g
 replace hs:=((((hs.a_SlO hA).add (K:=fun h_=>NetL h_ ts ls) hN).a_SlO hX).add (K:=fun h_=>Tab h_) tb)
 have hl:=(hs.f.2.2.1).len
 obtain ⟨o1,o2⟩:=hO.len
 have o3:=hO.first
 refine go Tryz.func80 [(0,.agg #[.slice A ts.length cap]),(1,.slice X xs.length c0)] rfl ?_
 refine cSL (lA 2 28 ([.slice A ts.length cap]) hs (fun b1 w2 h3 hs=>?_))
 refine lA 4 165 ([.slice none 0 0,.slice none 0 0,.slice none 0 0]) hs (fun b4 w5 h6 hs=>?_)
 refine lNS (lL hs [.m 14 1,.v 15 (.agg #[.slice none 0 0,.slice none 0 0,.slice X xs.length c0])] (lA 5 165 ([.slice none 0 0,.slice none 0 0,.slice none 0 0]) hs (fun b7 w8 h9 hs=>?_)))
 refine lP 0 0 ([.slice none 0 0,.slice none 0 0,.slice X xs.length c0]) hs (fun w10 hs=>?_)
 refine lN (CG.seq (cSL (lL hs [.v 16 (.pointer (some ⟨b1,0,none⟩)),.o 17 (.slice A ts.length cap) 2 0 1,.v 18 (.int .i64 (ts.length:Nat)),.v 19 (.int .i64 0)] (lN (CG.block ?_)))))
 replace hs:=hs.nil 75 1
 replace hs:=hs.nil 75 1
 refine cTo [(4,.pointer (some ⟨b4,0,none⟩)),(5,.pointer (some ⟨b7,0,none⟩)),(17,.slice A ts.length cap),(18,.int .i64 (ts.length:Nat)),(19,.int .i64 0)] ?_
 replace hs:=hs.add (K:=fun h_=>SlO 5 qc 0 h_ X (outq ls xs 0)) ((hs.f.2.1))
 replace hs:=hs.add (K:=fun h_=>QVs h_ ([]) (sumsq ls xs 0)) (QVs.nil)
 replace hs:=hs.add (K:=fun h_=>QVs h_ ([]) (insq ls xs 0)) (QVs.nil)
 refine CG.loop (fun μ_ Γ w_=>∃ (k:Nat) (s1A:Option Addr) (s1c:Nat) (s2A:Option Addr) (s2c:Nat) (l1:List Value) (l2:List Value) (Ax:Option Addr) (cx:Nat) (h_:Hp),μ_=ls.length-k∧Γ=[(4,.pointer (some ⟨b4,0,none⟩)),(5,.pointer (some ⟨b7,0,none⟩)),(17,.slice A ts.length cap),(18,.int .i64 (ts.length:Nat)),(19,.int .i64 (k:Nat))]∧SS w h w_ h_ [⟨b7,165,[.slice s1A ((l1).length) s1c,.slice s2A ((l2).length) s2c,.slice Ax ((outq ls xs k).length) cx]⟩,⟨b4,165,[.slice none 0 0,.slice none 0 0,.slice none 0 0]⟩,⟨b1,28,[.slice A ts.length cap]⟩] [⟨75,1,s1A,s1c,(l1).length,(l1).flatMap vc⟩,⟨75,1,s2A,s2c,(l2).length,(l2).flatMap vc⟩] [fun h_=>QVs h_ l1 (insq ls xs k),fun h_=>QVs h_ l2 (sumsq ls xs k),fun h_=>SlO 5 qc 0 h_ Ax (outq ls xs k),fun h_=>Tab h_,fun h_=>SlO 5 qc 0 h_ X xs,fun h_=>NetL h_ ts ls,fun h_=>SlO 3 lvc lvd h_ A ts]∧(k≤ls.length)∧(l1.length=k)∧(l2.length=k)∧((outq ls xs k).length≤cx)) _ ⟨0,none,0,none,0,[],[],X,c0,h9,rfl,rfl,hs.to _ _,Nat.zero_le _,rfl,rfl,hc0⟩ ?_
 rintro _ _ w11 ⟨k,s1A,s1c,s2A,s2c,l1,l2,Ax,cx,h12,hm13,rfl,hs,hk,hl1,hl2,hcx⟩
 have hlx:=outq_len hO hx k oM
 have hsm:=fun h0=>hO.small k h0
 refine cSL ?_
 cases hb14:(decide (((k:Nat):Int)<((ts.length:Nat):Int)))
 ·
  have phb14:=oF hb14
  refine lB 20 hb14 ?_
  refine lN (CG.seq (cIF (CG.exit ?_)))
  show CG _ _ _ _ _ _ _ _
  refine cSL ?_
  obtain ⟨h15,hs,hc16⟩:=hs.pubr 0 (A:=s1A) (c:=s1c) (l:=l1) (f:=vc) (ty:=75) (sz:=1) undef (fun _=>rfl)
  obtain ⟨h18,hs,hc19⟩:=hs.pubr 0 (A:=s2A) (c:=s2c) (l:=l2) (f:=vc) (ty:=75) (sz:=1) undef (fun _=>rfl)
  refine lL hs [.o 83 (.agg #[.slice s1A ((l1).length) s1c,.slice s2A ((l2).length) s2c,.slice Ax ((outq ls xs k).length) cx]) 0 0 3] (lP 1 0 ([.slice s1A ((l1).length) s1c,.slice s2A ((l2).length) s2c,.slice Ax ((outq ls xs k).length) cx]) hs (fun w21 hs=>?_))
  refine lN (CG.ret ?_)
  have hkn:k=ls.length:=by omega
  exact hs.ret [(1,0,3)] (.agg #[.slice s1A ((l1).length) s1c,.slice s2A ((l2).length) s2c,.slice Ax ((outq ls xs k).length) cx]) (by rw[←hkn];exact ⟨_,_,l1,_,_,l2,_,_,rfl,hc16,hc19,hcx,(hs.f.2.1),(hs.f.1),(hs.f.2.2.1),(hs.f.2.2.2.1),(hs.f.2.2.2.2.1)⟩)
 have phb14:=oT hb14
 refine lB 20 hb14 ?_
 refine lN (CG.seq (cIT (CG.skipN (CG.seq (CG.block (cSL (lX 21 A ts.length cap 3 (k:Nat) k ((hs.f.2.2.2.2.2.2.1).ok oM) ?_)))))))
 obtain ⟨ekx,⟨AWx,cWx,usx,eWx,hcWx,hAWx,hUx⟩,⟨ABx,cBx,eBx,hcBx,hABx⟩⟩:=(hs.f.2.2.2.2.2.1).at_ k oM
 obtain ⟨mtx,lbx,r12x,kdx⟩:=hO.lay k oM
 have lux:=hUx.len;have mrx:=mtx.rows;have mpx:=mtx.rpos;have mcx:=mtx.cpos;have m0x:=mtx.row 0 oM
 replace hs:=(((hs.a_SlO hAWx).add (K:=fun h_=>QVs h_ usx (ls.getD k lay0).W) hUx).a_SlO hABx)
 refine lHe 22 (.agg #[.int .i64 ((ts.getD k lvd).1),(ts.getD k lvd).2.1,(ts.getD k lvd).2.2]) hs ((hs.f.2.2.2.2.2.2.2.2.2.1).el k oM) (by rw[ekx,eWx,eBx]) ?_
 refine lA 7 77 ([.int .i64 0,.slice none 0 0,.slice none 0 0]) hs (fun b22 w23 h24 hs=>?_)
 refine lP 0 0 ([.int .i64 ((ls.getD k lay0).k),.slice AWx usx.length cWx,.slice ABx ((ls.getD k lay0).B.length) cBx]) hs (fun w25 hs=>?_)
 refine lNS (lL hs [.v 23 (.pointer (some ⟨b22,1,none⟩)),.o 24 (.slice AWx usx.length cWx) 0 1 1,.v 25 (.int .i64 (usx.length:Nat))] (lK 26 73 usx.length 5 56 (.agg #[.bool false,.int .u64 0,.string ⟨#[]⟩,.int .u64 0,.string ⟨#[]⟩]) qc 0 hs (fun b26 w27 h28 hs=>?_)))
 have hl29:(List.replicate usx.length 0).length=usx.length:=by simp
 refine lL hs [.m 8 26] (lNS (lL hs [.v 27 (.pointer (some ⟨b22,1,none⟩)),.o 28 (.slice AWx usx.length cWx) 1 1 1,.v 29 (.int .i64 (usx.length:Nat))] (lK 30 73 usx.length 5 56 (.agg #[.bool false,.int .u64 0,.string ⟨#[]⟩,.int .u64 0,.string ⟨#[]⟩]) qc 0 hs (fun b30 w31 h32 hs=>?_))))
 have hl33:(List.replicate usx.length 0).length=usx.length:=by simp
 refine lL hs [.m 9 30] (lN (CG.seq (cSL (lL hs [.v 31 (.pointer (some ⟨b22,1,none⟩)),.o 32 (.slice AWx usx.length cWx) 2 1 1,.v 33 (.int .i64 (usx.length:Nat)),.v 34 (.int .i64 0)] (lN (CG.block (cTo [(4,.pointer (some ⟨b4,0,none⟩)),(5,.pointer (some ⟨b7,0,none⟩)),(17,.slice A ts.length cap),(18,.int .i64 (ts.length:Nat)),(19,.int .i64 (k:Nat)),(7,.pointer (some ⟨b22,0,none⟩)),(8,.slice (some ⟨b26,0,none⟩) usx.length usx.length),(9,.slice (some ⟨b30,0,none⟩) usx.length usx.length),(32,.slice AWx usx.length cWx),(33,.int .i64 (usx.length:Nat)),(34,.int .i64 0)] ?_)))))))
 refine CG.loop (fun μ_ Γ w_=>∃ (i:Nat) (ql:List Rat) (pl:List Rat) (h_:Hp),μ_=usx.length-i∧Γ=[(4,.pointer (some ⟨b4,0,none⟩)),(5,.pointer (some ⟨b7,0,none⟩)),(17,.slice A ts.length cap),(18,.int .i64 (ts.length:Nat)),(19,.int .i64 (k:Nat)),(7,.pointer (some ⟨b22,0,none⟩)),(8,.slice (some ⟨b26,0,none⟩) usx.length usx.length),(9,.slice (some ⟨b30,0,none⟩) usx.length usx.length),(32,.slice AWx usx.length cWx),(33,.int .i64 (usx.length:Nat)),(34,.int .i64 (i:Nat))]∧SS w h w_ h_ [⟨b30,73,(pl).flatMap qc⟩,⟨b26,73,(ql).flatMap qc⟩,⟨b22,77,[.int .i64 ((ls.getD k lay0).k),.slice AWx usx.length cWx,.slice ABx ((ls.getD k lay0).B.length) cBx]⟩,⟨b7,165,[.slice s1A ((l1).length) s1c,.slice s2A ((l2).length) s2c,.slice Ax ((outq ls xs k).length) cx]⟩,⟨b4,165,[.slice none 0 0,.slice none 0 0,.slice none 0 0]⟩,⟨b1,28,[.slice A ts.length cap]⟩] [⟨75,1,s1A,s1c,(l1).length,(l1).flatMap vc⟩,⟨75,1,s2A,s2c,(l2).length,(l2).flatMap vc⟩] [fun h_=>SlO 5 qc 0 h_ ABx (ls.getD k lay0).B,fun h_=>QVs h_ usx (ls.getD k lay0).W,fun h_=>SlO 1 vc undef h_ AWx usx,fun h_=>QVs h_ l1 (insq ls xs k),fun h_=>QVs h_ l2 (sumsq ls xs k),fun h_=>SlO 5 qc 0 h_ Ax (outq ls xs k),fun h_=>Tab h_,fun h_=>SlO 5 qc 0 h_ X xs,fun h_=>NetL h_ ts ls,fun h_=>SlO 3 lvc lvd h_ A ts]∧(i≤usx.length)∧(ql.length=usx.length)∧(pl.length=usx.length)∧(∀ j,j<i→ql.getD j 0=dotq ((ls.getD k lay0).W.getD j []) (outq ls xs k) (outq ls xs k).length+(ls.getD k lay0).B.getD j 0)∧(∀ j,j<i→pl.getD j 0=act (ls.getD k lay0).k (dotq ((ls.getD k lay0).W.getD j []) (outq ls xs k) (outq ls xs k).length+(ls.getD k lay0).B.getD j 0))) _ ⟨0,List.replicate usx.length 0,List.replicate usx.length 0,h32,rfl,rfl,hs.to _ _,Nat.zero_le _,by simp,by simp,fun j hj=>absurd hj (Nat.not_lt_zero j),fun j hj=>absurd hj (Nat.not_lt_zero j)⟩ ?_
 rintro _ _ w34 ⟨i,ql,pl,h35,hm36,rfl,hs,hi,hlq,hlp,hq,hp⟩
 refine cSL ?_
 cases hb37:(decide (((i:Nat):Int)<((usx.length:Nat):Int)))
 ·
  have phb37:=oF hb37
  refine lB 35 hb37 ?_
  refine lN (CG.seq (cIF (CG.exit ?_)))
  show CG _ _ _ _ _ _ _ _
  refine cSL (lL hs [.v 67 (.pointer (some ⟨b7,0,none⟩)),.o 68 (.slice s1A ((l1).length) s1c) 3 0 1,.v 69 (.pointer (some ⟨b7,2,none⟩)),.o 70 (.slice Ax ((outq ls xs k).length) cx) 3 2 1] (lR 71 75 1 ([.slice Ax ((outq ls xs k).length) cx]) hs (fun b38 w39 h40 hs=>?_)))
  refine lY 72 0 75 1 s1c s1A l1 vc (.slice Ax ((outq ls xs k).length) cx:Value) 24 b38 (.slice none 0 0) hs (hs.f.1) (fun A42 c43 w44 h45 hs=>?_)
  refine lL hs [.v 73 (.pointer (some ⟨b7,0,none⟩))] (lP 3 0 ([.slice A42 ((l1++[(.slice Ax ((outq ls xs k).length) cx:Value)]).length) c43]) hs (fun w47 hs=>?_))
  refine lNS ?_
  have hql:ql=sumq (ls.getD k lay0) (outq ls xs k):=map_of hq (show i=(ls.getD k lay0).W.length by omega) (show ql.length=(ls.getD k lay0).W.length by omega)
  have hlsq:(sumq (ls.getD k lay0) (outq ls xs k)).length=usx.length:=by rw[←hql];exact hlq
  rw[hql] at hs
  obtain ⟨h48,hs,sg49,lo50,bc51⟩:=hs.pub 1
  replace hs:=(hs.to [⟨b30,73,(pl).flatMap qc⟩,⟨b22,77,[.int .i64 ((ls.getD k lay0).k),.slice AWx usx.length cWx,.slice ABx ((ls.getD k lay0).B.length) cBx]⟩,⟨b7,165,[.slice A42 ((l1++[(.slice Ax ((outq ls xs k).length) cx:Value)]).length) c43,.slice s2A ((l2).length) s2c,.slice Ax ((outq ls xs k).length) cx]⟩,⟨b4,165,[.slice none 0 0,.slice none 0 0,.slice none 0 0]⟩,⟨b1,28,[.slice A ts.length cap]⟩] [⟨75,1,A42,c43,(l1++[(.slice Ax ((outq ls xs k).length) cx:Value)]).length,(l1++[(.slice Ax ((outq ls xs k).length) cx:Value)]).flatMap vc⟩,⟨75,1,s2A,s2c,(l2).length,(l2).flatMap vc⟩]).a_SlO (SlO.of_flat (sz:=5) (f:=qc) (d:=0) (b:=b26) (o:=0) (l:=sumq (ls.getD k lay0) (outq ls xs k)) (fun _=>rfl) sg49)
  refine lL hs [.v 74 (.pointer (some ⟨b7,1,none⟩)),.o 75 (.slice s2A ((l2).length) s2c) 2 1 1,.m 76 8] (lR 77 75 1 ([.slice (some ⟨b26,0,none⟩) usx.length usx.length]) hs (fun b53 w54 h55 hs=>?_))
  refine lY 78 1 75 1 s2c s2A l2 vc (.slice (some ⟨b26,0,none⟩) usx.length usx.length:Value) 24 b53 (.slice none 0 0) hs (hs.f.1) (fun A57 c58 w59 h60 hs=>?_)
  refine lL hs [.v 79 (.pointer (some ⟨b7,1,none⟩))] (lP 2 1 ([.slice A57 ((l2++[(.slice (some ⟨b26,0,none⟩) usx.length usx.length:Value)]).length) c58]) hs (fun w62 hs=>?_))
  refine lN (CG.listed ?_)
  have hpl:pl=outq ls xs (k+1):=map_of hp (show i=(ls.getD k lay0).W.length by omega) (show pl.length=(ls.getD k lay0).W.length by omega)
  have hll:usx.length=(outq ls xs (k+1)).length:=by rw[←hpl];omega
  rw[hpl] at hs
  obtain ⟨h63,hs,sg64,lo65,bc66⟩:=hs.pub 0
  replace hs:=(hs.to [⟨b22,77,[.int .i64 ((ls.getD k lay0).k),.slice AWx usx.length cWx,.slice ABx ((ls.getD k lay0).B.length) cBx]⟩,⟨b7,165,[.slice A42 ((l1++[(.slice Ax ((outq ls xs k).length) cx:Value)]).length) c43,.slice A57 ((l2++[(.slice (some ⟨b26,0,none⟩) usx.length usx.length:Value)]).length) c58,.slice Ax ((outq ls xs k).length) cx]⟩,⟨b4,165,[.slice none 0 0,.slice none 0 0,.slice none 0 0]⟩,⟨b1,28,[.slice A ts.length cap]⟩] [⟨75,1,A42,c43,(l1++[(.slice Ax ((outq ls xs k).length) cx:Value)]).length,(l1++[(.slice Ax ((outq ls xs k).length) cx:Value)]).flatMap vc⟩,⟨75,1,A57,c58,(l2++[(.slice (some ⟨b26,0,none⟩) usx.length usx.length:Value)]).length,(l2++[(.slice (some ⟨b26,0,none⟩) usx.length usx.length:Value)]).flatMap vc⟩]).a_SlO (SlO.of_flat (sz:=5) (f:=qc) (d:=0) (b:=b30) (o:=0) (l:=outq ls xs (k+1)) (fun _=>rfl) sg64)
  refine lV 80 (.slice (some ⟨b30,0,none⟩) ((outq ls xs (k+1)).length) usx.length) ?_ (hr:=rval kR (by rw[←hll]))
  refine lL hs [.v 81 (.pointer (some ⟨b7,2,none⟩))] (lP 1 2 ([.slice (some ⟨b30,0,none⟩) ((outq ls xs (k+1)).length) usx.length]) hs (fun w68 hs=>?_))
  refine lN (CG.listed (lIn 82 ((k:Nat)+1) (k+1) ?_))
  refine lL hs [.m 19 82] (lD ?_)
  intro a_ ka
  have q69:QVs h63 (l1++[(.slice Ax ((outq ls xs k).length) cx:Value)]) (insq ls xs (k+1)):=(by rw[insq_succ];exact (hs.f.2.2.2.2.2.2.2.1).snoc ⟨_,_,rfl,hcx,(hs.f.2.2.2.2.2.2.2.2.2.1)⟩)
  have q70:QVs h63 (l2++[(.slice (some ⟨b26,0,none⟩) usx.length usx.length:Value)]) (sumsq ls xs (k+1)):=(by rw[sumsq_succ];exact (hs.f.2.2.2.2.2.2.2.2.1).snoc ⟨_,usx.length,by rw[hlsq],Nat.le_of_eq hlsq,(hs.f.2.2.1)⟩)
  have q71:SlO 5 qc 0 h63 (some ⟨b30,0,none⟩) (outq ls xs (k+1)):=(hs.f.1)
  have q72:(k+1)≤ls.length:=by omega
  have q73:(l1++[(.slice Ax ((outq ls xs k).length) cx:Value)]).length=(k+1):=by simp;omega
  have q74:(l2++[(.slice (some ⟨b26,0,none⟩) usx.length usx.length:Value)]).length=(k+1):=by simp;omega
  have q75:(outq ls xs (k+1)).length≤usx.length:=by omega
  replace hs:=(((hs.tl.tl.tl.tl.tl.tl.tl.tl.tl.tl.add (K:=fun h_=>SlO 5 qc 0 h_ (some ⟨b30,0,none⟩) (outq ls xs (k+1))) q71).add (K:=fun h_=>QVs h_ (l2++[(.slice (some ⟨b26,0,none⟩) usx.length usx.length:Value)]) (sumsq ls xs (k+1))) q70).add (K:=fun h_=>QVs h_ (l1++[(.slice Ax ((outq ls xs k).length) cx:Value)]) (insq ls xs (k+1))) q69)
  replace hs:=hs.drop 1 0
  refine ⟨_,_,?_,⟨k+1,A42,c43,A57,c58,l1++[(.slice Ax ((outq ls xs k).length) cx:Value)],l2++[(.slice (some ⟨b26,0,none⟩) usx.length usx.length:Value)],some ⟨b30,0,none⟩,usx.length,h63,rfl,rfl,hs.to _ _,q72,q73,q74,q75⟩,ka.to [(4,.pointer (some ⟨b4,0,none⟩)),(5,.pointer (some ⟨b7,0,none⟩)),(17,.slice A ts.length cap),(18,.int .i64 (ts.length:Nat)),(19,.int .i64 ((k+1):Nat))] kR⟩
  omega
 have phb37:=oT hb37
 refine lB 35 hb37 ?_
 refine lN (CG.seq (cIT (CG.skipN (CG.seq (CG.block (cSL (lL hs [.m 36 34] (lX 37 AWx usx.length cWx 1 (i:Nat) i ((hs.f.2.2.1).ok oM) ?_))))))))
 obtain ⟨Arp,crp,erp,hcrp,hRrp⟩:=(hs.f.2.1).at_ i oM
 replace hs:=(hs.a_SlO hRrp)
 refine lHe 38 (usx.getD i undef) hs ((hs.f.2.2.2.1).el i oM) erp ?_
 refine lL hs [.m 10 36,.m 11 38] (lNS (lL hs [.m 40 11,.v 41 (.pointer (some ⟨b7,2,none⟩)),.o 42 (.slice Ax ((outq ls xs k).length) cx) 3 2 1] (lC 43 hs (fDotN Arp crp ((ls.getD k lay0).W.getD i []) Ax cx (outq ls xs k) (outq ls xs k).length _ _ rfl rfl (by rw[mtx.row i oM,hlx]) rfl 1000000 1000000 oM (dot_b1 (show (outq ls xs k).length≤20 by omega)) (hB.w k i) (hB.x k oM) _ _ hs.g (hs.f.1) (hs.f.2.2.2.2.2.2.1) (hs.f.2.2.2.2.2.2.2.1)) ?_)))
 rintro _ w76 h77 hs rfl
 have hdt:LQ 41000000 (dotq ((ls.getD k lay0).W.getD i []) (outq ls xs k) (outq ls xs k).length):=(LQ.dot (n:=(outq ls xs k).length) (fun j _=>hB.w k i j) (fun j _=>hB.x k oM j) _ (Nat.le_refl _)).mono (dot_b2 (show (outq ls xs k).length≤20 by omega))
 refine lL hs [.m 39 43,.v 44 (qv (dotq ((ls.getD k lay0).W.getD i []) (outq ls xs k) (outq ls xs k).length)),.v 45 (.bool true)] (lA 12 73 ([.bool false,.int .u64 0,.string ⟨#[]⟩,.int .u64 0,.string ⟨#[]⟩]) hs (fun b78 w79 h80 hs=>?_))
 refine lP 0 0 (qc (dotq ((ls.getD k lay0).W.getD i []) (outq ls xs k) (outq ls xs k).length)) hs (fun w81 hs=>?_)
 refine lL hs [.m 13 45] (lN (CG.seq (cR 9 [] mixed hs al_nil ?_)))
 refine eV 0 46 (.slice (some ⟨b26,0,none⟩) usx.length usx.length) ?_
 refine eV 1 47 (.int .i64 (i:Nat)) ?_
 refine eO 2 48 [(0,0,5)] (qv (dotq ((ls.getD k lay0).W.getD i []) (outq ls xs k) (outq ls xs k).length)) hs ?_
 refine eV 3 49 (.pointer (some ⟨b22,2,none⟩)) ?_
 refine eO 4 50 [(3,2,1)] (.slice ABx ((ls.getD k lay0).B.length) cBx) hs ?_
 refine eV 5 51 (.int .i64 (i:Nat)) ?_
 refine eX 6 52 ABx ((ls.getD k lay0).B.length) cBx 5 (i:Nat) i ((hs.f.2.1).ok oM) ?_
 refine eH 7 53 (qv (((ls.getD k lay0).B).getD i 0)) hs ((hs.f.2.1).el i oM) ?_
 have hq82:=LQ.add hdt (hB.b k i)
 refine eC 8 54 hs (fun _ _ hs=>fAdd (dotq ((ls.getD k lay0).W.getD i []) (outq ls xs k) (outq ls xs k).length) (((ls.getD k lay0).B).getD i 0) (LQ.mono hdt oM) (LQ.mono (hB.b k i) oM) _ _ hs.g (hs.f.2.2.2.2.2.2.2.1)) ?_
 rintro _ _ _ w83 h84 hs rfl
 refine eD0 hs (fun w85 h86 hs=>?_)
 refine tX 9 55 (some ⟨b26,0,none⟩) usx.length usx.length 5 (i:Nat) i rfl ?_
 refine tW 10 2 ql qc 5 i ((dotq ((ls.getD k lay0).W.getD i []) (outq ls xs k) (outq ls xs k).length)+(((ls.getD k lay0).B).getD i 0)) hs oM (fun w87 hs=>?_)
 have hl88:((ql).set i ((dotq ((ls.getD k lay0).W.getD i []) (outq ls xs k) (outq ls xs k).length)+(((ls.getD k lay0).B).getD i 0))).length=usx.length:=by rw[List.length_set];exact hlq
 replace hs:=hs.to [⟨b78,73,qc (dotq ((ls.getD k lay0).W.getD i []) (outq ls xs k) (outq ls xs k).length)⟩,⟨b30,73,(pl).flatMap qc⟩,⟨b26,73,((ql).set i ((dotq ((ls.getD k lay0).W.getD i []) (outq ls xs k) (outq ls xs k).length)+(((ls.getD k lay0).B).getD i 0))).flatMap qc⟩,⟨b22,77,[.int .i64 ((ls.getD k lay0).k),.slice AWx usx.length cWx,.slice ABx ((ls.getD k lay0).B.length) cBx]⟩,⟨b7,165,[.slice s1A ((l1).length) s1c,.slice s2A ((l2).length) s2c,.slice Ax ((outq ls xs k).length) cx]⟩,⟨b4,165,[.slice none 0 0,.slice none 0 0,.slice none 0 0]⟩,⟨b1,28,[.slice A ts.length cap]⟩] [⟨75,1,s1A,s1c,(l1).length,(l1).flatMap vc⟩,⟨75,1,s2A,s2c,(l2).length,(l2).flatMap vc⟩]
 refine tN (cR 9 [] mixed hs al_nil ?_)
 refine eV 0 56 (.slice (some ⟨b30,0,none⟩) usx.length usx.length) ?_
 refine eV 1 57 (.int .i64 (i:Nat)) ?_
 refine eV 2 58 (.pointer (some ⟨b22,0,none⟩)) ?_
 refine eO 3 59 [(3,0,1)] (.int .i64 ((ls.getD k lay0).k)) hs ?_
 refine eV 4 60 (.slice (some ⟨b26,0,none⟩) usx.length usx.length) ?_
 refine eV 5 61 (.int .i64 (i:Nat)) ?_
 refine eX 6 62 (some ⟨b26,0,none⟩) usx.length usx.length 5 (i:Nat) i rfl ?_
 refine eQ 7 63 2 ((ql).set i ((dotq ((ls.getD k lay0).W.getD i []) (outq ls xs k) (outq ls xs k).length)+(((ls.getD k lay0).B).getD i 0))) qc 5 0 i (qv (((ql).set i ((dotq ((ls.getD k lay0).W.getD i []) (outq ls xs k) (outq ls xs k).length)+(((ls.getD k lay0).B).getD i 0))).getD i 0)) hs oM ?_
 refine eC 8 64 hs (fun _ _ hs=>nAct _ kdx (((ql).set i ((dotq ((ls.getD k lay0).W.getD i []) (outq ls xs k) (outq ls xs k).length)+(((ls.getD k lay0).B).getD i 0))).getD i 0) (by rw[getD_set_self oM];exact LQ.mono (LQ.add hdt (hB.b k i)) oM) _ _ hs.g (hs.f.2.2.2.2.2.2.2.1)) ?_
 rintro _ _ _ w89 h90 hs rfl
 refine eD0 hs (fun w91 h92 hs=>?_)
 refine tX 9 65 (some ⟨b30,0,none⟩) usx.length usx.length 5 (i:Nat) i rfl ?_
 refine tW 10 1 pl qc 5 i (act (ls.getD k lay0).k (((ql).set i ((dotq ((ls.getD k lay0).W.getD i []) (outq ls xs k) (outq ls xs k).length)+(((ls.getD k lay0).B).getD i 0))).getD i 0)) hs oM (fun w93 hs=>?_)
 have hl94:((pl).set i (act (ls.getD k lay0).k (((ql).set i ((dotq ((ls.getD k lay0).W.getD i []) (outq ls xs k) (outq ls xs k).length)+(((ls.getD k lay0).B).getD i 0))).getD i 0))).length=usx.length:=by rw[List.length_set];exact hlp
 replace hs:=hs.to [⟨b78,73,qc (dotq ((ls.getD k lay0).W.getD i []) (outq ls xs k) (outq ls xs k).length)⟩,⟨b30,73,((pl).set i (act (ls.getD k lay0).k (((ql).set i ((dotq ((ls.getD k lay0).W.getD i []) (outq ls xs k) (outq ls xs k).length)+(((ls.getD k lay0).B).getD i 0))).getD i 0))).flatMap qc⟩,⟨b26,73,((ql).set i ((dotq ((ls.getD k lay0).W.getD i []) (outq ls xs k) (outq ls xs k).length)+(((ls.getD k lay0).B).getD i 0))).flatMap qc⟩,⟨b22,77,[.int .i64 ((ls.getD k lay0).k),.slice AWx usx.length cWx,.slice ABx ((ls.getD k lay0).B.length) cBx]⟩,⟨b7,165,[.slice s1A ((l1).length) s1c,.slice s2A ((l2).length) s2c,.slice Ax ((outq ls xs k).length) cx]⟩,⟨b4,165,[.slice none 0 0,.slice none 0 0,.slice none 0 0]⟩,⟨b1,28,[.slice A ts.length cap]⟩] [⟨75,1,s1A,s1c,(l1).length,(l1).flatMap vc⟩,⟨75,1,s2A,s2c,(l2).length,(l2).flatMap vc⟩]
 refine tN (cTo [(4,.pointer (some ⟨b4,0,none⟩)),(5,.pointer (some ⟨b7,0,none⟩)),(17,.slice A ts.length cap),(18,.int .i64 (ts.length:Nat)),(19,.int .i64 (k:Nat)),(7,.pointer (some ⟨b22,0,none⟩)),(8,.slice (some ⟨b26,0,none⟩) usx.length usx.length),(9,.slice (some ⟨b30,0,none⟩) usx.length usx.length),(32,.slice AWx usx.length cWx),(33,.int .i64 (usx.length:Nat)),(34,.int .i64 (i:Nat))] ?_)
 refine CG.listed (lIn 66 ((i:Nat)+1) (i+1) ?_)
 refine lL hs [.m 34 66] (lD ?_)
 intro a_ ka
 have q95:(i+1)≤usx.length:=by omega
 have q96:((ql).set i ((dotq ((ls.getD k lay0).W.getD i []) (outq ls xs k) (outq ls xs k).length)+(((ls.getD k lay0).B).getD i 0))).length=usx.length:=hl88
 have q97:((pl).set i (act (ls.getD k lay0).k (((ql).set i ((dotq ((ls.getD k lay0).W.getD i []) (outq ls xs k) (outq ls xs k).length)+(((ls.getD k lay0).B).getD i 0))).getD i 0))).length=usx.length:=hl94
 have q98:∀ j,j<(i+1)→((ql).set i ((dotq ((ls.getD k lay0).W.getD i []) (outq ls xs k) (outq ls xs k).length)+(((ls.getD k lay0).B).getD i 0))).getD j 0=dotq ((ls.getD k lay0).W.getD j []) (outq ls xs k) (outq ls xs k).length+(ls.getD k lay0).B.getD j 0:=(fstep hq oM rfl)
 have q99:∀ j,j<(i+1)→((pl).set i (act (ls.getD k lay0).k (((ql).set i ((dotq ((ls.getD k lay0).W.getD i []) (outq ls xs k) (outq ls xs k).length)+(((ls.getD k lay0).B).getD i 0))).getD i 0))).getD j 0=act (ls.getD k lay0).k (dotq ((ls.getD k lay0).W.getD j []) (outq ls xs k) (outq ls xs k).length+(ls.getD k lay0).B.getD j 0):=(fstep hp oM (congrArg _ (getD_set_self oM)))
 replace hs:=hs.tl
 replace hs:=hs.drop 1 0
 refine ⟨_,_,?_,⟨i+1,(ql).set i ((dotq ((ls.getD k lay0).W.getD i []) (outq ls xs k) (outq ls xs k).length)+(((ls.getD k lay0).B).getD i 0)),(pl).set i (act (ls.getD k lay0).k (((ql).set i ((dotq ((ls.getD k lay0).W.getD i []) (outq ls xs k) (outq ls xs k).length)+(((ls.getD k lay0).B).getD i 0))).getD i 0)),h92,rfl,rfl,hs.to _ _,q95,q96,q97,q98,q99⟩,ka.to [(4,.pointer (some ⟨b4,0,none⟩)),(5,.pointer (some ⟨b7,0,none⟩)),(17,.slice A ts.length cap),(18,.int .i64 (ts.length:Nat)),(19,.int .i64 (k:Nat)),(7,.pointer (some ⟨b22,0,none⟩)),(8,.slice (some ⟨b26,0,none⟩) usx.length usx.length),(9,.slice (some ⟨b30,0,none⟩) usx.length usx.length),(32,.slice AWx usx.length cWx),(33,.int .i64 (usx.length:Nat)),(34,.int .i64 ((i+1):Nat))] kR⟩
 omega
noncomputable def drawRow (dr:Nat→Nat × Nat)(half s:Nat):Nat→List Rat × Nat
  | 0=>([],s)
  | c+1=>((drawRow dr half s c).1++[mkR (((dr (drawRow dr half s c).2).1:Int)-(half:Int)) (half:Int)],(dr (drawRow dr half s c).2).2)
noncomputable def drawMat (dr:Nat→Nat × Nat)(half c s:Nat):Nat→List (List Rat) × Nat
  | 0=>([],s)
  | r+1=>((drawMat dr half c s r).1++[(drawRow dr half (drawMat dr half c s r).2 c).1],(drawRow dr half (drawMat dr half c s r).2 c).2)
noncomputable def drawLays (dr:Nat→Nat × Nat)(S:List Nat)(kind:Int)(half s:Nat):Nat→List Lay × Nat
  | 0=>([],s)
  | k+1=>((drawLays dr S kind half s k).1++[⟨if k+2=S.length then 1 else kind,(drawMat dr half (S.getD k 0) (drawLays dr S kind half s k).2 (S.getD (k+1) 0)).1,List.replicate (S.getD (k+1) 0) 0⟩],(drawMat dr half (S.getD k 0) (drawLays dr S kind half s k).2 (S.getD (k+1) 0)).2)
section dr
variable {dr:Nat→Nat × Nat} {half c s M:Nat} {S:List Nat} {kind:Int}
theorem drawRow_len (c:Nat):(drawRow dr half s c).1.length=c:=by
  induction c with
  | zero=>rfl
  | succ c ih=>simp[drawRow,ih]
theorem drawMat_len (r:Nat):(drawMat dr half c s r).1.length=r:=by
  induction r with
  | zero=>rfl
  | succ r ih=>simp[drawMat,ih]
theorem drawLays_len (k:Nat):(drawLays dr S kind half s k).1.length=k:=by
  induction k with
  | zero=>rfl
  | succ k ih=>simp[drawLays,ih]
theorem drawRow_lt (hd:∀ s,s<M→(dr s).2<M)(h:s<M)(c:Nat):(drawRow dr half s c).2<M:=by
  induction c with
  | zero=>exact h
  | succ c ih=>rw[drawRow];exact hd _ ih
theorem drawMat_lt (hd:∀ s,s<M→(dr s).2<M)(h:s<M)(r:Nat):(drawMat dr half c s r).2<M:=by
  induction r with
  | zero=>exact h
  | succ r ih=>rw[drawMat];exact drawRow_lt hd ih c
theorem drawLays_lt (hd:∀ s,s<M→(dr s).2<M)(h:s<M)(k:Nat):(drawLays dr S kind half s k).2<M:=by
  induction k with
  | zero=>exact h
  | succ k ih=>rw[drawLays];exact drawMat_lt hd ih _
end dr
structure SzOk (S:List Nat):Prop where
  l2:2≤S.length
  l5:S.length≤5
  f:1≤S.getD 0 0∧S.getD 0 0≤20
  r:∀ i,0<i→i<S.length→1≤S.getD i 0∧S.getD i 0≤12
structure MakeP (S:List Nat) (kd bt E:Int):Prop where
  e5:¬SzOk S→E=5
  e10:SzOk S→¬(1≤kd∧kd≤3)→E=10
  e1:SzOk S→1≤kd∧kd≤3→¬(0≤bt∧bt≤16)→E=1
  e0:SzOk S→1≤kd∧kd≤3→0≤bt∧bt≤16→E=0
theorem MakeP.uniq {S:List Nat}{kd bt E E':Int}(a:MakeP S kd bt E)(b:MakeP S kd bt E'):E=E':=by
  by_cases h:SzOk S
  · by_cases h1:1≤kd∧kd≤3
    · by_cases h2:0≤bt∧bt≤16
      · rw[a.e0 h h1 h2,b.e0 h h1 h2]
      · rw[a.e1 h h1 h2,b.e1 h h1 h2]
    · rw[a.e10 h h1,b.e10 h h1]
  · rw[a.e5 h,b.e5 h]
theorem mkp5 {S:List Nat}{kd bt:Int}(h:¬SzOk S):MakeP S kd bt 5:=⟨fun _=>rfl,fun x=>absurd x h,fun x=>absurd x h,fun x=>absurd x h⟩
theorem mkp10 {S:List Nat}{kd bt:Int}(h:SzOk S)(k:¬(1≤kd∧kd≤3)):MakeP S kd bt 10:=⟨fun x=>absurd h x,fun _ _=>rfl,fun _ x=>absurd x k,fun _ x=>absurd x k⟩
theorem mkp1 {S:List Nat}{kd bt:Int}(h:SzOk S)(k:1≤kd∧kd≤3)(b:¬(0≤bt∧bt≤16)):MakeP S kd bt 1:=⟨fun x=>absurd h x,fun _ x=>absurd k x,fun _ _ _=>rfl,fun _ _ x=>absurd x b⟩
theorem mkp0 {S:List Nat}{kd bt:Int}(h:SzOk S)(k:1≤kd∧kd≤3)(b:0≤bt∧bt≤16):MakeP S kd bt 0:=⟨fun x=>absurd h x,fun _ x=>absurd k x,fun _ _ x=>absurd b x,fun _ _ _=>rfl⟩
theorem getD_drop1 {α:Type}{l:List α}{d:α}(i:Nat):(l.drop 1).getD i d=l.getD (i+1) d:=by simp[List.getD_eq_getElem?_getD,Nat.add_comm]
theorem take_set_succ {l:List Rat}{c:Nat}(h:c<l.length)(x:Rat):(l.set c x).take (c+1)=l.take c++[x]:=by
  rw[take_snoc' 0 (by rw[List.length_set];exact h),List.getD_eq_getElem?_getD,List.getElem?_set_self h,List.take_set_of_le (Nat.le_refl _)];rfl
def QVk (h:Hp)(us:List Value)(W:List (List Rat)):Prop:=∀ j,j<W.length→∃ A c,us.getD j undef=.slice A (W.getD j []).length c∧(W.getD j []).length≤c∧SlO 5 qc 0 h A (W.getD j [])
theorem QVk.gw {h h':Hp}{us:List Value}{W:List (List Rat)}(x:QVk h us W)(u:Gw h h'):QVk h' us W:=fun j hj=>by
  obtain ⟨A,c,e,hc,so⟩:=x j hj
  exact ⟨A,c,e,hc,so.gw u⟩
theorem QVk.nil {h:Hp}{us:List Value}:QVk h us []:=fun j hj=>by simp at hj
theorem QVk.snoc {h:Hp}{us:List Value}{W:List (List Rat)}{v:Value}{l:List Rat}{i:Nat}(x:QVk h us W)(hi:W.length=i)(hl:i<us.length)(hv:∃ A c,v=.slice A l.length c∧l.length≤c∧SlO 5 qc 0 h A l):QVk h (us.set i v) (W++[l]):=by
  subst hi
  intro j hj
  rw[List.length_append,List.length_singleton] at hj
  rw[getD_snoc]
  by_cases e:j=W.length
  · subst e
    rw[if_neg oM,if_pos rfl,List.getD_eq_getElem?_getD,List.getElem?_set_self hl]
    exact hv
  · rw[if_pos oM,List.getD_eq_getElem?_getD,List.getElem?_set_ne (Ne.symm e),←List.getD_eq_getElem?_getD]
    exact x j oM
theorem QVk.qvs {h:Hp}{us:List Value}{W:List (List Rat)}(x:QVk h us W)(hl:us.length=W.length):QVs h us W:=⟨hl,x⟩
theorem getD_set_v {l:List Value}{i:Nat}{x:Value}(h:i<l.length):(l.set i x).getD i undef=x:=by
  rw[List.getD_eq_getElem?_getD,List.getElem?_set_self h];rfl
structure Dif (M:List Nat) (w w0:World):Prop where
  mo:Mo M w w0
  sz:w0.heap.size=w.heap.size
theorem Dif.refl (M:List Nat)(w:World):Dif M w w:=⟨Mo.refl M w,rfl⟩
section frn
variable {w0 w w' wi:World} {h0 h h':Hp} {B:List Bx} {R:List Rw} {F:List (Hp→Prop)} {M:List Nat}
theorem own_ge {base:Nat}{ty:TypeId}{sz n:Nat}{v:Value}{cs:List Value}(o:w.ownsRow base ty sz v n cs){b:Nat}(hb:v.ownBlock=some b):base≤b:=by
  rcases o with ⟨_,⟨rfl,_⟩|⟨g,cap,cur,rfl,hbb,_⟩⟩
  · simp[Value.ownBlock] at hb
  · simp[Value.ownBlock] at hb;omega
theorem SS.frn (s:SS w0 h0 w h B R F)(hd:Dif M wi w0)(hM:∀ c∈M,h0[c]?=some junk)(u:UpM M w h w' h') :
    ∃ w0',Dif M wi w0'∧(∀ c,c<h0.size→w0'.heap[c]?=w'.heap[c]?)∧SS w0' h0 w' h' B R F:=by
  have hsz:w0.heap.size≤w'.heap.size:=Nat.le_trans s.st.up.ext.size u.mo.size
  have hs0:=s.g0.size
  have hlt:∀ c∈M,c<h0.size:=fun c hc=>lt_of_some (hM c hc)
  have hget:∀ c,c<w0.heap.size→(w'.heap.extract 0 w0.heap.size)[c]?=w'.heap[c]?:=fun c hc=>by
    rw[Array.getElem?_extract,if_pos oM];simp
  have hsame:∀ c,c<w0.heap.size→c ∉ M→w'.heap[c]?=w0.heap[c]?:=fun c hc hn=>(u.mo.blk c (Nat.lt_of_lt_of_le hc s.st.up.ext.size) hn).trans (Below.block s.st.up.ext c hc)
  have hx:(w'.heap.extract 0 w0.heap.size).size=w0.heap.size:=by simp;omega
  refine ⟨{ w0 with heap:=w'.heap.extract 0 w0.heap.size },⟨⟨hd.mo.os,hd.mo.tape,hd.mo.output,by show _≤(w'.heap.extract 0 w0.heap.size).size;rw[hx];exact hd.mo.size,fun c hc hn=>?_⟩,hx.trans hd.sz⟩,fun c hc=>hget c oM,⟨⟨hx.trans hs0,fun c=>?_⟩,⟨⟨⟨?_,?_,?_,?_,fun c hc=>?_⟩,s.st.up.gr.trans u.gr,u.g⟩,fun x hx'=>?_,fun x hx'=>?_,s.st.lo,s.st.nd⟩,fun r hr=>?_,s.ap,s.mo,s.f.gw s.mo u.gr.gw⟩⟩
  · have hc0:c<w0.heap.size:=Nat.lt_of_lt_of_le hc hd.mo.size
    show (w'.heap.extract 0 w0.heap.size)[c]?=_
    rw[hget c hc0,hsame c hc0 hn];exact hd.mo.blk c hc hn
  · show h0[c]?=(w'.heap.extract 0 w0.heap.size)[c]?∨_
    by_cases hm:c∈M
    · exact .inr (hM c hm)
    · by_cases hc:c<w0.heap.size
      · rw[hget c hc,hsame c hc hm];exact s.g0.blk c
      · rw[Array.getElem?_eq_none oM,Array.getElem?_eq_none (by rw[hx];omega)];exact .inl rfl
  · exact u.mo.os.trans s.st.up.ext.os
  · exact u.mo.tape.trans s.st.up.ext.tape
  · exact u.mo.output.trans s.st.up.ext.output
  · show (w'.heap.extract 0 w0.heap.size).size≤_;rw[hx];exact hsz
  · have hc':c<w0.heap.size:=by rw[←hx];exact hc
    exact (hget c hc').symm
  · have hlo:=s.st.lo x hx'
    show w'.heap[x.b]?=_
    rw[u.mo.blk x.b (s.st.own x hx').lt (fun hm=>by have:=hlt _ hm;omega)]
    exact s.st.own x hx'
  · rw[u.gr.blk _ (lt_of_some (s.st.jk x hx'))];exact s.st.jk x hx'
  · have r0:=s.ro r hr
    exact ⟨own_block r0.own (fun c hc=>u.mo.blk c (own_lt r0.own hc) (fun hm=>by have h1:=hlt _ hm;have h2:=own_ge r0.own hc;omega)),fun c hc=>(u.gr.blk c (r0.lt hc)).trans (r0.jk c hc),r0.ap⟩
theorem SS.upF (s:SS w0 h0 w h B R F)(hd:Dif M wi w0):UpM M wi h0 w h:=⟨hd.mo.trans (s.st.up.ext.mo M),s.st.up.gr,s.st.up.g⟩
theorem SS.fown (s:SS w0 h0 w h B R F){b:Nat}{t:TypeId}{vs:List Value}(o:Own w0 b t vs):Own w b t vs:=o.ext s.st.up.ext
theorem SS.fjk (s:SS w0 h0 w h B R F){b:Nat}(hj:h0[b]?=some junk):h[b]?=some junk:=(s.st.up.gr.blk _ (lt_of_some hj)).trans hj
theorem SS.frn_ne (s:SS w0 h0 w h B R F){b:Nat}(hj:h0[b]?=some junk)(j:Nat)(hj':decide (j<B.length)=true:=by kernel_rfl):(bxAt B j).b ∉ [b]:=fun hm=>by
  have:=s.st.lo _ (bxAt_mem (oT hj'))
  have:=lt_of_some hj
  have:=List.mem_singleton.1 hm
  omega
theorem one_jk {b:Nat}(hj:h0[b]?=some junk):∀ c∈[b],h0[c]?=some junk:=fun c hc=>by rw[List.mem_singleton.1 hc];exact hj
end frn
section get
variable {P:Program} {n:Nat} {N R:Po} {X:Nat→Po} {ops:Array Oper} {k:Nat} {Γ:Env} {w:World} {h:Hp} {w0:World} {h0:Hp} {B:List Bx} {Rs:List Rw} {F:List (Hp→Prop)}
theorem lQe {α:Type}(t j:Nat)(l:List α)(f:α→List Value)(sz:Nat)(d:α)(e:Nat)(u v:Value)(s:SS w0 h0 w h B Rs F)(hk:e<l.length)(hv:u=v)(H:LG P n N R X ops (k+1) ((t,v)::Γ) w)(hc:cL ops Γ k t n=true:=by kernel_rfl)
    (hj:decide (j<B.length)=true:=by kernel_rfl)(hB:(bxAt B j).vs=l.flatMap f:=by kernel_rfl)(hf:∀ x,(f x).length=sz:=by intro _;rfl)
    (he:evalL P (execOp (ev Γ) (opAt ops k)) (f (l.getD e d))=some (.value u,mka (bxAt B j).b (0+e*sz) (f (l.getD e d)).length):=by kernel_rfl):LG P n N R X ops k Γ w:=by
  subst hv
  exact lQ t j l f sz d e u s hk H hc hj hB hf he
end get
section gete
variable {M:Ms} {P:Program} {n:Nat} {N R:Po} {X:Nat→Po} {ops:Array Oper} {k0:Nat} {hr:Hp} {AL:List Al} {L:Array Bool} {Γ:Env} {w:World} {h:Hp} {w0:World} {h0:Hp} {B:List Bx} {Rs:List Rw} {F:List (Hp→Prop)}
theorem eQe {α:Type}(i t j:Nat)(l:List α)(f:α→List Value)(sz:Nat)(d:α)(e:Nat)(u v:Value)(s:SS w0 h0 w h B Rs F)(hk:e<l.length)(hv:u=v)(H:EG M P n N R X ops k0 hr AL (L.setIfInBounds i true) ((t,v)::Γ) w h)(hM:(bxAt B j).b ∉ M.l:=by exact List.not_mem_nil)(hc:cEl n ops k0 AL L Γ i t=true:=by kernel_rfl)
    (hj:decide (j<B.length)=true:=by kernel_rfl)(hB:(bxAt B j).vs=l.flatMap f:=by kernel_rfl)(hf:∀ x,(f x).length=sz:=by intro _;rfl)
    (he:evalL P (execOp (ev Γ) (opAt ops i)) (f (l.getD e d))=some (.value u,mka (bxAt B j).b (0+e*sz) (f (l.getD e d)).length):=by kernel_rfl):EG M P n N R X ops k0 hr AL L Γ w h:=by
  subst hv
  exact eQ i t j l f sz d e u s hk H hM hc hj hB hf he
end gete
section ops
variable {P:Program} {Γ:Env} {o:Oper}
theorem opShlI {t u:TypeId}{x y:Operand}{ky:IntKind}{b:Int}{m:Nat}(n:Nat)(ho:o.op=.binOp .shl t x y u)(hx:ev Γ x=.int .i64 1)(hy:ev Γ y=.int ky b)(hb:b=(n:Int))(hn:n≤16)(hm:m=2^n)(w:World) :
    (execOp (ev Γ) o).run P w=.ok (.value (.int .i64 (m:Nat))) w:=by
  subst hb
  have e:=opShl (P:=P) ho hx hy (show n≤IntKind.bits .i64 by show n≤64;omega) w
  have h1:((1:Int)*2^n)=(m:Nat):=by rw[Int.one_mul,hm,Int.natCast_pow];rfl
  have h2:2^n≤2^16:=Nat.pow_le_pow_right kD hn
  rw[h1,wr64 oM oM] at e
  exact e
theorem opIdxN {tx te:TypeId}{x i:Operand}{len:Nat}{l:List Nat}(n:Nat)(ho:o.op=.index tx x i)(hx:ev Γ x=.agg (l.map fun n:Nat=>Value.int .i64 (n:Int)).toArray)(hi:ev Γ i=.int .i64 (n:Nat))(hu:P.underlying tx=some (.array len te))(hn:n<len)(hl:l.length=len)
    (hp:∀ w,(Instr.index tx (.agg (l.map fun n:Nat=>Value.int .i64 (n:Int)).toArray) (.int .i64 (n:Nat))).run P w=.ok (.int .i64 (l.getD n 0:Nat)) w)(w:World) :
    (execOp (ev Γ) o).run P w=.ok (.value (.int .i64 (l.getD n 0:Nat))) w:=by
  unfold execOp;simp only[ho];rw[hx,hi]
  simp[hp,Result.andThen]
end ops
section laws
variable {M:Ms} {P:Program} {ops:Array Oper} {Q:Exit→Act→World→Prop} {k0:Nat}
theorem E.event2 {h0:Hp}{AL:List Al}{L:Array Bool}{a:Act}{w:World}{h:Hp}{i:Nat}{o:Oper}{i2:Nat}{o2:Oper}
    (hi:ops[i]?=some o)(hi2:ops[i2]?=some o2)(hk:i<k0)(hk2:i2<k0)(hsel:Region.noSelect ops=true)(hun:L.getD i true=false)
    (only:∀ j oj,ops[j]?=some oj→L.getD j true=false→j≠i→j≠i2→(∀ x∈AL,x.i≠j)→∃ e∈oj.after,Region.binds .any e=true∧L.getD e.on false=false∧∀ x∈AL,x.i≠e.on)
    (hdep:∀ e∈o.after,Region.binds .any e=true→L.getD e.on false=true)
    (hal:∀ x∈AL,x.i≠i∧x.t ∉ o.looksAt ops∧o.dst≠some x.t)(hal2:∀ x∈AL,x.i≠i2∧x.t ∉ o2.looksAt ops∧o2.dst≠some x.t)(oks:∀ x∈AL,AlOk P ops k0 x)(hM:∀ b∈M.l,b<h0.size)(g:G w h)(hsz:h0.size≤h.size)
    (H:∀ w' h',Up w h w' h'→OpR P ops o a w' (fun v w''=>∃ h'',UpM M.l w' h' w'' h''∧E M P ops Q k0 h0 AL (L.setIfInBounds i true) (a.put o.dst v) w'' h''))
    (H2:∀ w' h',Up w h w' h'→OpR P ops o2 a w' (fun v w''=>∃ h'',UpM M.l w' h' w'' h''∧E M P ops Q k0 h0 AL (L.setIfInBounds i2 true) (a.put o2.dst v) w'' h'')):E M P ops Q k0 h0 AL L a w h:=by
  have key:∀ (m:Nat) (T:List Al),T.length=m→∀ w' h',Up w h w' h'→∀ (S:List SA),(S.map (·.1)++T).Perm AL→(∀ s∈S,Blk h0 w' h' s)→(S.map (·.2)).Nodup →
      A M P ops Q k0 (addL L S) (addA a S) w':=by
    intro m
    induction m using Nat.strongRecOn with
    | _ m ih =>
      intro T hT w' h' u S hp hb hn
      have hS':∀ s∈S,s.1.i≠i∧s.1.t ∉ o.looksAt ops∧o.dst≠some s.1.t:=fun s hs=>hal _ (mem_perm hp hs)
      have hS2:∀ s∈S,s.1.i≠i2∧s.1.t ∉ o2.looksAt ops∧o2.dst≠some s.1.t:=fun s hs=>hal2 _ (mem_perm hp hs)
      refine A.intro (fun h0'=>?_) (fun j hj=>?_)
      · exfalso
        have:i∈Region.ready .any ops (addL L S):=mem_ready.2 ⟨by rw[addL_ne true (fun s hs=>(hS' s hs).1)];exact hun,o,hi,fun e he hbd=>addL_true (hdep e he hbd)⟩
        rw[h0'] at this
        cases this
      · by_cases hji:j=i
        · subst hji
          refine OpR.wpOp hi ((H w' h' u).addA (Region.noSelect_spec hsel j o · · hi) S (fun s hs=>(hS' s hs).2.1)) ?_
          rintro v w'' ⟨h'',u2,H3⟩
          refine ⟨Rl.mo hk u2.mo,?_⟩
          rw[←addL_set L S j (fun s hs=>(hS' s hs).1),←addA_put a S o.dst v (fun s hs=>(hS' s hs).2.2)]
          exact H3 w'' h'' (Up.refl u2.g) S T hp (fun s hs=>(hb s hs).up u2 hM) hn
        · by_cases hj2:j=i2
          · subst hj2
            refine OpR.wpOp hi2 ((H2 w' h' u).addA (Region.noSelect_spec hsel j o2 · · hi2) S (fun s hs=>(hS2 s hs).2.1)) ?_
            rintro v w'' ⟨h'',u2,H3⟩
            refine ⟨Rl.mo hk2 u2.mo,?_⟩
            rw[←addL_set L S j (fun s hs=>(hS2 s hs).1),←addA_put a S o2.dst v (fun s hs=>(hS2 s hs).2.2)]
            exact H3 w'' h'' (Up.refl u2.g) S T hp (fun s hs=>(hb s hs).up u2 hM) hn
          · obtain ⟨hjun,oj,hoj,hall⟩:=mem_ready.1 hj
            have hx:∃ x∈AL,x.i=j:=by
              refine Classical.byContradiction fun hno=>?_
              obtain ⟨e,he,hbd,hf,hne⟩:=only j oj hoj (addL_getD hjun) hji hj2 (fun x hx he=>hno ⟨x,hx,he⟩)
              have:=hall e he hbd
              rw[addL_ne false (fun s hs=>hne _ (mem_perm hp hs)),hf] at this
              cases this
            obtain ⟨x,hxA,rfl⟩:=hx
            have hxT:=al_of_ready hp hxA hj
            exact E_alloc oks hM u.g (Nat.le_trans hsz u.gr.size) hp hb hn hxT (fun w1 h1 S1 T1 u1 hp1 hb1 hn1 hlt=>ih T1.length oM T1 rfl w1 h1 (u.trans u1) S1 hp1 hb1 hn1)
  exact fun w' h' u S T hp hb hn=>key _ T rfl w' h' u S hp hb hn
end laws
section steps
variable {M:Ms} {P:Program} {n:Nat} {N R:Po} {X:Nat→Po} {ops:Array Oper} {k0:Nat} {hr:Hp} {AL:List Al} {L:Array Bool} {Γ:Env} {w:World} {h:Hp}
def chkEv2 (n:Nat)(ops:Array Oper)(k0:Nat)(AL:List Al)(L:Array Bool)(Γ:Env)(i t i2 t2:Nat):Bool :=
  decide (i<ops.size) && decide (i2<ops.size) && decide (i<k0) && decide (i2<k0) && Region.noSelect ops && (L.getD i true == false) &&
  ((List.range ops.size).all fun j=>L.getD j true || j == i || j == i2 || AL.any (·.i == j) || (opAt ops j).after.any fun e=>Region.binds .any e && (L.getD e.on false == false) && AL.all (·.i != e.on)) &&
  ((opAt ops i).after.all fun e=>!Region.binds .any e || L.getD e.on false) &&
  chkAL ops AL i (opAt ops i) && chkAL ops AL i2 (opAt ops i2) && ((opAt ops i).dst == some t) && decide (t<n) && ((opAt ops i2).dst == some t2) && decide (t2<n) && knownOp Γ (opAt ops i) && knownOp Γ (opAt ops i2) && (wantE ops Γ (opAt ops i) == some true) && (wantE ops Γ (opAt ops i2) == some true)
theorem Rg.two (i t i2 t2:Nat)(hc:chkEv2 n ops k0 AL L Γ i t i2 t2=true)
    (H:∀ w' h',Up w h w' h'→∃ v w'' h'',(execOp (ev Γ) (opAt ops i)).run P w'=.ok (.value v) w''∧UpM M.l w' h' w'' h''∧EG M P n N R X ops k0 hr AL (L.setIfInBounds i true) ((t,v)::Γ) w'' h'')
    (H2:∀ w' h',Up w h w' h'→∃ v w'' h'',(execOp (ev Γ) (opAt ops i2)).run P w'=.ok (.value v) w''∧UpM M.l w' h' w'' h''∧EG M P n N R X ops k0 hr AL (L.setIfInBounds i2 true) ((t2,v)::Γ) w'' h'') :
    EG M P n N R X ops k0 hr AL L Γ w h:=by
  unfold chkEv2 at hc
  simp only[Bool.and_eq_true,decide_eq_true_eq,beq_iff_eq] at hc
  obtain ⟨⟨⟨⟨⟨⟨⟨⟨⟨⟨⟨⟨⟨⟨⟨⟨⟨h1,h2⟩,h3⟩,h4⟩,h5⟩,h6⟩,h7⟩,h8⟩,h9⟩,h10⟩,h11⟩,h12⟩,h13⟩,h14⟩,h15⟩,h16⟩,h17⟩,h18⟩:=hc
  have hget:=opAt_get (ops:=ops) h1
  have hget2:=opAt_get (ops:=ops) h2
  intro oks hM g hsz a ka
  have e1:=ka.exec (Region.noSelect_spec h5 i _ · · hget) h15
  have e2:=ka.exec (Region.noSelect_spec h5 i2 _ · · hget2) h16
  refine E.event2 hget hget2 h3 h4 h5 h6 ?_ ?_ (chkAL_spec h9) (chkAL_spec h10) oks hM g hsz ?_ ?_
  · intro j oj hj hun hji hji2 hal
    have hlt:=(Array.getElem?_eq_some_iff.1 hj).1
    have e:oj=opAt ops j:=by have:=opAt_get (ops:=ops) hlt;rw[hj] at this;injection this
    have:=(List.all_eq_true.1 h7) j (List.mem_range.2 hlt)
    simp only[Bool.or_eq_true,hun,Bool.false_eq_true,false_or,beq_iff_eq,hji,hji2,List.any_eq_true,Array.any_eq_true,Bool.and_eq_true] at this
    rcases this with ⟨x,hx,hxe⟩|⟨x,hx,⟨hb,hL⟩,hno⟩
    · exact absurd hxe (hal x hx)
    · rw[e]
      refine ⟨_,Array.getElem_mem hx,hb,hL,fun y hy=>?_⟩
      have:=(List.all_eq_true.1 hno) y hy
      simpa using this
  · intro e he hb
    have:=(Array.all_eq_true_iff_forall_mem.1 h8) e he
    simpa [hb] using this
  · intro w' h' u
    obtain ⟨v,w'',h'',hrun,u2,k⟩:=H w' h' u
    refine ⟨ka.want h17,?_⟩
    rw[e1]
    refine .inl ⟨v,w'',hrun,h'',u2,?_⟩
    rw[h11]
    exact k oks hM u2.g (Nat.le_trans hsz (Nat.le_trans u.gr.size u2.gr.size)) _ (ka.put h12 v)
  · intro w' h' u
    obtain ⟨v,w'',h'',hrun,u2,k⟩:=H2 w' h' u
    refine ⟨ka.want h18,?_⟩
    rw[e2]
    refine .inl ⟨v,w'',hrun,h'',u2,?_⟩
    rw[h13]
    exact k oks hM u2.g (Nat.le_trans hsz (Nat.le_trans u.gr.size u2.gr.size)) _ (ka.put h14 v)
theorem EG.swap {t u:Nat}{x y:Value}(hne:(t == u)=false)(k:EG M P n N R X ops k0 hr AL L ((t,x)::(u,y)::Γ) w h):EG M P n N R X ops k0 hr AL L ((u,y)::(t,x)::Γ) w h :=
  fun oks hM g hsz a ka=>k oks hM g hsz a (ka.mono (fun s v hs=>by
    rw[List.lookup_cons,List.lookup_cons] at hs ⊢
    by_cases e:s=t
    · subst e
      rw[hne];simp at hs ⊢;exact hs
    · have e':(s == t)=false:=by simp[e]
      rw[e'] at hs ⊢
      exact hs))
variable {w0:World} {h0:Hp} {B:List Bx} {Rs:List Rw} {F:List (Hp→Prop)}
theorem eK2 {α β:Type}(i t ty m sz bt:Nat)(z:Value)(f:α→List Value)(x0:α)(i2 t2 ty2 m2 sz2 bt2:Nat)(z2:Value)(f2:β→List Value)(y0:β)(s:SS w0 h0 w h B Rs F)
    (H:∀ b c w' h',SS w0 h0 w' h' (⟨c,ty2,(List.replicate m2 y0).flatMap f2⟩::⟨b,ty,(List.replicate m x0).flatMap f⟩::B) Rs F→EG M P n N R X ops k0 hr AL ((L.setIfInBounds i true).setIfInBounds i2 true) ((t2,.slice (some ⟨c,0,none⟩) m2 m2)::(t,.slice (some ⟨b,0,none⟩) m m)::Γ) w' h')
    (hc:chkEv2 n ops k0 AL L Γ i t i2 t2=true:=by kernel_rfl)(hne:(i == i2)=false:=by kernel_rfl)(hnt:(t2 == t)=false:=by kernel_rfl)
    (hd:∀ b,cEv n ops k0 AL (L.setIfInBounds i true) ((t,.slice (some ⟨b,0,none⟩) m m)::Γ) i2 t2=true:=by intro _;kernel_rfl)(hd2:∀ c,cEv n ops k0 AL (L.setIfInBounds i2 true) ((t2,.slice (some ⟨c,0,none⟩) m2 m2)::Γ) i t=true:=by intro _;kernel_rfl)
    (he:mkE P (ev Γ) (opAt ops i)=some (.int .i64 (m:Int),.int .i64 (m:Int),ty,z,sz,bt):=by kernel_rfl)(he':∀ c,mkE P (ev ((t2,.slice (some ⟨c,0,none⟩) m2 m2)::Γ)) (opAt ops i)=some (.int .i64 (m:Int),.int .i64 (m:Int),ty,z,sz,bt):=by intro _;kernel_rfl)
    (he2:mkE P (ev Γ) (opAt ops i2)=some (.int .i64 (m2:Int),.int .i64 (m2:Int),ty2,z2,sz2,bt2):=by kernel_rfl)(he2':∀ b,mkE P (ev ((t,.slice (some ⟨b,0,none⟩) m m)::Γ)) (opAt ops i2)=some (.int .i64 (m2:Int),.int .i64 (m2:Int),ty2,z2,sz2,bt2):=by intro _;kernel_rfl)
    (hzc:z.cells.toList=f x0:=by kernel_rfl)(hzs:z.cells.size=sz:=by kernel_rfl)(hpos:0<sz:=by decide)(hm:bt*m≤140737488355328:=by omega)(hm2:m<9223372036854775808:=by omega)
    (hzc2:z2.cells.toList=f2 y0:=by kernel_rfl)(hzs2:z2.cells.size=sz2:=by kernel_rfl)(hpos2:0<sz2:=by decide)(hn:bt2*m2≤140737488355328:=by omega)(hn2:m2<9223372036854775808:=by omega):EG M P n N R X ops k0 hr AL L Γ w h:=by
  have hne':i≠i2:=by simpa using hne
  have new:∀ {w1:World} {h1:Hp} {ty:TypeId} {vs:List Value},SS w0 h0 w1 h1 B Rs F→Up w1 h1 (w1.alloc (.cells vs.toArray ty (0,0))) (h1.push junk)∧SS w0 h0 (w1.alloc (.cells vs.toArray ty (0,0))) (h1.push junk) (⟨w1.heap.size,ty,vs⟩::B) Rs F:=by
    intro w1 h1 ty vs s1
    have u2:Up w1 h1 (w1.alloc (.cells vs.toArray ty (0,0))) (h1.push junk):=Up.allocAny s1.g _ _ (.inr rfl)
    refine ⟨u2,s1.new u2 (by rw[s1.g.size];exact Nat.le_refl _) (St.new1 (x:=⟨0,0,.cells vs.toArray ty (0,0)⟩) s1.st (s1.st.step u2) ⟨?_,?_,?_⟩ ty _ rfl)⟩
    · rw[heap_alloc];exact Array.getElem?_push_size
    · rw[s1.g.size];exact Array.getElem?_push_size
    · show h1.size≤w1.heap.size;rw[s1.g.size];exact Nat.le_refl _
  refine Rg.two i t i2 t2 hc (fun w1 h1 u=>?_) (fun w1 h1 u=>?_)
  · obtain ⟨u2,s2⟩:=new (ty:=ty) (vs:=(List.replicate m x0).flatMap f) (s.step u)
    exact ⟨_,_,_,mkE_run he hzc hzs hpos hm hm2 w1,u2.m M.l,eK i2 t2 ty2 m2 sz2 bt2 z2 f2 y0 s2 (fun c w' h' hs=>H _ c w' h' hs) (hd _) (he2' _) hzc2 hzs2 hpos2 hn hn2⟩
  · obtain ⟨u2,s2⟩:=new (ty:=ty2) (vs:=(List.replicate m2 y0).flatMap f2) (s.step u)
    refine ⟨_,_,_,mkE_run he2 hzc2 hzs2 hpos2 hn hn2 w1,u2.m M.l,eK i t ty m sz bt z f x0 s2 (fun b w' h' hs=>?_) (hd2 _) (he' _) hzc hzs hpos hm hm2⟩
    rw[Array.setIfInBounds_comm _ _ (Ne.symm hne')]
    exact EG.swap hnt (H b _ w' h' (hs.perm (List.Perm.swap _ _ _)))
end steps
theorem RQ.eq {h:Hp}{v:Value}{p q:Rat}(x:RQ h v p)(e:p=q):RQ h v q:=by subst e;exact x
theorem chkFrom_ok {ls:List Lay}:∀ (n k:Nat),chkFrom ls k n=0→∀ i,k≤i→i<k+n→Fine ls i∧Kd ls i
  | 0,k,_,i,h1,h2=>absurd h2 oM
  | n + 1,k,h,i,h1,h2=>by
    unfold chkFrom at h
    split at h
    · rename_i hf
      split at h
      · rename_i hd
        by_cases e:i=k
        · subst e;exact ⟨hf,hd⟩
        · exact chkFrom_ok n (k+1) h i oM oM
      · exact absurd h kD
    · exact absurd h kD
def dOf (ls:List Lay)(i:Nat):Nat:=if i=0 then ((ls.getD 0 lay0).W.getD 0 []).length else (ls.getD (i-1) lay0).W.length
theorem chk_net3 {ls:List Lay}(h:chkq ls=0):Net3 ls (dOf ls):=by
  unfold chkq at h
  split at h
  · rename_i hl
    have H:=chkFrom_ok ls.length 0 h
    refine ⟨hl,?_,fun i hi=>?_⟩
    · obtain ⟨⟨_,_,_,f4,_⟩,_⟩:=H 0 oM oM
      show (if 0=0 then _ else _)≤20
      rw[if_pos rfl];exact f4 rfl
    · obtain ⟨⟨f1,f2,f3,f4,f5⟩,k1,k2⟩:=H i oM oM
      obtain ⟨r1,r2,r3⟩:=f1
      have e1:dOf ls (i+1)=(ls.getD i lay0).W.length:=by show (if i+1=0 then _ else _)=_;rw[if_neg oM];rfl
      have e2:((ls.getD i lay0).W.getD 0 []).length=dOf ls i:=by
        by_cases h0:i=0
        · subst h0;show _=(if 0=0 then _ else _);rw[if_pos rfl]
        · rw[f5 oM];show _=(if i=0 then _ else _);rw[if_neg h0]
      rw[e1]
      refine ⟨⟨rfl,r1,by rw[←e2];exact r2,fun j hj=>by rw[←e2];exact r3 j hj⟩,f3,f2,by omega⟩
  · exact absurd h kD
structure LaySz (L:Lay):Prop where
  rl:L.W.length≤8
  rls:∀ i,(L.W.getD i []).length≤8
  bl:L.B.length≤8
  w:∀ i j,LQ 1 ((L.W.getD i []).getD j 0)
  b:∀ i,LQ 1 (L.B.getD i 0)
  b4:L.B.length≤4
  w4:(L.W.getD 0 []).length≤4
theorem LaySz.len {L:Lay}(h:LaySz L):LayLen L:=⟨by have:=h.rl;omega,fun i _=>by have:=h.rls i;omega,by have:=h.bl;omega⟩
theorem lq0 {k:Nat}(h:1≤k):LQ k 0:=(LQ.lit (z:=0) kD).mono h
def grow:Nat→Nat
  | 0=>1
  | k+1=>16*grow k+40
theorem layq_lq {L:Lay}{x:List Rat}{m:Nat}(h:LaySz L)(hx:∀ j,LQ m (x.getD j 0))(hl:x.length≤8)(hm:1≤m)(j:Nat):LQ (16*m+40) ((layq L x).getD j 0):=by
  unfold layq
  by_cases hj:j<L.W.length
  · rw[List.getD_eq_getElem?_getD,List.getElem?_eq_getElem (by simpa using hj),List.getElem_map,List.getElem_range]
    show LQ _ (act _ _)
    have h1:=LQ.dot (n:=x.length) (fun i _=>h.w j i) (fun i _=>hx i) x.length (Nat.le_refl _)
    have h2:=(h1.add (h.b j)).mono (l:=8*m+19) (by
      have:x.length*(1+m+1)≤8*(1+m+1):=Nat.mul_le_mul_right _ hl
      omega)
    exact (LQ.act _ h2 oM).mono oM
  · rw[List.getD_eq_getElem?_getD,List.getElem?_eq_none (by simpa using hj)]
    exact lq0 oM
theorem outq_lq {ls:List Lay}{d:Nat→Nat}(o:Net3 ls d)(hL:∀ k,LaySz (ls.getD k lay0)){xs:List Rat}(hx:xs.length=d 0)(hq:∀ j,LQ 1 (xs.getD j 0)):∀ k,k≤ls.length→∀ j,LQ (grow k) ((outq ls xs k).getD j 0)
  | 0,_,j=>hq j
  | k + 1,hk,j=>by
    show LQ (16*grow k+40) ((layq _ _).getD j 0)
    refine layq_lq (hL k) (outq_lq o hL hx hq k oM) ?_ ?_ j
    · rw[outq_len o hx k oM]
      have h0:=(o.lay k oM).1.row 0 (o.lay k oM).1.rpos
      have:=(hL k).rls 0
      omega
    · cases k with
      | zero=>exact Nat.le_refl _
      | succ k=>show 1≤16*grow k+40;omega
theorem grow_le (k:Nat)(h:k≤4):grow k≤1000000:=by
  have:k=0∨k=1∨k=2∨k=3∨k=4:=by omega
  rcases this with rfl|rfl|rfl|rfl|rfl<;>decide
theorem lay0_sz:LaySz lay0:=⟨by decide,fun i=>by simp[lay0],by decide,fun i j=>by simp[lay0];exact lq0 oM,fun i=>by simp[lay0];exact lq0 oM,by decide,by decide⟩
theorem netB {ls:List Lay}{d:Nat→Nat}(o:Net3 ls d)(hL:∀ k,LaySz (ls.getD k lay0)){xs:List Rat}(hx:xs.length=d 0)(hq:∀ j,LQ 1 (xs.getD j 0)):NetB ls xs :=
  ⟨fun k i j=>((hL k).w i j).mono oM,fun k i=>((hL k).b i).mono oM,fun k hk j=>(outq_lq o hL hx hq k hk j).mono (grow_le k (by have:=o.len.2;omega))⟩
noncomputable def ansE (ls:List Lay)(xs:List Rat):Int:=if chkq ls=0 then (if xs.length=dOf ls 0 then 0 else 5) else 1
noncomputable def ansL (ls:List Lay)(xs:List Rat):List Rat:=if chkq ls=0∧xs.length=dOf ls 0 then outq ls xs ls.length else []
theorem cmpR_self (a:Rat):cmpR a a=0:=by unfold cmpR cmpI;rw[if_neg oM,if_neg oM]
theorem ansE0 {ls:List Lay}{xs:List Rat}(h1:chkq ls=0)(h2:xs.length=dOf ls 0):ansE ls xs=0:=by unfold ansE;rw[if_pos h1,if_pos h2]
theorem ansE1 {ls:List Lay}{xs:List Rat}(h1:chkq ls≠0):ansE ls xs=1:=by unfold ansE;rw[if_neg h1]
theorem ansE5 {ls:List Lay}{xs:List Rat}(h1:chkq ls=0)(h2:xs.length≠dOf ls 0):ansE ls xs=5:=by unfold ansE;rw[if_pos h1,if_neg h2]
theorem ansL0 {ls:List Lay}{xs:List Rat}(h1:chkq ls=0)(h2:xs.length=dOf ls 0):ansL ls xs=outq ls xs ls.length:=by unfold ansL;rw[if_pos ⟨h1,h2⟩]
theorem ansL1 {ls:List Lay}{xs:List Rat}(h:¬(chkq ls=0∧xs.length=dOf ls 0)):ansL ls xs=[]:=by unfold ansL;rw[if_neg h]
theorem bneF' {a b:Int}(h:a=b):((a:Int) != (b:Int))=false:=by simpa using h
theorem nAnswer1 (A:Option Addr)(cap:Nat)(ts:List LV)(ls:List Lay)(hn:ls.length≤1000000)(hF:∀ i,i<ls.length→LayLen (ls.getD i lay0))(X:Option Addr)(c0:Nat)(xs:List Rat)(hc0:xs.length≤c0)(hB:chkq ls=0→xs.length=dOf ls 0→NetB ls xs)(h1:chkq ls≠0)(w:World)(h:Hp)(g:G w h)(hA:SlO 3 lvc lvd h A ts)(hN:NetL h ts ls)(hX:SlO 5 qc 0 h X xs)(tb:Tab h) :
    Calls Tryz.prog 25 #[.agg #[.slice A ts.length cap],.slice X xs.length c0] w (Ret w h fun v h1=>∃ A c,v=.tuple #[.slice A (ansL ls xs).length c,.int .i64 (ansE ls xs)]∧(ansL ls xs).length≤c∧SlO 5 qc 0 h1 A (ansL ls xs)):=by
 have hs:=SS.start g
 replace hs:=((((hs.a_SlO hA).add (K:=fun h_=>NetL h_ ts ls) hN).a_SlO hX).add (K:=fun h_=>Tab h_) tb)
 refine go Tryz.func25 [(0,.agg #[.slice A ts.length cap]),(1,.slice X xs.length c0)] rfl ?_
 refine cSL (lA 2 28 ([.slice A ts.length cap]) hs (fun b1 w2 h3 hs=>?_))
 refine lL hs [.v 4 (.slice none 0 0),.v 5 (.int .i64 0)] (lN (CG.seq (cSL (lL hs [.o 6 (.agg #[.slice A ts.length cap]) 0 0 1] (lC 7 hs (nCheckG A cap ts ls hn hF _ _ hs.g (hs.f.2.2.2.1) (hs.f.2.2.1)) ?_)))))
 rintro _ w4 h5 hs rfl
 have hb6:((chkq ls:Int) != (0:Int))=true:=bneT h1
 have phb6:=neOfBne hb6
 refine lB 8 hb6 ?_
 exact lN (cIT (cSL (lL hs [.v 4 (.slice none 0 0),.v 5 (.int .i64 1)] (lN (CG.ret (hs.ret [] (.tuple #[.slice none 0 0,.int .i64 1]) (⟨none,0,by rw[ansE1 h1,ansL1 (fun e=>h1 e.1)];rfl,by rw[ansL1 (fun e=>h1 e.1)];exact Nat.le_refl _,by rw[ansL1 (fun e=>h1 e.1)];exact SlO.nil⟩)))))))
theorem nAnswer5 (A:Option Addr)(cap:Nat)(ts:List LV)(ls:List Lay)(hn:ls.length≤1000000)(hF:∀ i,i<ls.length→LayLen (ls.getD i lay0))(X:Option Addr)(c0:Nat)(xs:List Rat)(hc0:xs.length≤c0)(hB:chkq ls=0→xs.length=dOf ls 0→NetB ls xs)(h1:chkq ls=0)(h2:xs.length≠dOf ls 0)(w:World)(h:Hp)(g:G w h)(hA:SlO 3 lvc lvd h A ts)(hN:NetL h ts ls)(hX:SlO 5 qc 0 h X xs)(tb:Tab h) :
    Calls Tryz.prog 25 #[.agg #[.slice A ts.length cap],.slice X xs.length c0] w (Ret w h fun v h1=>∃ A c,v=.tuple #[.slice A (ansL ls xs).length c,.int .i64 (ansE ls xs)]∧(ansL ls xs).length≤c∧SlO 5 qc 0 h1 A (ansL ls xs)):=by
 have hs:=SS.start g
 replace hs:=((((hs.a_SlO hA).add (K:=fun h_=>NetL h_ ts ls) hN).a_SlO hX).add (K:=fun h_=>Tab h_) tb)
 refine go Tryz.func25 [(0,.agg #[.slice A ts.length cap]),(1,.slice X xs.length c0)] rfl ?_
 refine cSL (lA 2 28 ([.slice A ts.length cap]) hs (fun b1 w2 h3 hs=>?_))
 refine lL hs [.v 4 (.slice none 0 0),.v 5 (.int .i64 0)] (lN (CG.seq (cSL (lL hs [.o 6 (.agg #[.slice A ts.length cap]) 0 0 1] (lC 7 hs (nCheckG A cap ts ls hn hF _ _ hs.g (hs.f.2.2.2.1) (hs.f.2.2.1)) ?_)))))
 rintro _ w4 h5 hs rfl
 have hb6:((chkq ls:Int) != (0:Int))=false:=bneF' h1
 have phb6:=eqOfBne hb6
 refine lB 8 hb6 ?_
 refine lN (cIF (CG.skipN (CG.seq (cSL (lL hs [.o 9 (.agg #[.slice A ts.length cap]) 0 0 1,.m 10 1] (lC 11 hs (nSuitsF A cap ts ls (dOf ls) (chk_net3 h1) X c0 xs h2 _ _ hs.g (hs.f.2.2.2.1) (hs.f.2.2.1) (hs.f.2.1)) ?_))))))
 rintro _ w7 h8 hs rfl
 exact lL hs [.v 12 (.bool true)] (lN (cIT (cSL (lL hs [.v 4 (.slice none 0 0),.v 5 (.int .i64 5)] (lN (CG.ret (hs.ret [] (.tuple #[.slice none 0 0,.int .i64 5]) (⟨none,0,by rw[ansE5 h1 h2,ansL1 (fun e=>h2 e.2)];rfl,by rw[ansL1 (fun e=>h2 e.2)];exact Nat.le_refl _,by rw[ansL1 (fun e=>h2 e.2)];exact SlO.nil⟩))))))))
theorem nAnswer0 (A:Option Addr)(cap:Nat)(ts:List LV)(ls:List Lay)(hn:ls.length≤1000000)(hF:∀ i,i<ls.length→LayLen (ls.getD i lay0))(X:Option Addr)(c0:Nat)(xs:List Rat)(hc0:xs.length≤c0)(hB:chkq ls=0→xs.length=dOf ls 0→NetB ls xs)(h1:chkq ls=0)(h2:xs.length=dOf ls 0)(w:World)(h:Hp)(g:G w h)(hA:SlO 3 lvc lvd h A ts)(hN:NetL h ts ls)(hX:SlO 5 qc 0 h X xs)(tb:Tab h) :
    Calls Tryz.prog 25 #[.agg #[.slice A ts.length cap],.slice X xs.length c0] w (Ret w h fun v h1=>∃ A c,v=.tuple #[.slice A (ansL ls xs).length c,.int .i64 (ansE ls xs)]∧(ansL ls xs).length≤c∧SlO 5 qc 0 h1 A (ansL ls xs)):=by
 have hs:=SS.start g
 replace hs:=((((hs.a_SlO hA).add (K:=fun h_=>NetL h_ ts ls) hN).a_SlO hX).add (K:=fun h_=>Tab h_) tb)
 refine go Tryz.func25 [(0,.agg #[.slice A ts.length cap]),(1,.slice X xs.length c0)] rfl ?_
 refine cSL (lA 2 28 ([.slice A ts.length cap]) hs (fun b1 w2 h3 hs=>?_))
 refine lL hs [.v 4 (.slice none 0 0),.v 5 (.int .i64 0)] (lN (CG.seq (cSL (lL hs [.o 6 (.agg #[.slice A ts.length cap]) 0 0 1] (lC 7 hs (nCheckG A cap ts ls hn hF _ _ hs.g (hs.f.2.2.2.1) (hs.f.2.2.1)) ?_)))))
 rintro _ w4 h5 hs rfl
 have hb6:((chkq ls:Int) != (0:Int))=false:=bneF' h1
 have phb6:=eqOfBne hb6
 refine lB 8 hb6 ?_
 refine lN (cIF (CG.skipN (CG.seq (cSL (lL hs [.o 9 (.agg #[.slice A ts.length cap]) 0 0 1,.m 10 1] (lC 11 hs (nSuitsT A cap ts ls (dOf ls) (chk_net3 h1) X c0 xs h2 _ _ hs.g (hs.f.2.2.2.1) (hs.f.2.2.1) (hs.f.2.1)) ?_))))))
 rintro _ w7 h8 hs rfl
 refine lL hs [.v 12 (.bool false)] (lN (cIF (CG.skipN (cSL (lL hs [.o 13 (.agg #[.slice A ts.length cap]) 0 0 1,.m 14 1] (lC 15 hs (nForward A cap ts ls (dOf ls) (chk_net3 h1) X c0 xs h2 hc0 (hB h1 h2) _ _ hs.g (hs.f.2.2.2.1) (hs.f.2.2.1) (hs.f.2.1) (hs.f.1)) ?_))))))
 rintro _ w9 h10 hs ⟨A1,c1,u1,A2,c2,u2,Ax,cx,rfl,-,-,hcx,-,-,-,-,hXk⟩
 replace hs:=(hs.a_SlO hXk)
 exact lL hs [.v 16 (.slice Ax ((outq ls xs ls.length).length) cx),.m 4 16,.v 5 (.int .i64 0)] (lN (CG.ret (hs.ret [] (.tuple #[.slice Ax ((outq ls xs ls.length).length) cx,.int .i64 0]) (⟨_,_,by rw[ansE0 h1 h2,ansL0 h1 h2],by rw[ansL0 h1 h2];exact hcx,by rw[ansL0 h1 h2];exact (hs.f.1)⟩))))
theorem nAnswer (A:Option Addr)(cap:Nat)(ts:List LV)(ls:List Lay)(hn:ls.length≤1000000)(hF:∀ i,i<ls.length→LayLen (ls.getD i lay0))(X:Option Addr)(c0:Nat)(xs:List Rat)(hc0:xs.length≤c0)(hB:chkq ls=0→xs.length=dOf ls 0→NetB ls xs)(w:World)(h:Hp)(g:G w h)(hA:SlO 3 lvc lvd h A ts)(hN:NetL h ts ls)(hX:SlO 5 qc 0 h X xs)(tb:Tab h):Calls Tryz.prog 25 #[.agg #[.slice A ts.length cap],.slice X xs.length c0] w (Ret w h (fun v h1=>∃ A c,v=.tuple #[.slice A (ansL ls xs).length c,.int .i64 (ansE ls xs)]∧(ansL ls xs).length≤c∧SlO 5 qc 0 h1 A (ansL ls xs))):=by
  by_cases h1:chkq ls=0
  · by_cases h2:xs.length=dOf ls 0
    · exact nAnswer0 A cap ts ls hn hF X c0 xs hc0 hB h1 h2 w h g hA hN hX tb
    · exact nAnswer5 A cap ts ls hn hF X c0 xs hc0 hB h1 h2 w h g hA hN hX tb
  · exact nAnswer1 A cap ts ls hn hF X c0 xs hc0 hB h1 w h g hA hN hX tb
section fut
variable {P:Program} {n:Nat} {N R:Po} {X:Nat→Po} {ops:Array Oper} {k0 K:Nat} {L:Array Bool} {Γ:Env} {w:World} {h:Hp} {w0:World} {h0:Hp} {B:List Bx} {Rs:List Rw} {F:List (Hp→Prop)}
end fut
structure LayS4 (L:Lay):Prop where
  rl:L.W.length≤4
  rls:∀ i,(L.W.getD i []).length≤4
  bl:L.B.length≤4
  w:∀ i j,LQ 1 ((L.W.getD i []).getD j 0)
  b:∀ i,LQ 1 (L.B.getD i 0)
section fla
variable {P:Program} {n:Nat} {N R:Po} {X:Nat→Po} {ops:Array Oper} {k:Nat} {Γ:Env} {w:World} {h:Hp} {w0:World} {h0:Hp} {B:List Bx} {Rs:List Rw} {F:List (Hp→Prop)}
end fla
section prt
variable {M:Ms} {P:Program} {n:Nat} {N R:Po} {X:Nat→Po} {ops:Array Oper} {k k0:Nat} {hr:Hp} {AL:List Al} {L:Array Bool} {Γ:Env} {w:World} {h:Hp}
end prt
structure LayQ (L:Lay):Prop where
  rl:L.W.length≤1000000
  rls:∀ i,(L.W.getD i []).length≤1000000
  bl:L.B.length≤1000000
  w:∀ i j,LQ 100000000 ((L.W.getD i []).getD j 0)
  b:∀ i,LQ 100000000 (L.B.getD i 0)
theorem fCmpS (q:Rat)(hq:LQ 100000000 q)(w:World)(h:Hp)(g:G w h):Calls Tryz.prog 81 #[qv q,qv q] w (Ret w h fun v _=>v=.int .i64 0):=by
  have x:=fCmp q q hq hq w h g
  rw[cmpR_self] at x
  exact x
theorem sCmpF (A:Option Addr)(ca:Nat)(qs:List Rat)(D:Option Addr)(cd:Nat)(hl:qs.length≤1000000)(hf:∀ i,LQ 100000000 (qs.getD i 0))(w:World)(h:Hp)(g:G w h)(hA:SlO 5 qc 0 h A qs)(hD:SlO 5 qc 0 h D qs) :
    Calls Tryz.prog 113 #[.slice A qs.length ca,.slice D qs.length cd,.func (.func 81) #[] #[]] w (Ret w h fun v _=>v=.int .i64 0):=by
 have hs:=SS.start g
 replace hs:=((hs.a_SlO hA).a_SlO hD)
 refine go Tryz.func113 [(0,.slice A qs.length ca),(1,.slice D qs.length cd),(2,.func (.func 81) #[] #[])] rfl ?_
 refine cSL (lL hs [.v 6 (.int .i64 0)] (lN (CG.seq (cSL (lL hs [.m 11 0,.v 12 (.int .i64 (qs.length:Nat)),.v 13 (.int .i64 0)] (lN (CG.block (cTo [(0,.slice A qs.length ca),(1,.slice D qs.length cd),(2,.func (.func 81) #[] #[]),(11,.slice A qs.length ca),(12,.int .i64 (qs.length:Nat)),(13,.int .i64 0)] ?_))))))))
 refine CG.loop (fun μ_ Γ w_=>∃ (k:Nat) (h_:Hp),μ_=qs.length-k∧Γ=[(0,.slice A qs.length ca),(1,.slice D qs.length cd),(2,.func (.func 81) #[] #[]),(11,.slice A qs.length ca),(12,.int .i64 (qs.length:Nat)),(13,.int .i64 (k:Nat))]∧SS w h w_ h_ [] [] [fun h_=>SlO 5 qc 0 h_ D qs,fun h_=>SlO 5 qc 0 h_ A qs]∧(k≤qs.length)) _ ⟨0,h,rfl,rfl,hs.to _ _,Nat.zero_le _⟩ ?_
 rintro _ _ w1 ⟨k,h2,hm3,rfl,hs,hk⟩
 refine cSL ?_
 cases hb4:(decide (((k:Nat):Int)<((qs.length:Nat):Int)))
 ·
  have phb4:=oF hb4
  refine lB 14 hb4 ?_
  refine lN (CG.seq (cIF (CG.exit ?_)))
  show CG _ _ _ _ _ _ _ _
  refine CG.seq (cSL (lL hs [.m 34 0,.v 35 (.int .i64 (qs.length:Nat)),.m 36 1,.v 37 (.int .i64 (qs.length:Nat))] ?_))
  have ⟨hb5,phb5⟩:=dF (p:=((qs.length:Nat):Int)<((qs.length:Nat):Int)) oM
  refine lB 38 hb5 ?_
  exact lN (cIF (CG.skipN (cSL (lL hs [.v 6 (.int .i64 0)] (lN (CG.ret (hs.ret [] (.int .i64 0) rfl)))))))
 have phb4:=oT hb4
 refine lB 14 hb4 ?_
 refine lN (CG.seq (cIT (CG.skipN (CG.seq (CG.block (cSL (lL hs [.m 15 13] (lX 16 A qs.length ca 5 (k:Nat) k ((hs.f.2.1).ok oM) ?_))))))))
 refine lH 17 (qv (qs.getD k 0)) hs ((hs.f.2.1).el k oM) ?_
 refine lA 8 73 ([.bool false,.int .u64 0,.string ⟨#[]⟩,.int .u64 0,.string ⟨#[]⟩]) hs (fun b6 w7 h8 hs=>?_)
 refine lL hs [.m 7 15] (lP 0 0 (qc (qs.getD k 0)) hs (fun w9 hs=>?_))
 refine lN (CG.seq (cSL (lL hs [.m 18 7,.m 19 1,.v 20 (.int .i64 (qs.length:Nat))] ?_)))
 have ⟨hb10,phb10⟩:=dF (p:=((qs.length:Nat):Int)≤((k:Nat):Int)) oM
 refine lB 21 hb10 ?_
 refine lN (cIF (CG.skipN (cSL (lL hs [.m 22 1,.m 23 7] (lX 24 D qs.length cd 5 (k:Nat) k ((hs.f.1).ok oM) ?_)))))
 refine lH 25 (qv (qs.getD k 0)) hs ((hs.f.1).el k oM) ?_
 refine lA 9 73 ([.bool false,.int .u64 0,.string ⟨#[]⟩,.int .u64 0,.string ⟨#[]⟩]) hs (fun b11 w12 h13 hs=>?_)
 refine lP 0 0 (qc (qs.getD k 0)) hs (fun w14 hs=>?_)
 refine lNS (lL hs [.m 26 2,.o 27 (qv (qs.getD k 0)) 1 0 5,.o 28 (qv (qs.getD k 0)) 0 0 5] (lC 29 hs (fCmpS (qs.getD k 0) (hf k) _ _ hs.g) ?_))
 rintro _ w15 h16 hs rfl
 refine lL hs [.m 10 29] (lNS (lL hs [.m 30 10,.v 31 (.bool false)] (lN (cIF (CG.skipN (CG.listed (lIn 33 ((k:Nat)+1) (k+1) ?_)))))))
 refine lL hs [.m 13 33] (lD ?_)
 intro a_ ka
 have q17:(k+1)≤qs.length:=by omega
 replace hs:=hs.drop 2 0
 refine ⟨_,_,?_,⟨k+1,h16,rfl,rfl,hs.to _ _,q17⟩,ka.to [(0,.slice A qs.length ca),(1,.slice D qs.length cd),(2,.func (.func 81) #[] #[]),(11,.slice A qs.length ca),(12,.int .i64 (qs.length:Nat)),(13,.int .i64 ((k+1):Nat))] kR⟩
 omega
theorem fSame (A:Option Addr)(ca:Nat)(qs:List Rat)(D:Option Addr)(cd:Nat)(hl:qs.length≤1000000)(hf:∀ i,LQ 100000000 (qs.getD i 0))(w:World)(h:Hp)(g:G w h)(hA:SlO 5 qc 0 h A qs)(hD:SlO 5 qc 0 h D qs) :
    Calls Tryz.prog 57 #[.slice A qs.length ca,.slice D qs.length cd] w (Ret w h fun v _=>v=.bool true):=by
 have hs:=SS.start g
 replace hs:=((hs.a_SlO hA).a_SlO hD)
 refine go Tryz.func57 [(0,.slice A qs.length ca),(1,.slice D qs.length cd)] rfl ?_
 refine cSL (lL hs [.v 4 (.bool false)] (lNS (lL hs [.m 5 0,.m 6 1] (lC 7 hs (sCmpF A ca qs D cd hl hf _ _ hs.g (hs.f.2.1) (hs.f.1)) ?_))))
 rintro _ w1 h2 hs rfl
 exact lL hs [.v 8 (.bool true),.m 4 8] (lN (CG.ret (hs.ret [] (.bool true) rfl)))
theorem sEqRows (A:Option Addr)(ca:Nat)(us:List Value)(D:Option Addr)(cd:Nat)(vs:List Value)(qss:List (List Rat))(hl:qss.length≤1000000)(hls:∀ i,(qss.getD i []).length≤1000000)(hf:∀ i j,LQ 100000000 ((qss.getD i []).getD j 0))(w:World)(h:Hp)(g:G w h)(hA:SlO 1 vc undef h A us)(hU:QVs h us qss)(hD:SlO 1 vc undef h D vs)(hV:QVs h vs qss) :
    Calls Tryz.prog 112 #[.slice A us.length ca,.slice D vs.length cd,.func (.func 57) #[] #[]] w (Ret w h fun v _=>v=.bool true):=by
 have hs:=SS.start g
 replace hs:=((((hs.a_SlO hA).add (K:=fun h_=>QVs h_ us qss) hU).a_SlO hD).add (K:=fun h_=>QVs h_ vs qss) hV)
 have hlu:=(hs.f.2.2.1).len
 have hlv:=(hs.f.1).len
 refine go Tryz.func112 [(0,.slice A us.length ca),(1,.slice D vs.length cd),(2,.func (.func 57) #[] #[])] rfl ?_
 refine cSL (lL hs [.v 6 (.bool false)] (lN (CG.seq (cSL (lL hs [.m 10 0,.v 11 (.int .i64 (us.length:Nat)),.m 12 1,.v 13 (.int .i64 (vs.length:Nat))] ?_)))))
 have hb1:(((us.length:Nat):Int) != ((vs.length:Nat):Int))=false:=bneF oM
 have phb1:=eqOfBne hb1
 refine lB 14 hb1 ?_
 refine lN (cIF (CG.skipN (CG.seq (cSL (lL hs [.m 15 0,.v 16 (.int .i64 (us.length:Nat)),.v 17 (.int .i64 0)] (lN (CG.block (cTo [(1,.slice D vs.length cd),(2,.func (.func 57) #[] #[]),(15,.slice A us.length ca),(16,.int .i64 (us.length:Nat)),(17,.int .i64 0)] ?_))))))))
 refine CG.loop (fun μ_ Γ w_=>∃ (k:Nat) (h_:Hp),μ_=qss.length-k∧Γ=[(1,.slice D vs.length cd),(2,.func (.func 57) #[] #[]),(15,.slice A us.length ca),(16,.int .i64 (us.length:Nat)),(17,.int .i64 (k:Nat))]∧SS w h w_ h_ [] [] [fun h_=>QVs h_ vs qss,fun h_=>SlO 1 vc undef h_ D vs,fun h_=>QVs h_ us qss,fun h_=>SlO 1 vc undef h_ A us]∧(k≤qss.length)) _ ⟨0,h,rfl,rfl,hs.to _ _,Nat.zero_le _⟩ ?_
 rintro _ _ w2 ⟨k,h3,hm4,rfl,hs,hk⟩
 refine cSL ?_
 cases hb5:(decide (((k:Nat):Int)<((us.length:Nat):Int)))
 ·
  have phb5:=oF hb5
  refine lB 18 hb5 ?_
  refine lN (CG.seq (cIF (CG.exit ?_)))
  show CG _ _ _ _ _ _ _ _
  exact cSL (lL hs [.v 6 (.bool true)] (lN (CG.ret (hs.ret [] (.bool true) rfl))))
 have phb5:=oT hb5
 refine lB 18 hb5 ?_
 refine lN (CG.seq (cIT (CG.skipN (CG.seq (CG.block (cSL (lL hs [.m 19 17] (lX 20 A us.length ca 1 (k:Nat) k ((hs.f.2.2.2.1).ok oM) ?_))))))))
 obtain ⟨Aqx,cqx,eqx,hcqx,hRqx⟩:=(hs.f.2.2.1).at_ k oM
 replace hs:=(hs.a_SlO hRqx)
 refine lHe 21 (us.getD k undef) hs ((hs.f.2.2.2.2.1).el k oM) eqx ?_
 refine lL hs [.m 7 19,.m 8 21] (lNS (lL hs [.m 22 1,.m 23 7] (lX 24 D vs.length cd 1 (k:Nat) k ((hs.f.2.2.1).ok oM) ?_)))
 obtain ⟨Aqy,cqy,eqy,hcqy,hRqy⟩:=(hs.f.2.1).at_ k oM
 replace hs:=(hs.a_SlO hRqy)
 refine lHe 25 (vs.getD k undef) hs ((hs.f.2.2.2.1).el k oM) eqy ?_
 refine lL hs [.m 9 25] (lNS (lL hs [.m 26 2,.m 27 8,.m 28 9] (lC 29 hs (fSame Aqx cqx (qss.getD k []) Aqy cqy (hls k) (hf k) _ _ hs.g (hs.f.2.1) (hs.f.1)) ?_)))
 rintro _ w6 h7 hs rfl
 refine lL hs [.v 30 (.bool false)] (lN (cIF (CG.skipN (CG.listed (lIn 31 ((k:Nat)+1) (k+1) ?_)))))
 refine lL hs [.m 17 31] (lD ?_)
 intro a_ ka
 have q8:(k+1)≤qss.length:=by omega
 replace hs:=hs.tl.tl
 refine ⟨_,_,?_,⟨k+1,h7,rfl,rfl,hs.to _ _,q8⟩,ka.to [(1,.slice D vs.length cd),(2,.func (.func 57) #[] #[]),(15,.slice A us.length ca),(16,.int .i64 (us.length:Nat)),(17,.int .i64 ((k+1):Nat))] kR⟩
 omega
theorem mSame (A:Option Addr)(ca:Nat)(us:List Value)(D:Option Addr)(cd:Nat)(vs:List Value)(qss:List (List Rat))(hl:qss.length≤1000000)(hls:∀ i,(qss.getD i []).length≤1000000)(hf:∀ i j,LQ 100000000 ((qss.getD i []).getD j 0))(w:World)(h:Hp)(g:G w h)(hA:SlO 1 vc undef h A us)(hU:QVs h us qss)(hD:SlO 1 vc undef h D vs)(hV:QVs h vs qss) :
    Calls Tryz.prog 56 #[.slice A us.length ca,.slice D vs.length cd] w (Ret w h fun v _=>v=.bool true):=by
 have hs:=SS.start g
 replace hs:=((((hs.a_SlO hA).add (K:=fun h_=>QVs h_ us qss) hU).a_SlO hD).add (K:=fun h_=>QVs h_ vs qss) hV)
 have hlu:=(hs.f.2.2.1).len
 have hlv:=(hs.f.1).len
 refine go Tryz.func56 [(0,.slice A us.length ca),(1,.slice D vs.length cd)] rfl ?_
 refine cSL (lL hs [.v 4 (.bool false)] (lNS (lL hs [.m 5 0,.m 6 1] (lC 7 hs (sEqRows A ca us D cd vs qss hl hls hf _ _ hs.g (hs.f.2.2.2.1) (hs.f.2.2.1) (hs.f.2.1) (hs.f.1)) ?_))))
 rintro _ w1 h2 hs rfl
 exact lL hs [.m 4 7] (lN (CG.ret (hs.ret [] (.bool true) rfl)))
theorem nSame1 (z:Int)(A:Option Addr)(ca:Nat)(us:List Value)(D:Option Addr)(cd:Nat)(vs:List Value)(qss:List (List Rat))(P:Option Addr)(cp:Nat)(bs:List Rat)(Q_:Option Addr)(cq:Nat)(hF:LayQ ⟨z,qss,bs⟩)(w:World)(h:Hp)(g:G w h)(hA:SlO 1 vc undef h A us)(hU:QVs h us qss)(hD:SlO 1 vc undef h D vs)(hV:QVs h vs qss)(hP:SlO 5 qc 0 h P bs)(hQ:SlO 5 qc 0 h Q_ bs) :
    Calls Tryz.prog 55 #[.agg #[.int .i64 z,.slice A us.length ca,.slice P bs.length cp],.agg #[.int .i64 z,.slice D vs.length cd,.slice Q_ bs.length cq]] w (Ret w h fun v _=>v=.bool true):=by
 have hs:=SS.start g
 replace hs:=((((((hs.a_SlO hA).add (K:=fun h_=>QVs h_ us qss) hU).a_SlO hD).add (K:=fun h_=>QVs h_ vs qss) hV).a_SlO hP).a_SlO hQ)
 have hlu:=(hs.f.2.2.2.2.1).len
 have hlv:=(hs.f.2.2.1).len
 refine go Tryz.func55 [(0,.agg #[.int .i64 z,.slice A us.length ca,.slice P bs.length cp]),(1,.agg #[.int .i64 z,.slice D vs.length cd,.slice Q_ bs.length cq])] rfl ?_
 refine cSL (lA 2 77 ([.int .i64 z,.slice A us.length ca,.slice P bs.length cp]) hs (fun b1 w2 h3 hs=>?_))
 refine lA 3 77 ([.int .i64 z,.slice D vs.length cd,.slice Q_ bs.length cq]) hs (fun b4 w5 h6 hs=>?_)
 refine lL hs [.v 4 (.bool false)] (lNS (lL hs [.v 5 (.pointer (some ⟨b1,0,none⟩)),.o 6 (.int .i64 z) 1 0 1,.v 7 (.pointer (some ⟨b4,0,none⟩)),.o 8 (.int .i64 z) 0 0 1] ?_))
 have hb7:((z:Int) == (z:Int))=true:=beqT oM
 have phb7:=eq_of_beq hb7
 refine lB 9 hb7 ?_
 refine lL hs [.m 10 9,.v 11 (.pointer (some ⟨b1,1,none⟩)),.o 12 (.slice A us.length ca) 1 1 1,.v 13 (.pointer (some ⟨b4,1,none⟩)),.o 14 (.slice D vs.length cd) 0 1 1] (lC 15 hs (mSame A ca us D cd vs qss hF.rl hF.rls hF.w _ _ hs.g (hs.f.2.2.2.2.2.1) (hs.f.2.2.2.2.1) (hs.f.2.2.2.1) (hs.f.2.2.1)) ?_)
 rintro _ w8 h9 hs rfl
 refine lL hs [.v 16 (.bool true),.m 17 16,.v 18 (.pointer (some ⟨b1,2,none⟩)),.o 19 (.slice P bs.length cp) 1 2 1,.v 20 (.pointer (some ⟨b4,2,none⟩)),.o 21 (.slice Q_ bs.length cq) 0 2 1] (lC 22 hs (fSame P cp bs Q_ cq hF.bl hF.b _ _ hs.g (hs.f.2.1) (hs.f.1)) ?_)
 rintro _ w10 h11 hs rfl
 exact lL hs [.v 23 (.bool true),.m 4 23] (lN (CG.ret (hs.ret [] (.bool true) rfl)))
theorem sEqLays (A:Option Addr)(ca:Nat)(ts:List LV)(D:Option Addr)(cd:Nat)(rs:List LV)(ls:List Lay)(hn:ls.length≤1000000)(hF:∀ i,LayQ (ls.getD i lay0))(w:World)(h:Hp)(g:G w h)(hA:SlO 3 lvc lvd h A ts)(hN:NetL h ts ls)(hD:SlO 3 lvc lvd h D rs)(hM:NetL h rs ls) :
    Calls Tryz.prog 54 #[.slice A ts.length ca,.slice D rs.length cd,.func (.func 55) #[] #[]] w (Ret w h fun v _=>v=.bool true):=by
 have hs:=SS.start g
 replace hs:=((((hs.a_SlO hA).add (K:=fun h_=>NetL h_ ts ls) hN).a_SlO hD).add (K:=fun h_=>NetL h_ rs ls) hM)
 have hlt:=(hs.f.2.2.1).len
 have hlr:=(hs.f.1).len
 refine go Tryz.func54 [(0,.slice A ts.length ca),(1,.slice D rs.length cd),(2,.func (.func 55) #[] #[])] rfl ?_
 refine cSL (lL hs [.v 6 (.bool false)] (lN (CG.seq (cSL (lL hs [.m 10 0,.v 11 (.int .i64 (ts.length:Nat)),.m 12 1,.v 13 (.int .i64 (rs.length:Nat))] ?_)))))
 have hb1:(((ts.length:Nat):Int) != ((rs.length:Nat):Int))=false:=bneF oM
 have phb1:=eqOfBne hb1
 refine lB 14 hb1 ?_
 refine lN (cIF (CG.skipN (CG.seq (cSL (lL hs [.m 15 0,.v 16 (.int .i64 (ts.length:Nat)),.v 17 (.int .i64 0)] (lN (CG.block (cTo [(1,.slice D rs.length cd),(2,.func (.func 55) #[] #[]),(15,.slice A ts.length ca),(16,.int .i64 (ts.length:Nat)),(17,.int .i64 0)] ?_))))))))
 refine CG.loop (fun μ_ Γ w_=>∃ (k:Nat) (h_:Hp),μ_=ls.length-k∧Γ=[(1,.slice D rs.length cd),(2,.func (.func 55) #[] #[]),(15,.slice A ts.length ca),(16,.int .i64 (ts.length:Nat)),(17,.int .i64 (k:Nat))]∧SS w h w_ h_ [] [] [fun h_=>NetL h_ rs ls,fun h_=>SlO 3 lvc lvd h_ D rs,fun h_=>NetL h_ ts ls,fun h_=>SlO 3 lvc lvd h_ A ts]∧(k≤ls.length)) _ ⟨0,h,rfl,rfl,hs.to _ _,Nat.zero_le _⟩ ?_
 rintro _ _ w2 ⟨k,h3,hm4,rfl,hs,hk⟩
 refine cSL ?_
 cases hb5:(decide (((k:Nat):Int)<((ts.length:Nat):Int)))
 ·
  have phb5:=oF hb5
  refine lB 18 hb5 ?_
  refine lN (CG.seq (cIF (CG.exit ?_)))
  show CG _ _ _ _ _ _ _ _
  exact cSL (lL hs [.v 6 (.bool true)] (lN (CG.ret (hs.ret [] (.bool true) rfl))))
 have phb5:=oT hb5
 refine lB 18 hb5 ?_
 refine lN (CG.seq (cIT (CG.skipN (CG.seq (CG.block (cSL (lL hs [.m 19 17] (lX 20 A ts.length ca 3 (k:Nat) k ((hs.f.2.2.2.1).ok oM) ?_))))))))
 obtain ⟨ekx,⟨AWx,cWx,usx,eWx,hcWx,hAWx,hUx⟩,⟨ABx,cBx,eBx,hcBx,hABx⟩⟩:=(hs.f.2.2.1).at_ k oM
 have lux:=hUx.len
 replace hs:=(((hs.a_SlO hAWx).add (K:=fun h_=>QVs h_ usx (ls.getD k lay0).W) hUx).a_SlO hABx)
 refine lHe 21 (.agg #[.int .i64 ((ts.getD k lvd).1),(ts.getD k lvd).2.1,(ts.getD k lvd).2.2]) hs ((hs.f.2.2.2.2.2.2.1).el k oM) (by rw[ekx,eWx,eBx]) ?_
 refine lA 8 77 ([.int .i64 0,.slice none 0 0,.slice none 0 0]) hs (fun b6 w7 h8 hs=>?_)
 refine lL hs [.m 7 19] (lP 0 0 ([.int .i64 ((ls.getD k lay0).k),.slice AWx usx.length cWx,.slice ABx ((ls.getD k lay0).B.length) cBx]) hs (fun w9 hs=>?_))
 refine lNS (lL hs [.m 22 1,.m 23 7] (lX 24 D rs.length cd 3 (k:Nat) k ((hs.f.2.2.2.2.1).ok oM) ?_))
 obtain ⟨eky,⟨AWy,cWy,usy,eWy,hcWy,hAWy,hUy⟩,⟨ABy,cBy,eBy,hcBy,hABy⟩⟩:=(hs.f.2.2.2.1).at_ k oM
 have luy:=hUy.len
 replace hs:=(((hs.a_SlO hAWy).add (K:=fun h_=>QVs h_ usy (ls.getD k lay0).W) hUy).a_SlO hABy)
 refine lHe 25 (.agg #[.int .i64 ((rs.getD k lvd).1),(rs.getD k lvd).2.1,(rs.getD k lvd).2.2]) hs ((hs.f.2.2.2.2.2.2.2.1).el k oM) (by rw[eky,eWy,eBy]) ?_
 refine lA 9 77 ([.int .i64 0,.slice none 0 0,.slice none 0 0]) hs (fun b10 w11 h12 hs=>?_)
 refine lP 0 0 ([.int .i64 ((ls.getD k lay0).k),.slice AWy usy.length cWy,.slice ABy ((ls.getD k lay0).B.length) cBy]) hs (fun w13 hs=>?_)
 refine lNS (lL hs [.m 26 2,.o 27 (.agg #[.int .i64 ((ls.getD k lay0).k),.slice AWx usx.length cWx,.slice ABx ((ls.getD k lay0).B.length) cBx]) 1 0 3,.o 28 (.agg #[.int .i64 ((ls.getD k lay0).k),.slice AWy usy.length cWy,.slice ABy ((ls.getD k lay0).B.length) cBy]) 0 0 3] (lC 29 hs (nSame1 (ls.getD k lay0).k AWx cWx usx AWy cWy usy (ls.getD k lay0).W ABx cBx (ls.getD k lay0).B ABy cBy (hF k) _ _ hs.g (hs.f.2.2.2.2.2.1) (hs.f.2.2.2.2.1) (hs.f.2.2.1) (hs.f.2.1) (hs.f.2.2.2.1) (hs.f.1)) ?_))
 rintro _ w14 h15 hs rfl
 refine lL hs [.v 30 (.bool false)] (lN (cIF (CG.skipN (CG.listed (lIn 31 ((k:Nat)+1) (k+1) ?_)))))
 refine lL hs [.m 17 31] (lD ?_)
 intro a_ ka
 have q16:(k+1)≤ls.length:=by omega
 replace hs:=hs.tl.tl.tl.tl.tl.tl
 replace hs:=hs.drop 2 0
 refine ⟨_,_,?_,⟨k+1,h15,rfl,rfl,hs.to _ _,q16⟩,ka.to [(1,.slice D rs.length cd),(2,.func (.func 55) #[] #[]),(15,.slice A ts.length ca),(16,.int .i64 (ts.length:Nat)),(17,.int .i64 ((k+1):Nat))] kR⟩
 omega
theorem nSame (A:Option Addr)(ca:Nat)(ts:List LV)(D:Option Addr)(cd:Nat)(rs:List LV)(ls:List Lay)(hn:ls.length≤1000000)(hF:∀ i,LayQ (ls.getD i lay0))(w:World)(h:Hp)(g:G w h)(hA:SlO 3 lvc lvd h A ts)(hN:NetL h ts ls)(hD:SlO 3 lvc lvd h D rs)(hM:NetL h rs ls) :
    Calls Tryz.prog 14 #[.agg #[.slice A ts.length ca],.agg #[.slice D rs.length cd]] w (Ret w h fun v _=>v=.bool true):=by
 have hs:=SS.start g
 replace hs:=((((hs.a_SlO hA).add (K:=fun h_=>NetL h_ ts ls) hN).a_SlO hD).add (K:=fun h_=>NetL h_ rs ls) hM)
 refine go Tryz.func14 [(0,.agg #[.slice A ts.length ca]),(1,.agg #[.slice D rs.length cd])] rfl ?_
 refine cSL (lA 2 28 ([.slice A ts.length ca]) hs (fun b1 w2 h3 hs=>?_))
 refine lA 3 28 ([.slice D rs.length cd]) hs (fun b4 w5 h6 hs=>?_)
 refine lL hs [.v 4 (.bool false)] (lNS (lL hs [.v 5 (.pointer (some ⟨b1,0,none⟩)),.o 6 (.slice A ts.length ca) 1 0 1,.v 7 (.pointer (some ⟨b4,0,none⟩)),.o 8 (.slice D rs.length cd) 0 0 1] (lC 9 hs (sEqLays A ca ts D cd rs ls hn hF _ _ hs.g (hs.f.2.2.2.1) (hs.f.2.2.1) (hs.f.2.1) (hs.f.1)) ?_)))
 rintro _ w7 h8 hs rfl
 exact lL hs [.m 4 9] (lN (CG.ret (hs.ret [] (.bool true) rfl)))
theorem hSameRowS (A:Option Addr)(ca:Nat)(qs:List Rat)(D:Option Addr)(cd:Nat)(ts:List RT)(hl:qs.length≤1000000)(hf:∀ i,LQ 100000000 (qs.getD i 0))(w:World)(h:Hp)(g:G w h)(hA:SlO 5 qc 0 h A qs)(hD:SlO 3 rqc rqd h D ts)(hT:RTs h ts qs)(tb:Tab h) :
    Calls Tryz.prog 35 #[.slice A qs.length ca,.slice D ts.length cd] w (Ret w h fun v _=>v=.bool true):=by
  have x:=hSameRow A ca qs qs D cd ts hl hl (fun i _=>hf i) (fun i _=>hf i) w h g hA hD hT
  rw[decide_eq_true (rfl:qs=qs)] at x
  exact x
theorem hSameRows (A:Option Addr)(ca:Nat)(us:List Value)(D:Option Addr)(cd:Nat)(vs:List Value)(qss:List (List Rat))(hl:qss.length≤1000000)(hls:∀ i,(qss.getD i []).length≤1000000)(hf:∀ i j,LQ 100000000 ((qss.getD i []).getD j 0))(w:World)(h:Hp)(g:G w h)(hA:SlO 1 vc undef h A us)(hU:QVs h us qss)(hD:SlO 1 vc undef h D vs)(hV:RVs h vs qss)(tb:Tab h) :
    Calls Tryz.prog 53 #[.slice A us.length ca,.slice D vs.length cd] w (Ret w h fun v _=>v=.bool true):=by
 have hs:=SS.start g
 replace hs:=(((((hs.a_SlO hA).add (K:=fun h_=>QVs h_ us qss) hU).a_SlO hD).add (K:=fun h_=>RVs h_ vs qss) hV).add (K:=fun h_=>Tab h_) tb)
 have hlu:=(hs.f.2.2.2.1).len
 have hlv:=(hs.f.2.1).len
 refine go Tryz.func53 [(0,.slice A us.length ca),(1,.slice D vs.length cd)] rfl ?_
 refine cSL (lL hs [.v 4 (.bool false)] (lN (CG.seq (cSL (lL hs [.m 6 0,.v 7 (.int .i64 (us.length:Nat)),.m 8 1,.v 9 (.int .i64 (vs.length:Nat))] ?_)))))
 have hb1:(((us.length:Nat):Int) != ((vs.length:Nat):Int))=false:=bneF oM
 have phb1:=eqOfBne hb1
 refine lB 10 hb1 ?_
 refine lN (cIF (CG.skipN (CG.seq (cSL (lL hs [.v 5 (.int .i64 0)] (lN (CG.block (cTo [(0,.slice A us.length ca),(1,.slice D vs.length cd),(5,.int .i64 0)] ?_))))))))
 refine CG.loop (fun μ_ Γ w_=>∃ (k:Nat) (h_:Hp),μ_=qss.length-k∧Γ=[(0,.slice A us.length ca),(1,.slice D vs.length cd),(5,.int .i64 (k:Nat))]∧SS w h w_ h_ [] [] [fun h_=>Tab h_,fun h_=>RVs h_ vs qss,fun h_=>SlO 1 vc undef h_ D vs,fun h_=>QVs h_ us qss,fun h_=>SlO 1 vc undef h_ A us]∧(k≤qss.length)) _ ⟨0,h,rfl,rfl,hs.to _ _,Nat.zero_le _⟩ ?_
 rintro _ _ w2 ⟨k,h3,hm4,rfl,hs,hk⟩
 refine CG.seq (cSL (lL hs [.m 11 5,.m 12 0,.v 13 (.int .i64 (us.length:Nat))] ?_))
 cases hb5:(decide (((k:Nat):Int)<((us.length:Nat):Int)))
 ·
  have phb5:=oF hb5
  refine lB 14 hb5 ?_
  refine lN (cIF (CG.exit ?_))
  show CG _ _ _ _ _ _ _ _
  exact cSL (lL hs [.v 4 (.bool true)] (lN (CG.ret (hs.ret [] (.bool true) rfl))))
 have phb5:=oT hb5
 refine lB 14 hb5 ?_
 refine lN (cIT (CG.skipN (CG.seq (CG.block (CG.seq (cR 10 [] mixed hs al_nil ?_))))))
 refine eV 0 17 (.slice A us.length ca) ?_
 refine eV 1 18 (.int .i64 (k:Nat)) ?_
 refine eX 2 19 A us.length ca 1 (k:Nat) k ((hs.f.2.2.2.2.1).ok oM) ?_
 obtain ⟨Aqx,cqx,eqx,hcqx,hRqx⟩:=(hs.f.2.2.2.1).at_ k oM
 replace hs:=(hs.a_SlO hRqx)
 refine eHe 3 20 (us.getD k undef) hs ((hs.f.2.2.2.2.2.1).el k oM) eqx ?_
 refine eV 4 21 (.slice D vs.length cd) ?_
 refine eV 5 22 (.int .i64 (k:Nat)) ?_
 refine eX 6 23 D vs.length cd 1 (k:Nat) k ((hs.f.2.2.2.1).ok oM) ?_
 obtain ⟨Aryy,cryy,tryy,eryy,hcryy,hRryy,hTryy⟩:=(hs.f.2.2.1).at_ k oM
 have hlryy:=hTryy.len
 replace hs:=((hs.a_SlO hRryy).add (K:=fun h_=>RTs h_ tryy (qss.getD k [])) hTryy)
 refine eHe 7 24 (vs.getD k undef) hs ((hs.f.2.2.2.2.2.1).el k oM) eryy ?_
 refine eC 8 25 hs (fun _ _ hs=>hSameRowS Aqx cqx (qss.getD k []) Aryy cryy tryy (hls k) (hf k) _ _ hs.g (hs.f.2.2.1) (hs.f.2.1) (hs.f.1) (hs.f.2.2.2.1)) ?_
 rintro _ _ _ w6 h7 hs rfl
 refine eV 9 26 (.bool false) ?_
 refine eD0 hs (fun w8 h9 hs=>?_)
 refine tN (cIF (CG.skipN (CG.listed (lL hs [.m 15 5] (lIn 16 ((k:Nat)+1) (k+1) ?_)))))
 refine lL hs [.m 5 16] (lD ?_)
 intro a_ ka
 have q10:(k+1)≤qss.length:=by omega
 replace hs:=hs.tl.tl.tl
 refine ⟨_,_,?_,⟨k+1,h9,rfl,rfl,hs.to _ _,q10⟩,ka.to [(0,.slice A us.length ca),(1,.slice D vs.length cd),(5,.int .i64 ((k+1):Nat))] kR⟩
 omega
theorem mSameNet (A:Option Addr)(ca:Nat)(ts:List LV)(D:Option Addr)(cd:Nat)(rs:List LV)(ls:List Lay)(hn:ls.length≤1000000)(hF:∀ i,LayQ (ls.getD i lay0))(w:World)(h:Hp)(g:G w h)(hA:SlO 3 lvc lvd h A ts)(hN:NetL h ts ls)(hD:SlO 3 lvc lvd h D rs)(hM:RNetL h rs ls)(tb:Tab h) :
    Calls Tryz.prog 13 #[.agg #[.slice A ts.length ca],.agg #[.slice D rs.length cd]] w (Ret w h fun v _=>v=.bool true):=by
 have hs:=SS.start g
 replace hs:=(((((hs.a_SlO hA).add (K:=fun h_=>NetL h_ ts ls) hN).a_SlO hD).add (K:=fun h_=>RNetL h_ rs ls) hM).add (K:=fun h_=>Tab h_) tb)
 have hlt:=(hs.f.2.2.2.1).len
 have hlr:=(hs.f.2.1).len
 refine go Tryz.func13 [(0,.agg #[.slice A ts.length ca]),(1,.agg #[.slice D rs.length cd])] rfl ?_
 refine cSL (lA 2 28 ([.slice A ts.length ca]) hs (fun b1 w2 h3 hs=>?_))
 refine lA 3 36 ([.slice D rs.length cd]) hs (fun b4 w5 h6 hs=>?_)
 refine lL hs [.v 4 (.bool false)] (lN (CG.seq (cSL (lL hs [.v 6 (.pointer (some ⟨b1,0,none⟩)),.o 7 (.slice A ts.length ca) 1 0 1,.v 8 (.int .i64 (ts.length:Nat)),.v 9 (.pointer (some ⟨b4,0,none⟩)),.o 10 (.slice D rs.length cd) 0 0 1,.v 11 (.int .i64 (rs.length:Nat))] ?_))))
 have hb7:(((ts.length:Nat):Int) != ((rs.length:Nat):Int))=false:=bneF oM
 have phb7:=eqOfBne hb7
 refine lB 12 hb7 ?_
 refine lN (cIF (CG.skipN (CG.seq (cSL (lL hs [.v 5 (.int .i64 0)] (lN (CG.block (cTo [(2,.pointer (some ⟨b1,0,none⟩)),(3,.pointer (some ⟨b4,0,none⟩)),(5,.int .i64 0)] ?_))))))))
 refine CG.loop (fun μ_ Γ w_=>∃ (k:Nat) (h_:Hp),μ_=ls.length-k∧Γ=[(2,.pointer (some ⟨b1,0,none⟩)),(3,.pointer (some ⟨b4,0,none⟩)),(5,.int .i64 (k:Nat))]∧SS w h w_ h_ [⟨b4,36,[.slice D rs.length cd]⟩,⟨b1,28,[.slice A ts.length ca]⟩] [] [fun h_=>Tab h_,fun h_=>RNetL h_ rs ls,fun h_=>SlO 3 lvc lvd h_ D rs,fun h_=>NetL h_ ts ls,fun h_=>SlO 3 lvc lvd h_ A ts]∧(k≤ls.length)) _ ⟨0,h6,rfl,rfl,hs.to _ _,Nat.zero_le _⟩ ?_
 rintro _ _ w8 ⟨k,h9,hm10,rfl,hs,hk⟩
 refine CG.seq (cSL (lL hs [.m 13 5,.v 14 (.pointer (some ⟨b1,0,none⟩)),.o 15 (.slice A ts.length ca) 1 0 1,.v 16 (.int .i64 (ts.length:Nat))] ?_))
 cases hb11:(decide (((k:Nat):Int)<((ts.length:Nat):Int)))
 ·
  have phb11:=oF hb11
  refine lB 17 hb11 ?_
  refine lN (cIF (CG.exit ?_))
  show CG _ _ _ _ _ _ _ _
  exact cSL (lL hs [.v 4 (.bool true)] (lN (CG.ret (hs.ret [] (.bool true) rfl))))
 have phb11:=oT hb11
 refine lB 17 hb11 ?_
 refine lN (cIT (CG.skipN (CG.seq (CG.block (CG.seq (cR 45 [] mixed hs al_nil ?_))))))
 refine eV 0 20 (.pointer (some ⟨b1,0,none⟩)) ?_
 refine eO 1 21 [(1,0,1)] (.slice A ts.length ca) hs ?_
 refine eV 2 22 (.int .i64 (k:Nat)) ?_
 refine eX 3 23 A ts.length ca 3 (k:Nat) k ((hs.f.2.2.2.2.1).ok oM) ?_
 refine eV 4 24 (.pointer (some ⟨(aB A),aO A+k*3,none⟩)) ?_
 obtain ⟨ekx,⟨AWx,cWx,usx,eWx,hcWx,hAWx,hUx⟩,⟨ABx,cBx,eBx,hcBx,hABx⟩⟩:=(hs.f.2.2.2.1).at_ k oM
 have lux:=hUx.len
 replace hs:=(((hs.a_SlO hAWx).add (K:=fun h_=>QVs h_ usx (ls.getD k lay0).W) hUx).a_SlO hABx)
 refine eHe 5 25 (.int .i64 ((ts.getD k lvd).1)) hs (((hs.f.2.2.2.2.2.2.2.1).el k oM).part 0 1) (by rw[ekx]) ?_
 refine eV 6 26 (.pointer (some ⟨b4,0,none⟩)) ?_
 refine eO 7 27 [(0,0,1)] (.slice D rs.length cd) hs ?_
 refine eV 8 28 (.int .i64 (k:Nat)) ?_
 refine eX 9 29 D rs.length cd 3 (k:Nat) k ((hs.f.2.2.2.2.2.1).ok oM) ?_
 refine eV 10 30 (.pointer (some ⟨(aB D),aO D+k*3,none⟩)) ?_
 obtain ⟨ekr,⟨AWr,cWr,usr,eWr,hcWr,hAWr,hTWr⟩,⟨ABr,cBr,rsr,eBr,hcBr,hABr,hTBr⟩⟩:=(hs.f.2.2.2.2.1).at_ k oM
 replace hs:=((((hs.a_SlO hAWr).add (K:=fun h_=>RVs h_ usr (ls.getD k lay0).W) hTWr).a_SlO hABr).add (K:=fun h_=>RTs h_ rsr (ls.getD k lay0).B) hTBr)
 refine eHe 11 31 (.int .i64 ((rs.getD k lvd).1)) hs (((hs.f.2.2.2.2.2.2.2.2.2.1).el k oM).part 0 1) (by rw[ekr]) ?_
 have hb12:(((ls.getD k lay0).k:Int) != ((ls.getD k lay0).k:Int))=false:=bneF oM
 have phb12:=eqOfBne hb12
 refine eB 12 32 hb12 ?_
 refine eV 13 33 (.bool false) ?_
 refine eV 14 34 (.pointer (some ⟨b1,0,none⟩)) ?_
 refine eO 15 35 [(1,0,1)] (.slice A ts.length ca) hs ?_
 refine eV 16 36 (.int .i64 (k:Nat)) ?_
 refine eX 17 37 A ts.length ca 3 (k:Nat) k ((hs.f.2.2.2.2.2.2.2.2.2.2.2.1).ok oM) ?_
 refine eV 18 38 (.pointer (some ⟨(aB A),aO A+k*3+1,none⟩)) ?_
 refine eHe 19 39 ((ts.getD k lvd).2.1) hs (((hs.f.2.2.2.2.2.2.2.2.2.2.2.1).el k oM).part 1 1) eWx ?_
 refine eV 20 40 (.pointer (some ⟨b4,0,none⟩)) ?_
 refine eO 21 41 [(0,0,1)] (.slice D rs.length cd) hs ?_
 refine eV 22 42 (.int .i64 (k:Nat)) ?_
 refine eX 23 43 D rs.length cd 3 (k:Nat) k ((hs.f.2.2.2.2.2.2.2.2.2.1).ok oM) ?_
 refine eV 24 44 (.pointer (some ⟨(aB D),aO D+k*3+1,none⟩)) ?_
 refine eHe 25 45 ((rs.getD k lvd).2.1) hs (((hs.f.2.2.2.2.2.2.2.2.2.1).el k oM).part 1 1) eWr ?_
 refine eC 26 46 hs (fun _ _ hs=>hSameRows AWx cWx usx AWr cWr usr (ls.getD k lay0).W (hF k).rl (hF k).rls (hF k).w _ _ hs.g (hs.f.2.2.2.2.2.2.1) (hs.f.2.2.2.2.2.1) (hs.f.2.2.2.1) (hs.f.2.2.1) (hs.f.2.2.2.2.2.2.2.1)) ?_
 rintro _ _ _ w13 h14 hs rfl
 refine eV 27 47 (.bool false) ?_
 refine eV 28 48 (.bool false) ?_
 refine eV 29 49 (.bool false) ?_
 refine eV 30 50 (.pointer (some ⟨b1,0,none⟩)) ?_
 refine eO 31 51 [(1,0,1)] (.slice A ts.length ca) hs ?_
 refine eV 32 52 (.int .i64 (k:Nat)) ?_
 refine eX 33 53 A ts.length ca 3 (k:Nat) k ((hs.f.2.2.2.2.2.2.2.2.2.2.2.1).ok oM) ?_
 refine eV 34 54 (.pointer (some ⟨(aB A),aO A+k*3+2,none⟩)) ?_
 refine eHe 35 55 ((ts.getD k lvd).2.2) hs (((hs.f.2.2.2.2.2.2.2.2.2.2.2.1).el k oM).part 2 1) eBx ?_
 refine eV 36 56 (.pointer (some ⟨b4,0,none⟩)) ?_
 refine eO 37 57 [(0,0,1)] (.slice D rs.length cd) hs ?_
 refine eV 38 58 (.int .i64 (k:Nat)) ?_
 refine eX 39 59 D rs.length cd 3 (k:Nat) k ((hs.f.2.2.2.2.2.2.2.2.2.1).ok oM) ?_
 refine eV 40 60 (.pointer (some ⟨(aB D),aO D+k*3+2,none⟩)) ?_
 refine eHe 41 61 ((rs.getD k lvd).2.2) hs (((hs.f.2.2.2.2.2.2.2.2.2.1).el k oM).part 2 1) eBr ?_
 refine eC 42 62 hs (fun _ _ hs=>hSameRowS ABx cBx (ls.getD k lay0).B ABr cBr rsr (hF k).bl (hF k).b _ _ hs.g (hs.f.2.2.2.2.1) (hs.f.2.1) (hs.f.1) (hs.f.2.2.2.2.2.2.2.1)) ?_
 rintro _ _ _ w15 h16 hs rfl
 refine eV 43 63 (.bool false) ?_
 refine eV 44 64 (.bool false) ?_
 refine eD0 hs (fun w17 h18 hs=>?_)
 refine tN (cTo [(2,.pointer (some ⟨b1,0,none⟩)),(3,.pointer (some ⟨b4,0,none⟩)),(5,.int .i64 (k:Nat)),(64,.bool false)] ?_)
 refine cIF (CG.skipN (CG.listed (lL hs [.m 18 5] (lIn 19 ((k:Nat)+1) (k+1) ?_))))
 refine lL hs [.m 5 19] (lD ?_)
 intro a_ ka
 have q19:(k+1)≤ls.length:=by omega
 replace hs:=hs.tl.tl.tl.tl.tl.tl.tl
 refine ⟨_,_,?_,⟨k+1,h18,rfl,rfl,hs.to _ _,q19⟩,ka.to [(2,.pointer (some ⟨b1,0,none⟩)),(3,.pointer (some ⟨b4,0,none⟩)),(5,.int .i64 ((k+1):Nat))] kR⟩
 omega
theorem drawLays_s (dr:Nat→Nat × Nat)(S:List Nat)(kind:Int)(half s k:Nat):(drawLays dr S kind half s (k+1)).1=(drawLays dr S kind half s k).1++[⟨if k+2=S.length then 1 else kind,(drawMat dr half (S.getD k 0) (drawLays dr S kind half s k).2 (S.getD (k+1) 0)).1,List.replicate (S.getD (k+1) 0) 0⟩]:=rfl
theorem drawMat_s (dr:Nat→Nat × Nat)(half c s r:Nat):(drawMat dr half c s (r+1)).1=(drawMat dr half c s r).1++[(drawRow dr half (drawMat dr half c s r).2 c).1]:=rfl
theorem dDraw (dr:Nat→Nat × Nat){n:Nat}(hdr:dr=belowq n)(rbk s:Nat)(hs_:s<18446744073709551616)(hn0:0<n)(hn:n<9223372036854775808)(w:World)(h:Hp)(g:G w h)(ho:Own w rbk 118 [.int .u64 (s:Nat)])(hj:h[rbk]?=some junk) :
    Calls Tryz.prog 49 #[.pointer (some ⟨rbk,0,none⟩),.int .i64 (n:Nat)] w (RetM rbk w h fun v w' _=>v=.int .i64 ((dr s).1:Nat)∧Own w' rbk 118 [.int .u64 ((dr s).2:Nat)]):=by
  subst hdr;exact dBelow rbk s n hs_ hn0 hn w h g ho hj
theorem dNew (s:Nat)(w:World)(h:Hp)(g:G w h) :
    Calls Tryz.prog 10 #[.int .u64 (s:Nat)] w (Ret w h fun v h1=>∃ b,v=.pointer (some ⟨b,0,none⟩)∧h.size≤b∧h1[b]?=some (.cells [.int .u64 (s:Nat)].toArray 118 (0,0))):=by
 have hs:=SS.start g
 refine go Tryz.func10 [(0,.int .u64 (s:Nat))] rfl ?_
 refine cSL (lL hs [.v 2 (.pointer none)] (lNS (lL hs [.m 3 0,.v 4 (.agg #[.int .u64 (s:Nat)])] (lA 5 118 ([.int .u64 (s:Nat)]) hs (fun b1 w2 h3 hs=>?_)))))
 refine lL hs [.m 2 5] (lN (CG.ret ?_))
 obtain ⟨hq,hs,sg_,lo_,bc_⟩:=hs.pub 0
 exact hs.ret [] (.pointer (some ⟨b1,0,none⟩)) ⟨_,rfl,lo_,bc_⟩
theorem nMake (A:Option Addr)(cap:Nat)(S:List Nat)(hcap:S.length≤cap)(kd bt:Int)(rbk s:Nat)(hs_:s<18446744073709551616)(half:Nat)(hhf:half=2^bt.toNat)(dr:Nat→Nat × Nat)(hdr:dr=belowq (2*half+1))(w:World)(h:Hp)(g:G w h)(ho:Own w rbk 118 [.int .u64 (s:Nat)])(hj:h[rbk]?=some junk)(hA:SlO 1 natc 0 h A S)(tb:Tab h) :
    Calls Tryz.prog 9 #[.slice A S.length cap,.int .i64 kd,.int .i64 bt,.pointer (some ⟨rbk,0,none⟩)] w (RetM rbk w h fun v w' h1=>∃ A c,∃ us:List LV,∃ ls:List Lay,∃ E:Int,v=.tuple #[.agg #[.slice A us.length c],.int .i64 E]∧us.length≤c∧SlO 3 lvc lvd h1 A us∧NetL h1 us ls∧MakeP S kd bt E∧(E=0→ls=(drawLays dr S kd half s (S.length-1)).1)∧(E≠0→ls=[])∧∃ s2:Nat,Own w' rbk 118 [.int .u64 (s2:Nat)]):=by
 obtain ⟨wd,hdf,hO,hs⟩:∃ wd,Dif [rbk] w wd∧Own wd rbk 118 [.int .u64 (s:Nat)]∧SS wd h w h [] [] []:=⟨w,Dif.refl _ _,ho,SS.start g⟩
 replace hs:=((hs.a_SlO hA).add (K:=fun h_=>Tab h_) tb)
 have hd1:(S.drop 1).length=S.length-1:=by simp
 have hdl:∀ s,s<18446744073709551616→(dr s).1<2*half+1∧(dr s).2<18446744073709551616:=fun s h=>hdr▸belowq_lt oM h
 refine go Tryz.func9 [(0,.slice A S.length cap),(1,.int .i64 kd),(2,.int .i64 bt),(3,.pointer (some ⟨rbk,0,none⟩))] rfl ?_
 refine cSL (lA 8 28 ([.slice none 0 0]) hs (fun b1 w2 h3 hs=>?_))
 refine lL hs [.v 9 (.int .i64 0)] (lN (CG.seq (cSL (lL hs [.m 19 0,.v 20 (.int .i64 (S.length:Nat))] ?_))))
 cases hb4:(decide (((S.length:Nat):Int)<(2:Int)))
 ·
  have phb4:=oF hb4
  refine lB 21 hb4 ?_
  refine lL hs [.m 22 21,.m 23 0,.v 24 (.int .i64 (S.length:Nat))] ?_
  cases hb5:(decide ((5:Int)<((S.length:Nat):Int)))
  ·
   have phb5:=oF hb5
   refine lB 25 hb5 ?_
   refine lL hs [.v 26 (.bool false),.m 27 26,.m 28 0] (lX 29 A S.length cap 1 0 0 ((hs.f.2.1).ok oM) ?_)
   refine lH 30 (.int .i64 (S.getD 0 0:Nat)) hs ((hs.f.2.1).el 0 oM) ?_
   cases hb6:(decide (((S.getD 0 0:Nat):Int)<(1:Int)))
   ·
    have phb6:=oF hb6
    refine lB 31 hb6 ?_
    refine lL hs [.v 32 (.bool false),.m 33 32,.m 34 0] (lX 35 A S.length cap 1 0 0 ((hs.f.2.1).ok oM) ?_)
    refine lH 36 (.int .i64 (S.getD 0 0:Nat)) hs ((hs.f.2.1).el 0 oM) ?_
    cases hb7:(decide ((20:Int)<((S.getD 0 0:Nat):Int)))
    ·
     have phb7:=oF hb7
     refine lB 37 hb7 ?_
     refine lL hs [.v 38 (.bool false)] (lN (cIF (CG.skipN (CG.seq (cSL (lL hs [.m 40 0] (lF 41 A S.length cap 1 1 1 ?_)))))))
     replace hs:=hs.a_SlO ((hs.f.2.1).drop 1 cap hcap)
     refine lL hs [.v 42 (.int .i64 (S.length-1:Nat)),.v 43 (.int .i64 0)] (lN (CG.block (cTo [(0,.slice A S.length cap),(1,.int .i64 kd),(2,.int .i64 bt),(3,.pointer (some ⟨rbk,0,none⟩)),(8,.pointer (some ⟨b1,0,none⟩)),(41,.slice (if cap=1 then A else A.map (·.add (1*1))) (S.length-1) (cap-1)),(42,.int .i64 (S.length-1:Nat)),(43,.int .i64 0)] ?_)))
     refine CG.loop (fun μ_ Γ w_=>∃ (k:Nat) (h_:Hp),μ_=S.length-1-k∧Γ=[(0,.slice A S.length cap),(1,.int .i64 kd),(2,.int .i64 bt),(3,.pointer (some ⟨rbk,0,none⟩)),(8,.pointer (some ⟨b1,0,none⟩)),(41,.slice (if cap=1 then A else A.map (·.add (1*1))) (S.length-1) (cap-1)),(42,.int .i64 (S.length-1:Nat)),(43,.int .i64 (k:Nat))]∧SS wd h w_ h_ [⟨b1,28,[.slice none 0 0]⟩] [] [fun h_=>SlO 1 natc 0 h_ (if cap=1 then A else A.map (·.add (1*1))) (S.drop 1),fun h_=>Tab h_,fun h_=>SlO 1 natc 0 h_ A S]∧(k≤S.length-1)∧(∀ i,0<i→i≤k→1≤S.getD i 0∧S.getD i 0≤12)) _ ⟨0,h3,rfl,rfl,hs.to _ _,Nat.zero_le _,fun i a b=>by omega⟩ ?_
     rintro _ _ w9 ⟨k,h10,hm11,rfl,hs,hk,hzz⟩
     refine cSL ?_
     cases hb12:(decide (((k:Nat):Int)<((S.length-1:Nat):Int)))
     ·
      have phb12:=oF hb12
      refine lB 44 hb12 ?_
      refine lN (CG.seq (cIF (CG.exit ?_)))
      show CG _ _ _ _ _ _ _ _
      refine CG.seq (cSL ?_)
      have hz:SzOk S:=⟨by omega,by omega,by omega,fun i h0 h1=>hzz i h0 oM⟩
      refine lL hs [.m 55 1] (lC 56 hs (nKnownG kd _ _ hs.g) ?_)
      rintro _ w13 h14 hs rfl
      cases hb15:(decide (1≤kd∧kd≤3))
      ·
       have phb15:=oF hb15
       refine lL hs [.v 57 (.bool true)] (lN (cIT (cSL (lL hs [.v 58 (.agg #[.slice none 0 0])] (lP 0 0 ([.slice none 0 0]) hs (fun w16 hs=>?_))))))
       exact lL hs [.v 9 (.int .i64 10)] (lN (CG.ret (hs.retM (hs.upF hdf) [(0,0,1)] (.tuple #[.agg #[.slice none 0 0],.int .i64 10]) ⟨none,0,[],[],10,rfl,Nat.le_refl _,SlO.nil,NetL.nil,mkp10 hz oM,fun e=>absurd e kD,fun _=>rfl,_,hs.fown hO⟩)))
      have phb15:=oT hb15
      refine lL hs [.v 57 (.bool false)] (lN (cIF (CG.skipN (CG.seq (cSL (lL hs [.m 59 2] ?_))))))
      cases hb17:(decide ((bt:Int)<(0:Int)))
      ·
       have phb17:=oF hb17
       refine lB 60 hb17 ?_
       refine lL hs [.m 61 60,.m 62 2] ?_
       cases hb18:(decide ((16:Int)<(bt:Int)))
       ·
        have phb18:=oF hb18
        refine lB 63 hb18 ?_
        refine lL hs [.v 64 (.bool false),.m 65 64,.m 66 3,.v 67 (.bool false),.v 68 (.bool false)] (lN (cIF (CG.skipN (cSL ?_))))
        have hb1:0≤bt∧bt≤16:=by omega
        have hh1:half≤65536:=by rw[hhf];exact Nat.pow_le_pow_right (n:=2) kD (show bt.toNat≤16 by omega)
        have hh0:0<half:=by rw[hhf];exact Nat.two_pow_pos _
        refine lL hs [.m 70 2] (lV 71 (.int .i64 (half:Nat)) ?_ (hr:=opShlI bt.toNat (t:=3) (u:=3) (x:=.const (.int .i64 1)) (y:=.tmp 70) (ky:=.i64) (b:=bt) kR kR kR oM oM hhf _))
        refine lL hs [.m 12 71] (lNS (lA 13 28 ([.slice none 0 0]) hs (fun b19 w20 h21 hs=>?_)))
        refine lN (CG.seq (cSL (lL hs [.m 72 0] (lF 73 A S.length cap 1 1 1 ?_))))
        replace hs:=hs.a_SlO ((hs.f.2.2.1).drop 1 cap hcap)
        refine lL hs [.v 74 (.int .i64 (S.length-1:Nat)),.v 75 (.int .i64 0)] (lN (CG.block ?_))
        replace hs:=hs.nil 77 3
        refine cTo [(0,.slice A S.length cap),(1,.int .i64 kd),(3,.pointer (some ⟨rbk,0,none⟩)),(8,.pointer (some ⟨b1,0,none⟩)),(12,.int .i64 (half:Nat)),(13,.pointer (some ⟨b19,0,none⟩)),(73,.slice (if cap=1 then A else A.map (·.add (1*1))) (S.length-1) (cap-1)),(74,.int .i64 (S.length-1:Nat)),(75,.int .i64 0)] ?_
        replace hs:=hs.add (K:=fun h_=>NetL h_ ([]) (drawLays dr S kd half s 0).1) (NetL.nil)
        refine CG.loop (fun μ_ Γ w_=>∃ (k:Nat) (snA:Option Addr) (snc:Nat) (us:List LV) (s1:Nat) (wd:World) (h_:Hp),μ_=S.length-1-k∧Γ=[(0,.slice A S.length cap),(1,.int .i64 kd),(3,.pointer (some ⟨rbk,0,none⟩)),(8,.pointer (some ⟨b1,0,none⟩)),(12,.int .i64 (half:Nat)),(13,.pointer (some ⟨b19,0,none⟩)),(73,.slice (if cap=1 then A else A.map (·.add (1*1))) (S.length-1) (cap-1)),(74,.int .i64 (S.length-1:Nat)),(75,.int .i64 (k:Nat))]∧SS wd h w_ h_ [⟨b19,28,[.slice snA ((us).length) snc]⟩,⟨b1,28,[.slice none 0 0]⟩] [⟨77,3,snA,snc,(us).length,(us).flatMap lvc⟩] [fun h_=>NetL h_ us (drawLays dr S kd half s k).1,fun h_=>SlO 1 natc 0 h_ (if cap=1 then A else A.map (·.add (1*1))) (S.drop 1),fun h_=>SlO 1 natc 0 h_ (if cap=1 then A else A.map (·.add (1*1))) (S.drop 1),fun h_=>Tab h_,fun h_=>SlO 1 natc 0 h_ A S]∧(k≤S.length-1)∧(s1=(drawLays dr S kd half s k).2)∧(Dif [rbk] w wd)∧(Own wd rbk 118 [.int .u64 (s1:Nat)])∧(s1<18446744073709551616)) _ ⟨0,none,0,[],s,wd,h21,rfl,rfl,hs.to _ _,Nat.zero_le _,rfl,hdf,hO,hs_⟩ ?_
        rintro _ _ w23 ⟨k,snA,snc,us,s1,wd,h24,hm25,rfl,hs,hk,hs1,hdf,hO,hs1l⟩
        have hlu:=(hs.f.1).len
        rw[drawLays_len] at hlu
        refine cSL ?_
        cases hb26:(decide (((k:Nat):Int)<((S.length-1:Nat):Int)))
        ·
         have phb26:=oF hb26
         refine lB 76 hb26 ?_
         refine lN (CG.seq (cIF (CG.exit ?_)))
         show CG _ _ _ _ _ _ _ _
         refine cSL ?_
         obtain ⟨h27,hs,hc28⟩:=hs.pubr 0 (A:=snA) (c:=snc) (l:=us) (f:=lvc) (ty:=77) (sz:=3) lvd (fun _=>rfl)
         refine lL hs [.o 144 (.agg #[.slice snA ((us).length) snc]) 0 0 1] (lP 1 0 ([.slice snA ((us).length) snc]) hs (fun w30 hs=>?_))
         exact lL hs [.v 9 (.int .i64 0)] (lN (CG.ret (hs.retM (hs.upF hdf) [(1,0,1)] (.tuple #[.agg #[.slice snA ((us).length) snc],.int .i64 0]) ⟨_,_,us,_,0,rfl,hc28,(hs.f.1),(hs.f.2.1),mkp0 hz oM hb1,fun _=>by rw[show S.length-1=k by omega],fun e=>absurd rfl e,_,hs.fown hO⟩)))
        have phb26:=oT hb26
        refine lB 76 hb26 ?_
        refine lN (CG.seq (cIT (CG.skipN (CG.seq (CG.block (cSL (lL hs [.m 77 75] (lX 78 (if cap=1 then A else A.map (·.add (1*1))) (S.length-1) (cap-1) 1 (k:Nat) k ((hs.f.2.1).ok oM) ?_))))))))
        refine lHe 79 (.int .i64 ((S.drop 1).getD k 0:Nat)) hs ((hs.f.2.1).el k oM) (by rw[getD_drop1]) ?_
        refine lL hs [.m 14 77,.m 15 79] (lN (CG.seq ?_))
        have hsr:=hs
        refine cR 7 [⟨6,16,.cells (List.toArray [.int .i64 0,.slice none 0 0,.slice none 0 0]) 77 (0,0)⟩] mixed hs (al_cons (alOk kR (fun _ _=>by kernel_rfl)) al_nil) ?_
        have hz1:=hz.r (k+1) oM oM
        have hz0:1≤S.getD k 0∧S.getD k 0≤20:=by
          by_cases e:k=0
          · subst e;exact hz.f
          · have:=hz.r k oM oM;omega
        refine eV 0 80 (.int .i64 kd) ?_
        refine eV 1 81 (.int .i64 (S.getD (k+1) 0:Nat)) ?_
        refine eV 3 83 (.int .i64 (S.getD (k+1) 0:Nat)) ?_
        refine eK2 2 82 73 (S.getD (k+1) 0) 5 56 (.agg #[.bool false,.int .u64 0,.string ⟨#[]⟩,.int .u64 0,.string ⟨#[]⟩]) qc 0 4 84 75 (S.getD (k+1) 0) 1 24 (.slice none 0 0) vc (.slice none 0 0:Value) hs (fun b31 b32 w33 h34 hs=>?_)
        have hl35:(List.replicate (S.getD (k+1) 0) (0:Rat)).length=(S.getD (k+1) 0):=by simp
        have hl36:(List.replicate (S.getD (k+1) 0) ((.slice none 0 0:Value):Value)).length=(S.getD (k+1) 0):=by simp
        refine eV 5 85 (.agg #[.int .i64 kd,.slice (some ⟨b32,0,none⟩) (S.getD (k+1) 0) (S.getD (k+1) 0),.slice (some ⟨b31,0,none⟩) (S.getD (k+1) 0) (S.getD (k+1) 0)]) ?_
        refine eD1p [⟨b32,75,(List.replicate (S.getD (k+1) 0) ((.slice none 0 0:Value):Value)).flatMap vc⟩,⟨b31,73,(List.replicate (S.getD (k+1) 0) (0:Rat)).flatMap qc⟩] hsr hs 77 [.int .i64 0,.slice none 0 0,.slice none 0 0] (fun w37 h38 b39 hs=>?_)
        refine tP 7 0 0 ([.int .i64 kd,.slice (some ⟨b32,0,none⟩) (S.getD (k+1) 0) (S.getD (k+1) 0),.slice (some ⟨b31,0,none⟩) (S.getD (k+1) 0) (S.getD (k+1) 0)]) hs (fun w40 hs=>?_)
        refine tN (CG.join (fun Γ w_=>∃ (kx:Int) (h_:Hp),Γ=[(0,.slice A S.length cap),(1,.int .i64 kd),(3,.pointer (some ⟨rbk,0,none⟩)),(8,.pointer (some ⟨b1,0,none⟩)),(12,.int .i64 (half:Nat)),(13,.pointer (some ⟨b19,0,none⟩)),(73,.slice (if cap=1 then A else A.map (·.add (1*1))) (S.length-1) (cap-1)),(74,.int .i64 (S.length-1:Nat)),(75,.int .i64 (k:Nat)),(14,.int .i64 (k:Nat)),(16,.pointer (some ⟨b39,0,none⟩))]∧SS wd h w_ h_ [⟨b39,77,[.int .i64 kx,.slice (some ⟨b32,0,none⟩) (S.getD (k+1) 0) (S.getD (k+1) 0),.slice (some ⟨b31,0,none⟩) (S.getD (k+1) 0) (S.getD (k+1) 0)]⟩,⟨b32,75,(List.replicate (S.getD (k+1) 0) ((.slice none 0 0:Value):Value)).flatMap vc⟩,⟨b31,73,(List.replicate (S.getD (k+1) 0) (0:Rat)).flatMap qc⟩,⟨b19,28,[.slice snA ((us).length) snc]⟩,⟨b1,28,[.slice none 0 0]⟩] [⟨77,3,snA,snc,(us).length,(us).flatMap lvc⟩] [fun h_=>NetL h_ us (drawLays dr S kd half s k).1,fun h_=>SlO 1 natc 0 h_ (if cap=1 then A else A.map (·.add (1*1))) (S.drop 1),fun h_=>SlO 1 natc 0 h_ (if cap=1 then A else A.map (·.add (1*1))) (S.drop 1),fun h_=>Tab h_,fun h_=>SlO 1 natc 0 h_ A S]∧(kx=(if k+2=S.length then 1 else kd))) ?_ ?_)
        ·
         refine cSL (lL hs [.m 86 14,.m 87 0,.v 88 (.int .i64 (S.length:Nat))] (lIn 89 ((S.length:Nat)-2) (S.length-2) ?_))
         cases hb41:(((k:Nat):Int) == ((S.length-2:Nat):Int))
         ·
          have phb41:=neOfBeq hb41
          refine lB 90 hb41 ?_
          refine lN (cIF (CG.skip ?_))
          intro a_ ka
          have q42:kd=(if k+2=S.length then 1 else kd):=by first|(rw[if_pos oM];done)|(rw[if_neg oM];done)
          exact ⟨_,⟨kd,h38,rfl,hs.to _ _,q42⟩,ka.to [(0,.slice A S.length cap),(1,.int .i64 kd),(3,.pointer (some ⟨rbk,0,none⟩)),(8,.pointer (some ⟨b1,0,none⟩)),(12,.int .i64 (half:Nat)),(13,.pointer (some ⟨b19,0,none⟩)),(73,.slice (if cap=1 then A else A.map (·.add (1*1))) (S.length-1) (cap-1)),(74,.int .i64 (S.length-1:Nat)),(75,.int .i64 (k:Nat)),(14,.int .i64 (k:Nat)),(16,.pointer (some ⟨b39,0,none⟩))] kR⟩
         have phb41:=eq_of_beq hb41
         refine lB 90 hb41 ?_
         refine lN (cIT (CG.listed (lL hs [.v 91 (.pointer (some ⟨b39,0,none⟩))] (lP 0 0 ([.int .i64 1]) hs (fun w43 hs=>?_)))))
         refine lD ?_
         intro a_ ka
         have q44:1=(if k+2=S.length then 1 else kd):=by first|(rw[if_pos oM];done)|(rw[if_neg oM];done)
         exact ⟨_,⟨1,h38,rfl,hs.to _ _,q44⟩,ka.to [(0,.slice A S.length cap),(1,.int .i64 kd),(3,.pointer (some ⟨rbk,0,none⟩)),(8,.pointer (some ⟨b1,0,none⟩)),(12,.int .i64 (half:Nat)),(13,.pointer (some ⟨b19,0,none⟩)),(73,.slice (if cap=1 then A else A.map (·.add (1*1))) (S.length-1) (cap-1)),(74,.int .i64 (S.length-1:Nat)),(75,.int .i64 (k:Nat)),(14,.int .i64 (k:Nat)),(16,.pointer (some ⟨b39,0,none⟩))] kR⟩
        rintro _ w45 ⟨kx,h46,rfl,hs,hkx⟩
        refine CG.seq (cSL (lL hs [.v 92 (.pointer (some ⟨b39,1,none⟩)),.o 93 (.slice (some ⟨b32,0,none⟩) (S.getD (k+1) 0) (S.getD (k+1) 0)) 0 1 1,.v 94 (.int .i64 ((S.getD (k+1) 0):Nat)),.v 95 (.int .i64 0)] (lN (CG.block (cTo [(0,.slice A S.length cap),(1,.int .i64 kd),(3,.pointer (some ⟨rbk,0,none⟩)),(8,.pointer (some ⟨b1,0,none⟩)),(12,.int .i64 (half:Nat)),(13,.pointer (some ⟨b19,0,none⟩)),(73,.slice (if cap=1 then A else A.map (·.add (1*1))) (S.length-1) (cap-1)),(74,.int .i64 (S.length-1:Nat)),(75,.int .i64 (k:Nat)),(14,.int .i64 (k:Nat)),(16,.pointer (some ⟨b39,0,none⟩)),(94,.int .i64 ((S.getD (k+1) 0):Nat)),(95,.int .i64 0)] ?_)))))
        replace hs:=hs.add (K:=fun h_=>QVk h_ (List.replicate (S.getD (k+1) 0) ((.slice none 0 0:Value):Value)) (drawMat dr half (S.getD k 0) s1 0).1) (QVk.nil)
        refine CG.loop (fun μ_ Γ w_=>∃ (r:Nat) (Wv:List Value) (s2:Nat) (wd:World) (h_:Hp),μ_=S.getD (k+1) 0-r∧Γ=[(0,.slice A S.length cap),(1,.int .i64 kd),(3,.pointer (some ⟨rbk,0,none⟩)),(8,.pointer (some ⟨b1,0,none⟩)),(12,.int .i64 (half:Nat)),(13,.pointer (some ⟨b19,0,none⟩)),(73,.slice (if cap=1 then A else A.map (·.add (1*1))) (S.length-1) (cap-1)),(74,.int .i64 (S.length-1:Nat)),(75,.int .i64 (k:Nat)),(14,.int .i64 (k:Nat)),(16,.pointer (some ⟨b39,0,none⟩)),(94,.int .i64 ((S.getD (k+1) 0):Nat)),(95,.int .i64 (r:Nat))]∧SS wd h w_ h_ [⟨b39,77,[.int .i64 kx,.slice (some ⟨b32,0,none⟩) (S.getD (k+1) 0) (S.getD (k+1) 0),.slice (some ⟨b31,0,none⟩) (S.getD (k+1) 0) (S.getD (k+1) 0)]⟩,⟨b32,75,(Wv).flatMap vc⟩,⟨b31,73,(List.replicate (S.getD (k+1) 0) (0:Rat)).flatMap qc⟩,⟨b19,28,[.slice snA ((us).length) snc]⟩,⟨b1,28,[.slice none 0 0]⟩] [⟨77,3,snA,snc,(us).length,(us).flatMap lvc⟩] [fun h_=>QVk h_ Wv (drawMat dr half (S.getD k 0) s1 r).1,fun h_=>NetL h_ us (drawLays dr S kd half s k).1,fun h_=>SlO 1 natc 0 h_ (if cap=1 then A else A.map (·.add (1*1))) (S.drop 1),fun h_=>SlO 1 natc 0 h_ (if cap=1 then A else A.map (·.add (1*1))) (S.drop 1),fun h_=>Tab h_,fun h_=>SlO 1 natc 0 h_ A S]∧(r≤S.getD (k+1) 0)∧(Wv.length=S.getD (k+1) 0)∧(s2=(drawMat dr half (S.getD k 0) s1 r).2)∧(Dif [rbk] w wd)∧(Own wd rbk 118 [.int .u64 (s2:Nat)])∧(s2<18446744073709551616)) _ ⟨0,List.replicate (S.getD (k+1) 0) ((.slice none 0 0:Value):Value),s1,wd,h46,rfl,rfl,hs.to _ _,Nat.zero_le _,hl36,rfl,hdf,hO,hs1l⟩ ?_
        rintro _ _ w47 ⟨r,Wv,s2,wd,h48,hm49,rfl,hs,hr,hWv,hs2,hdf,hO,hs2l⟩
        refine cSL ?_
        cases hb50:(decide (((r:Nat):Int)<(((S.getD (k+1) 0):Nat):Int)))
        ·
         have phb50:=oF hb50
         refine lB 96 hb50 ?_
         refine lN (CG.seq (cIF (CG.exit ?_)))
         show CG _ _ _ _ _ _ _ _
         refine CG.listed ?_
         have hre:r=S.getD (k+1) 0:=by omega
         obtain ⟨h51,hs,sg52,lo53,bc54⟩:=hs.pub 1
         replace hs:=(hs.to [⟨b39,77,[.int .i64 kx,.slice (some ⟨b32,0,none⟩) (S.getD (k+1) 0) (S.getD (k+1) 0),.slice (some ⟨b31,0,none⟩) (S.getD (k+1) 0) (S.getD (k+1) 0)]⟩,⟨b31,73,(List.replicate (S.getD (k+1) 0) (0:Rat)).flatMap qc⟩,⟨b19,28,[.slice snA ((us).length) snc]⟩,⟨b1,28,[.slice none 0 0]⟩] [⟨77,3,snA,snc,(us).length,(us).flatMap lvc⟩]).a_SlO (SlO.of_flat (sz:=1) (f:=vc) (d:=undef) (b:=b32) (o:=0) (l:=Wv) (fun _=>rfl) sg52)
         obtain ⟨h56,hs,sg57,lo58,bc59⟩:=hs.pub 1
         replace hs:=(hs.to [⟨b39,77,[.int .i64 kx,.slice (some ⟨b32,0,none⟩) (S.getD (k+1) 0) (S.getD (k+1) 0),.slice (some ⟨b31,0,none⟩) (S.getD (k+1) 0) (S.getD (k+1) 0)]⟩,⟨b19,28,[.slice snA ((us).length) snc]⟩,⟨b1,28,[.slice none 0 0]⟩] [⟨77,3,snA,snc,(us).length,(us).flatMap lvc⟩]).a_SlO (SlO.of_flat (sz:=5) (f:=qc) (d:=0) (b:=b31) (o:=0) (l:=List.replicate (S.getD (k+1) 0) (0:Rat)) (fun _=>rfl) sg57)
         replace hs:=hs.add (K:=fun h_=>QVs h_ Wv (drawMat dr half (S.getD k 0) s1 (S.getD (k+1) 0)).1) ((hre▸(hs.f.2.2.1):QVk _ _ _).qvs (by rw[drawMat_len];exact hWv))
         refine lL hs [.v 137 (.pointer (some ⟨b19,0,none⟩)),.o 138 (.slice snA ((us).length) snc) 1 0 1,.o 139 (.agg #[.int .i64 kx,.slice (some ⟨b32,0,none⟩) (S.getD (k+1) 0) (S.getD (k+1) 0),.slice (some ⟨b31,0,none⟩) (S.getD (k+1) 0) (S.getD (k+1) 0)]) 0 0 3] (lR 140 77 1 ([.int .i64 kx,.slice (some ⟨b32,0,none⟩) (S.getD (k+1) 0) (S.getD (k+1) 0),.slice (some ⟨b31,0,none⟩) (S.getD (k+1) 0) (S.getD (k+1) 0)]) hs (fun b61 w62 h63 hs=>?_))
         refine lY 141 0 77 3 snc snA us lvc ((kx,.slice (some ⟨b32,0,none⟩) (S.getD (k+1) 0) (S.getD (k+1) 0),.slice (some ⟨b31,0,none⟩) (S.getD (k+1) 0) (S.getD (k+1) 0)):LV) 56 b61 (.agg #[.int .i64 0,.slice none 0 0,.slice none 0 0]) hs (hs.f.1) (fun A65 c66 w67 h68 hs=>?_)
         refine lL hs [.v 142 (.pointer (some ⟨b19,0,none⟩))] (lP 1 0 ([.slice A65 ((us++[((kx,.slice (some ⟨b32,0,none⟩) (S.getD (k+1) 0) (S.getD (k+1) 0),.slice (some ⟨b31,0,none⟩) (S.getD (k+1) 0) (S.getD (k+1) 0)):LV)]).length) c66]) hs (fun w70 hs=>?_))
         refine lN (CG.listed (lIn 143 ((k:Nat)+1) (k+1) ?_))
         refine lL hs [.m 75 143] (lD ?_)
         intro a_ ka
         have q71:NetL h68 (us++[((kx,.slice (some ⟨b32,0,none⟩) (S.getD (k+1) 0) (S.getD (k+1) 0),.slice (some ⟨b31,0,none⟩) (S.getD (k+1) 0) (S.getD (k+1) 0)):LV)]) (drawLays dr S kd half s (k+1)).1:=(by rw[drawLays_s,←hs1,←hkx];exact (hs.f.2.2.2.2.2.1).snoc ⟨rfl,⟨some ⟨b32,0,none⟩,S.getD (k+1) 0,Wv,by rw[hWv],by omega,(hs.f.2.2.2.1),(hs.f.2.1)⟩,⟨some ⟨b31,0,none⟩,S.getD (k+1) 0,by rw[List.length_replicate],by rw[List.length_replicate];exact Nat.le_refl _,(hs.f.2.2.1)⟩⟩)
         have q72:(k+1)≤S.length-1:=by omega
         have q73:s2=(drawLays dr S kd half s (k+1)).2:=(by rw[hs2,show r=S.getD (k+1) 0 by omega,hs1];rfl)
         have q74:Dif [rbk] w wd:=hdf
         have q75:Own wd rbk 118 [.int .u64 (s2:Nat)]:=hO
         have q76:s2<18446744073709551616:=hs2l
         replace hs:=(hs.tl.tl.tl.tl.tl.tl.add (K:=fun h_=>NetL h_ (us++[((kx,.slice (some ⟨b32,0,none⟩) (S.getD (k+1) 0) (S.getD (k+1) 0),.slice (some ⟨b31,0,none⟩) (S.getD (k+1) 0) (S.getD (k+1) 0)):LV)]) (drawLays dr S kd half s (k+1)).1) q71)
         replace hs:=hs.drop 1 0
         refine ⟨_,_,?_,⟨k+1,A65,c66,us++[((kx,.slice (some ⟨b32,0,none⟩) (S.getD (k+1) 0) (S.getD (k+1) 0),.slice (some ⟨b31,0,none⟩) (S.getD (k+1) 0) (S.getD (k+1) 0)):LV)],s2,wd,h68,rfl,rfl,hs.to _ _,q72,q73,q74,q75,q76⟩,ka.to [(0,.slice A S.length cap),(1,.int .i64 kd),(3,.pointer (some ⟨rbk,0,none⟩)),(8,.pointer (some ⟨b1,0,none⟩)),(12,.int .i64 (half:Nat)),(13,.pointer (some ⟨b19,0,none⟩)),(73,.slice (if cap=1 then A else A.map (·.add (1*1))) (S.length-1) (cap-1)),(74,.int .i64 (S.length-1:Nat)),(75,.int .i64 ((k+1):Nat))] kR⟩
         omega
        have phb50:=oT hb50
        refine lB 96 hb50 ?_
        refine lN (CG.seq (cIT (CG.skipN (CG.seq (CG.block (cSL (lL hs [.m 97 95,.m 17 97] (lN (CG.seq (cR 8 [] mixed hs al_nil ?_))))))))))
        refine eV 0 98 (.pointer (some ⟨b39,1,none⟩)) ?_
        refine eO 1 99 [(0,1,1)] (.slice (some ⟨b32,0,none⟩) (S.getD (k+1) 0) (S.getD (k+1) 0)) hs ?_
        refine eV 2 100 (.int .i64 (r:Nat)) ?_
        refine eV 3 101 (.slice A S.length cap) ?_
        refine eV 4 102 (.int .i64 (k:Nat)) ?_
        refine eX 5 103 A S.length cap 1 (k:Nat) k ((hs.f.2.2.2.2.2.1).ok oM) ?_
        refine eH 6 104 (.int .i64 (S.getD k 0:Nat)) hs ((hs.f.2.2.2.2.2.1).el k oM) ?_
        refine eK 7 105 73 (S.getD k 0) 5 56 (.agg #[.bool false,.int .u64 0,.string ⟨#[]⟩,.int .u64 0,.string ⟨#[]⟩]) qc 0 hs (fun b77 w78 h79 hs=>?_)
        have hl80:(List.replicate (S.getD k 0) 0).length=(S.getD k 0):=by simp
        refine eD0 hs (fun w81 h82 hs=>?_)
        refine tX 8 106 (some ⟨b32,0,none⟩) (S.getD (k+1) 0) (S.getD (k+1) 0) 1 (r:Nat) r rfl ?_
        refine tW 9 2 Wv vc 1 r (.slice (some ⟨b77,0,none⟩) (S.getD k 0) (S.getD k 0):Value) hs oM (fun w83 hs=>?_)
        have hl84:((Wv).set r (.slice (some ⟨b77,0,none⟩) (S.getD k 0) (S.getD k 0):Value)).length=(S.getD (k+1) 0):=by rw[List.length_set];exact hWv
        replace hs:=hs.to [⟨b77,73,(List.replicate (S.getD k 0) 0).flatMap qc⟩,⟨b39,77,[.int .i64 kx,.slice (some ⟨b32,0,none⟩) (S.getD (k+1) 0) (S.getD (k+1) 0),.slice (some ⟨b31,0,none⟩) (S.getD (k+1) 0) (S.getD (k+1) 0)]⟩,⟨b32,75,((Wv).set r (.slice (some ⟨b77,0,none⟩) (S.getD k 0) (S.getD k 0):Value)).flatMap vc⟩,⟨b31,73,(List.replicate (S.getD (k+1) 0) (0:Rat)).flatMap qc⟩,⟨b19,28,[.slice snA ((us).length) snc]⟩,⟨b1,28,[.slice none 0 0]⟩] [⟨77,3,snA,snc,(us).length,(us).flatMap lvc⟩]
        refine tNS ?_
        refine lL hs [.v 107 (.pointer (some ⟨b39,1,none⟩)),.o 108 (.slice (some ⟨b32,0,none⟩) (S.getD (k+1) 0) (S.getD (k+1) 0)) 1 1 1,.m 109 17] (lX 110 (some ⟨b32,0,none⟩) (S.getD (k+1) 0) (S.getD (k+1) 0) 1 (r:Nat) r rfl ?_)
        refine lQe 111 2 ((Wv).set r (.slice (some ⟨b77,0,none⟩) (S.getD k 0) (S.getD k 0):Value)) vc 1 undef r (((Wv).set r (.slice (some ⟨b77,0,none⟩) (S.getD k 0) (S.getD k 0):Value)).getD r undef) (.slice (some ⟨b77,0,none⟩) (S.getD k 0) (S.getD k 0)) hs oM (getD_set_v oM) ?_
        refine lL hs [.v 112 (.int .i64 ((S.getD k 0):Nat)),.v 113 (.int .i64 0)] (lN (CG.block (cTo [(0,.slice A S.length cap),(1,.int .i64 kd),(3,.pointer (some ⟨rbk,0,none⟩)),(8,.pointer (some ⟨b1,0,none⟩)),(12,.int .i64 (half:Nat)),(13,.pointer (some ⟨b19,0,none⟩)),(73,.slice (if cap=1 then A else A.map (·.add (1*1))) (S.length-1) (cap-1)),(74,.int .i64 (S.length-1:Nat)),(75,.int .i64 (k:Nat)),(14,.int .i64 (k:Nat)),(16,.pointer (some ⟨b39,0,none⟩)),(94,.int .i64 ((S.getD (k+1) 0):Nat)),(95,.int .i64 (r:Nat)),(17,.int .i64 (r:Nat)),(112,.int .i64 ((S.getD k 0):Nat)),(113,.int .i64 0)] ?_)))
        refine CG.loop (fun μ_ Γ w_=>∃ (c:Nat) (rl:List Rat) (s3:Nat) (wd:World) (h_:Hp),μ_=S.getD k 0-c∧Γ=[(0,.slice A S.length cap),(1,.int .i64 kd),(3,.pointer (some ⟨rbk,0,none⟩)),(8,.pointer (some ⟨b1,0,none⟩)),(12,.int .i64 (half:Nat)),(13,.pointer (some ⟨b19,0,none⟩)),(73,.slice (if cap=1 then A else A.map (·.add (1*1))) (S.length-1) (cap-1)),(74,.int .i64 (S.length-1:Nat)),(75,.int .i64 (k:Nat)),(14,.int .i64 (k:Nat)),(16,.pointer (some ⟨b39,0,none⟩)),(94,.int .i64 ((S.getD (k+1) 0):Nat)),(95,.int .i64 (r:Nat)),(17,.int .i64 (r:Nat)),(112,.int .i64 ((S.getD k 0):Nat)),(113,.int .i64 (c:Nat))]∧SS wd h w_ h_ [⟨b77,73,(rl).flatMap qc⟩,⟨b39,77,[.int .i64 kx,.slice (some ⟨b32,0,none⟩) (S.getD (k+1) 0) (S.getD (k+1) 0),.slice (some ⟨b31,0,none⟩) (S.getD (k+1) 0) (S.getD (k+1) 0)]⟩,⟨b32,75,((Wv).set r (.slice (some ⟨b77,0,none⟩) (S.getD k 0) (S.getD k 0):Value)).flatMap vc⟩,⟨b31,73,(List.replicate (S.getD (k+1) 0) (0:Rat)).flatMap qc⟩,⟨b19,28,[.slice snA ((us).length) snc]⟩,⟨b1,28,[.slice none 0 0]⟩] [⟨77,3,snA,snc,(us).length,(us).flatMap lvc⟩] [fun h_=>QVk h_ Wv (drawMat dr half (S.getD k 0) s1 r).1,fun h_=>NetL h_ us (drawLays dr S kd half s k).1,fun h_=>SlO 1 natc 0 h_ (if cap=1 then A else A.map (·.add (1*1))) (S.drop 1),fun h_=>SlO 1 natc 0 h_ (if cap=1 then A else A.map (·.add (1*1))) (S.drop 1),fun h_=>Tab h_,fun h_=>SlO 1 natc 0 h_ A S]∧(c≤S.getD k 0)∧(rl.length=S.getD k 0)∧(s3=(drawRow dr half s2 c).2)∧(rl.take c=(drawRow dr half s2 c).1)∧(Dif [rbk] w wd)∧(Own wd rbk 118 [.int .u64 (s3:Nat)])∧(s3<18446744073709551616)) _ ⟨0,List.replicate (S.getD k 0) 0,s2,wd,h82,rfl,rfl,hs.to _ _,Nat.zero_le _,(by simp),rfl,(by rw[List.take_zero];rfl),hdf,hO,hs2l⟩ ?_
        rintro _ _ w85 ⟨c,rl,s3,wd,h86,hm87,rfl,hs,hc,hrl,hs3,hrt,hdf,hO,hs3l⟩
        refine cSL ?_
        cases hb88:(decide (((c:Nat):Int)<(((S.getD k 0):Nat):Int)))
        ·
         have phb88:=oF hb88
         refine lB 114 hb88 ?_
         refine lN (CG.seq (cIF (CG.exit ?_)))
         show CG _ _ _ _ _ _ _ _
         refine CG.listed ?_
         have hrow:rl=(drawRow dr half s2 (S.getD k 0)).1:=by rw[show S.getD k 0=c by omega,←hrt,List.take_of_length_le oM]
         obtain ⟨h89,hs,sg90,lo91,bc92⟩:=hs.pub 0
         replace hs:=(hs.to [⟨b39,77,[.int .i64 kx,.slice (some ⟨b32,0,none⟩) (S.getD (k+1) 0) (S.getD (k+1) 0),.slice (some ⟨b31,0,none⟩) (S.getD (k+1) 0) (S.getD (k+1) 0)]⟩,⟨b32,75,((Wv).set r (.slice (some ⟨b77,0,none⟩) (S.getD k 0) (S.getD k 0):Value)).flatMap vc⟩,⟨b31,73,(List.replicate (S.getD (k+1) 0) (0:Rat)).flatMap qc⟩,⟨b19,28,[.slice snA ((us).length) snc]⟩,⟨b1,28,[.slice none 0 0]⟩] [⟨77,3,snA,snc,(us).length,(us).flatMap lvc⟩]).a_SlO (SlO.of_flat (sz:=5) (f:=qc) (d:=0) (b:=b77) (o:=0) (l:=rl) (fun _=>rfl) sg90)
         refine lIn 136 ((r:Nat)+1) (r+1) ?_
         refine lL hs [.m 95 136] (lD ?_)
         intro a_ ka
         have q94:QVk h89 ((Wv).set r (.slice (some ⟨b77,0,none⟩) (S.getD k 0) (S.getD k 0):Value)) (drawMat dr half (S.getD k 0) s1 (r+1)).1:=(by rw[drawMat_s,←hs2];exact (hs.f.2.1).snoc (drawMat_len _) oM ⟨some ⟨b77,0,none⟩,S.getD k 0,by rw[←hrow,hrl],by rw[←hrow,hrl];exact Nat.le_refl _,by rw[←hrow];exact (hs.f.1)⟩)
         have q95:(r+1)≤S.getD (k+1) 0:=by omega
         have q96:((Wv).set r (.slice (some ⟨b77,0,none⟩) (S.getD k 0) (S.getD k 0):Value)).length=S.getD (k+1) 0:=hl84
         have q97:s3=(drawMat dr half (S.getD k 0) s1 (r+1)).2:=(by rw[hs3,hs2,show c=S.getD k 0 by omega];rfl)
         have q98:Dif [rbk] w wd:=hdf
         have q99:Own wd rbk 118 [.int .u64 (s3:Nat)]:=hO
         have q100:s3<18446744073709551616:=hs3l
         replace hs:=(hs.tl.tl.add (K:=fun h_=>QVk h_ ((Wv).set r (.slice (some ⟨b77,0,none⟩) (S.getD k 0) (S.getD k 0):Value)) (drawMat dr half (S.getD k 0) s1 (r+1)).1) q94)
         refine ⟨_,_,?_,⟨r+1,(Wv).set r (.slice (some ⟨b77,0,none⟩) (S.getD k 0) (S.getD k 0):Value),s3,wd,h89,rfl,rfl,hs.to _ _,q95,q96,q97,q98,q99,q100⟩,ka.to [(0,.slice A S.length cap),(1,.int .i64 kd),(3,.pointer (some ⟨rbk,0,none⟩)),(8,.pointer (some ⟨b1,0,none⟩)),(12,.int .i64 (half:Nat)),(13,.pointer (some ⟨b19,0,none⟩)),(73,.slice (if cap=1 then A else A.map (·.add (1*1))) (S.length-1) (cap-1)),(74,.int .i64 (S.length-1:Nat)),(75,.int .i64 (k:Nat)),(14,.int .i64 (k:Nat)),(16,.pointer (some ⟨b39,0,none⟩)),(94,.int .i64 ((S.getD (k+1) 0):Nat)),(95,.int .i64 ((r+1):Nat))] kR⟩
         omega
        have phb88:=oT hb88
        refine lB 114 hb88 ?_
        refine lN (CG.seq (cIT (CG.skipN (CG.seq (CG.block (cSL (lL hs [.m 115 113,.m 18 115] (lN (CG.region ⟨[rbk],none⟩ 18 [] mixed kR hs.g al_nil (fun _ hb=>by rw[List.mem_singleton.1 hb];exact lt_of_some (hs.fjk hj)) ?_)))))))))
        refine eV 0 117 (.pointer (some ⟨b39,1,none⟩)) ?_
        refine eO 1 118 [(1,1,1)] (.slice (some ⟨b32,0,none⟩) (S.getD (k+1) 0) (S.getD (k+1) 0)) hs ?_ (hM:=(fun p hp=>by obtain rfl:=List.mem_singleton.1 hp;exact hs.frn_ne hj _))
        refine eV 2 119 (.int .i64 (r:Nat)) ?_
        refine eX 3 120 (some ⟨b32,0,none⟩) (S.getD (k+1) 0) (S.getD (k+1) 0) 1 (r:Nat) r rfl ?_
        refine eQe 4 121 2 ((Wv).set r (.slice (some ⟨b77,0,none⟩) (S.getD k 0) (S.getD k 0):Value)) vc 1 undef r (((Wv).set r (.slice (some ⟨b77,0,none⟩) (S.getD k 0) (S.getD k 0):Value)).getD r undef) (.slice (some ⟨b77,0,none⟩) (S.getD k 0) (S.getD k 0)) hs oM (getD_set_v oM) ?_ (hM:=(hs.frn_ne hj _))
        refine eV 5 122 (.int .i64 (c:Nat)) ?_
        refine eV 6 123 (.pointer (some ⟨rbk,0,none⟩)) ?_
        refine eV 7 124 (.int .i64 (half:Nat)) ?_
        refine eIn 8 125 (2*(half:Nat)) (2*half) ?_
        refine eIn 9 126 ((2*half:Nat)+1) ((2*half)+1) ?_
        refine eV 11 128 (.int .i64 (half:Nat)) ?_
        refine eV 13 130 (.int .i64 (half:Nat)) ?_
        refine eCm 10 127 hs (List.mem_singleton.2 rfl) (fun _ _ hs=>dDraw dr hdr rbk s3 hs3l oM oM _ _ hs.g (hs.fown hO) (hs.fjk hj)) ?_
        rintro _ _ _ w102 h103 hs u104 ⟨rfl,hox101⟩
        obtain ⟨wd105,hd106,hc107,hs⟩:=hs.frn hdf (one_jk hj) u104
        have hO108:Own wd105 rbk 118 [.int .u64 ((dr s3).2:Nat)]:=(hc107 _ (lt_of_some hj)).trans hox101
        have hlx101:=(hdl s3 hs3l).2
        have hbx101:=(hdl s3 hs3l).1
        refine eV 12 129 (.int .i64 (((dr s3).1:Nat)-(half:Nat))) ?_ (hv:=fun _=>rint (n:=IntKind.wrap .i64 (((dr s3).1:Nat)-(half:Nat))) kR ((wr64 oM oM).trans oM))
        refine eC 14 131 hs (fun _ _ hs=>fOver2 (((dr s3).1:Nat)-(half:Nat)) ((half:Nat)) oM oM oM oM oM _ _ hs.g (hs.f.2.2.2.2.1)) ?_
        rintro _ _ _ w109 h110 hs rfl
        refine eV 15 116 (.tuple #[qv (mkR (((dr s3).1:Nat)-(half:Nat)) ((half:Nat))),.bool true]) ?_
        refine eV 16 132 (qv (mkR (((dr s3).1:Nat)-(half:Nat)) ((half:Nat)))) ?_
        refine eV 17 133 (.bool true) ?_
        refine eD0 hs (fun w111 h112 hs=>?_)
        refine tX 18 134 (some ⟨b77,0,none⟩) (S.getD k 0) (S.getD k 0) 5 (c:Nat) c rfl ?_
        refine tW 19 0 rl qc 5 c (mkR (((dr s3).1:Nat)-(half:Nat)) ((half:Nat))) hs oM (fun w113 hs=>?_)
        have hl114:((rl).set c (mkR (((dr s3).1:Nat)-(half:Nat)) ((half:Nat)))).length=(S.getD k 0):=by rw[List.length_set];exact hrl
        replace hs:=hs.to [⟨b77,73,((rl).set c (mkR (((dr s3).1:Nat)-(half:Nat)) ((half:Nat)))).flatMap qc⟩,⟨b39,77,[.int .i64 kx,.slice (some ⟨b32,0,none⟩) (S.getD (k+1) 0) (S.getD (k+1) 0),.slice (some ⟨b31,0,none⟩) (S.getD (k+1) 0) (S.getD (k+1) 0)]⟩,⟨b32,75,((Wv).set r (.slice (some ⟨b77,0,none⟩) (S.getD k 0) (S.getD k 0):Value)).flatMap vc⟩,⟨b31,73,(List.replicate (S.getD (k+1) 0) (0:Rat)).flatMap qc⟩,⟨b19,28,[.slice snA ((us).length) snc]⟩,⟨b1,28,[.slice none 0 0]⟩] [⟨77,3,snA,snc,(us).length,(us).flatMap lvc⟩]
        refine tN (CG.listed (lIn 135 ((c:Nat)+1) (c+1) ?_))
        refine lL hs [.m 113 135] (lD ?_)
        intro a_ ka
        have q115:(c+1)≤S.getD k 0:=by omega
        have q116:((rl).set c (mkR (((dr s3).1:Nat)-(half:Nat)) ((half:Nat)))).length=S.getD k 0:=hl114
        have q117:((dr s3).2)=(drawRow dr half s2 (c+1)).2:=(by rw[hs3];rfl)
        have q118:((rl).set c (mkR (((dr s3).1:Nat)-(half:Nat)) ((half:Nat)))).take (c+1)=(drawRow dr half s2 (c+1)).1:=(by rw[take_set_succ oM,hrt,hs3];rfl)
        have q119:Dif [rbk] w wd105:=hd106
        have q120:Own wd105 rbk 118 [.int .u64 (((dr s3).2):Nat)]:=hO108
        have q121:((dr s3).2)<18446744073709551616:=hlx101
        refine ⟨_,_,?_,⟨c+1,(rl).set c (mkR (((dr s3).1:Nat)-(half:Nat)) ((half:Nat))),(dr s3).2,wd105,h112,rfl,rfl,hs.to _ _,q115,q116,q117,q118,q119,q120,q121⟩,ka.to [(0,.slice A S.length cap),(1,.int .i64 kd),(3,.pointer (some ⟨rbk,0,none⟩)),(8,.pointer (some ⟨b1,0,none⟩)),(12,.int .i64 (half:Nat)),(13,.pointer (some ⟨b19,0,none⟩)),(73,.slice (if cap=1 then A else A.map (·.add (1*1))) (S.length-1) (cap-1)),(74,.int .i64 (S.length-1:Nat)),(75,.int .i64 (k:Nat)),(14,.int .i64 (k:Nat)),(16,.pointer (some ⟨b39,0,none⟩)),(94,.int .i64 ((S.getD (k+1) 0):Nat)),(95,.int .i64 (r:Nat)),(17,.int .i64 (r:Nat)),(112,.int .i64 ((S.getD k 0):Nat)),(113,.int .i64 ((c+1):Nat))] kR⟩
        omega
       have phb18:=oT hb18
       refine lB 63 hb18 ?_
       refine lL hs [.v 64 (.bool true),.m 65 64] (lG 66 ?_)
       refine lG 67 ?_
       refine lL hs [.v 68 (.bool true)] (lN (cIT (cSL (lL hs [.v 69 (.agg #[.slice none 0 0])] (lP 0 0 ([.slice none 0 0]) hs (fun w122 hs=>?_))))))
       exact lL hs [.v 9 (.int .i64 1)] (lN (CG.ret (hs.retM (hs.upF hdf) [(0,0,1)] (.tuple #[.agg #[.slice none 0 0],.int .i64 1]) ⟨none,0,[],[],1,rfl,Nat.le_refl _,SlO.nil,NetL.nil,mkp1 hz oM oM,fun e=>absurd e kD,fun _=>rfl,_,hs.fown hO⟩)))
      have phb17:=oT hb17
      refine lB 60 hb17 ?_
      refine lL hs [.m 61 60] (lG 62 ?_)
      refine lG 63 ?_
      refine lL hs [.v 64 (.bool true),.m 65 64] (lG 66 ?_)
      refine lG 67 ?_
      refine lL hs [.v 68 (.bool true)] (lN (cIT (cSL (lL hs [.v 69 (.agg #[.slice none 0 0])] (lP 0 0 ([.slice none 0 0]) hs (fun w123 hs=>?_))))))
      exact lL hs [.v 9 (.int .i64 1)] (lN (CG.ret (hs.retM (hs.upF hdf) [(0,0,1)] (.tuple #[.agg #[.slice none 0 0],.int .i64 1]) ⟨none,0,[],[],1,rfl,Nat.le_refl _,SlO.nil,NetL.nil,mkp1 hz oM oM,fun e=>absurd e kD,fun _=>rfl,_,hs.fown hO⟩)))
     have phb12:=oT hb12
     refine lB 44 hb12 ?_
     refine lN (CG.seq (cIT (CG.skipN (CG.seq (CG.block (cSL (lX 45 (if cap=1 then A else A.map (·.add (1*1))) (S.length-1) (cap-1) 1 (k:Nat) k ((hs.f.1).ok oM) ?_)))))))
     refine lHe 46 (.int .i64 ((S.drop 1).getD k 0:Nat)) hs ((hs.f.1).el k oM) (by rw[getD_drop1]) ?_
     refine lL hs [.m 11 46] (lNS (lL hs [.m 47 11] ?_))
     cases hb124:(decide (((S.getD (k+1) 0:Nat):Int)<(1:Int)))
     ·
      have phb124:=oF hb124
      refine lB 48 hb124 ?_
      refine lL hs [.m 49 48,.m 50 11] ?_
      cases hb125:(decide ((12:Int)<((S.getD (k+1) 0:Nat):Int)))
      ·
       have phb125:=oF hb125
       refine lB 51 hb125 ?_
       refine lL hs [.v 52 (.bool false)] (lN (cIF (CG.skipN (CG.listed (lIn 54 ((k:Nat)+1) (k+1) ?_)))))
       refine lL hs [.m 43 54] (lD ?_)
       intro a_ ka
       have q126:(k+1)≤S.length-1:=by omega
       have q127:∀ i,0<i→i≤(k+1)→1≤S.getD i 0∧S.getD i 0≤12:=fun i a b=>by
          by_cases e:i≤k
          · exact hzz i a e
          · have:i=k+1:=by omega
            subst this;omega
       refine ⟨_,_,?_,⟨k+1,h10,rfl,rfl,hs.to _ _,q126,q127⟩,ka.to [(0,.slice A S.length cap),(1,.int .i64 kd),(2,.int .i64 bt),(3,.pointer (some ⟨rbk,0,none⟩)),(8,.pointer (some ⟨b1,0,none⟩)),(41,.slice (if cap=1 then A else A.map (·.add (1*1))) (S.length-1) (cap-1)),(42,.int .i64 (S.length-1:Nat)),(43,.int .i64 ((k+1):Nat))] kR⟩
       omega
      have phb125:=oT hb125
      refine lB 51 hb125 ?_
      refine lL hs [.v 52 (.bool true)] (lN (cIT (cSL (lL hs [.v 53 (.agg #[.slice none 0 0])] (lP 0 0 ([.slice none 0 0]) hs (fun w128 hs=>?_))))))
      exact lL hs [.v 9 (.int .i64 5)] (lN (CG.ret (hs.retM (hs.upF hdf) [(0,0,1)] (.tuple #[.agg #[.slice none 0 0],.int .i64 5]) ⟨none,0,[],[],5,rfl,Nat.le_refl _,SlO.nil,NetL.nil,mkp5 (by intro z;have z1:=z.l2;have z2:=z.l5;have z3:=z.f;first|omega|(have z4:=z.r (k+1) oM oM;omega)|(have z4:=z.r k oM oM;omega)|(rcases Nat.eq_zero_or_pos k with e0|e0<;>(first|(have z4:=z.r k e0 oM;omega)|(subst e0;omega)))),fun e=>absurd e kD,fun _=>rfl,_,hs.fown hO⟩)))
     have phb124:=oT hb124
     refine lB 48 hb124 ?_
     refine lL hs [.m 49 48] (lG 50 ?_)
     refine lG 51 ?_
     refine lL hs [.v 52 (.bool true)] (lN (cIT (cSL (lL hs [.v 53 (.agg #[.slice none 0 0])] (lP 0 0 ([.slice none 0 0]) hs (fun w129 hs=>?_))))))
     exact lL hs [.v 9 (.int .i64 5)] (lN (CG.ret (hs.retM (hs.upF hdf) [(0,0,1)] (.tuple #[.agg #[.slice none 0 0],.int .i64 5]) ⟨none,0,[],[],5,rfl,Nat.le_refl _,SlO.nil,NetL.nil,mkp5 (by intro z;have z1:=z.l2;have z2:=z.l5;have z3:=z.f;first|omega|(have z4:=z.r (k+1) oM oM;omega)|(have z4:=z.r k oM oM;omega)|(rcases Nat.eq_zero_or_pos k with e0|e0<;>(first|(have z4:=z.r k e0 oM;omega)|(subst e0;omega)))),fun e=>absurd e kD,fun _=>rfl,_,hs.fown hO⟩)))
    have phb7:=oT hb7
    refine lB 37 hb7 ?_
    refine lL hs [.v 38 (.bool true)] (lN (cIT (cSL (lL hs [.v 39 (.agg #[.slice none 0 0])] (lP 0 0 ([.slice none 0 0]) hs (fun w130 hs=>?_))))))
    exact lL hs [.v 9 (.int .i64 5)] (lN (CG.ret (hs.retM (hs.upF hdf) [(0,0,1)] (.tuple #[.agg #[.slice none 0 0],.int .i64 5]) ⟨none,0,[],[],5,rfl,Nat.le_refl _,SlO.nil,NetL.nil,mkp5 (by intro z;have z1:=z.l2;have z2:=z.l5;have z3:=z.f;first|omega|(have z4:=z.r (k+1) oM oM;omega)|(have z4:=z.r k oM oM;omega)|(rcases Nat.eq_zero_or_pos k with e0|e0<;>(first|(have z4:=z.r k e0 oM;omega)|(subst e0;omega)))),fun e=>absurd e kD,fun _=>rfl,_,hs.fown hO⟩)))
   have phb6:=oT hb6
   refine lB 31 hb6 ?_
   refine lL hs [.v 32 (.bool true),.m 33 32] (lG 34 ?_)
   refine lG 35 ?_
   refine lG 36 ?_
   refine lG 37 ?_
   refine lL hs [.v 38 (.bool true)] (lN (cIT (cSL (lL hs [.v 39 (.agg #[.slice none 0 0])] (lP 0 0 ([.slice none 0 0]) hs (fun w131 hs=>?_))))))
   exact lL hs [.v 9 (.int .i64 5)] (lN (CG.ret (hs.retM (hs.upF hdf) [(0,0,1)] (.tuple #[.agg #[.slice none 0 0],.int .i64 5]) ⟨none,0,[],[],5,rfl,Nat.le_refl _,SlO.nil,NetL.nil,mkp5 (by intro z;have z1:=z.l2;have z2:=z.l5;have z3:=z.f;first|omega|(have z4:=z.r (k+1) oM oM;omega)|(have z4:=z.r k oM oM;omega)|(rcases Nat.eq_zero_or_pos k with e0|e0<;>(first|(have z4:=z.r k e0 oM;omega)|(subst e0;omega)))),fun e=>absurd e kD,fun _=>rfl,_,hs.fown hO⟩)))
  have phb5:=oT hb5
  refine lB 25 hb5 ?_
  refine lL hs [.v 26 (.bool true),.m 27 26] (lG 28 ?_)
  refine lG 29 ?_
  refine lG 30 ?_
  refine lG 31 ?_
  refine lL hs [.v 32 (.bool true),.m 33 32] (lG 34 ?_)
  refine lG 35 ?_
  refine lG 36 ?_
  refine lG 37 ?_
  refine lL hs [.v 38 (.bool true)] (lN (cIT (cSL (lL hs [.v 39 (.agg #[.slice none 0 0])] (lP 0 0 ([.slice none 0 0]) hs (fun w132 hs=>?_))))))
  exact lL hs [.v 9 (.int .i64 5)] (lN (CG.ret (hs.retM (hs.upF hdf) [(0,0,1)] (.tuple #[.agg #[.slice none 0 0],.int .i64 5]) ⟨none,0,[],[],5,rfl,Nat.le_refl _,SlO.nil,NetL.nil,mkp5 (by intro z;have z1:=z.l2;have z2:=z.l5;have z3:=z.f;first|omega|(have z4:=z.r (k+1) oM oM;omega)|(have z4:=z.r k oM oM;omega)|(rcases Nat.eq_zero_or_pos k with e0|e0<;>(first|(have z4:=z.r k e0 oM;omega)|(subst e0;omega)))),fun e=>absurd e kD,fun _=>rfl,_,hs.fown hO⟩)))
 have phb4:=oT hb4
 refine lB 21 hb4 ?_
 refine lL hs [.m 22 21] (lG 23 ?_)
 refine lG 24 ?_
 refine lG 25 ?_
 refine lL hs [.v 26 (.bool true),.m 27 26] (lG 28 ?_)
 refine lG 29 ?_
 refine lG 30 ?_
 refine lG 31 ?_
 refine lL hs [.v 32 (.bool true),.m 33 32] (lG 34 ?_)
 refine lG 35 ?_
 refine lG 36 ?_
 refine lG 37 ?_
 refine lL hs [.v 38 (.bool true)] (lN (cIT (cSL (lL hs [.v 39 (.agg #[.slice none 0 0])] (lP 0 0 ([.slice none 0 0]) hs (fun w133 hs=>?_))))))
 exact lL hs [.v 9 (.int .i64 5)] (lN (CG.ret (hs.retM (hs.upF hdf) [(0,0,1)] (.tuple #[.agg #[.slice none 0 0],.int .i64 5]) ⟨none,0,[],[],5,rfl,Nat.le_refl _,SlO.nil,NetL.nil,mkp5 (by intro z;have z1:=z.l2;have z2:=z.l5;have z3:=z.f;first|omega|(have z4:=z.r (k+1) oM oM;omega)|(have z4:=z.r k oM oM;omega)|(rcases Nat.eq_zero_or_pos k with e0|e0<;>(first|(have z4:=z.r k e0 oM;omega)|(subst e0;omega)))),fun e=>absurd e kD,fun _=>rfl,_,hs.fown hO⟩)))
theorem drawRow_s (dr:Nat→Nat × Nat)(half s c:Nat):(drawRow dr half s (c+1)).1=(drawRow dr half s c).1++[mkR (((dr (drawRow dr half s c).2).1:Int)-(half:Int)) (half:Int)]:=rfl
theorem rDraw (dr:Nat→Nat × Nat){n:Nat}(hdr:dr=belowq n)(rbk s:Nat)(hs_:s<18446744073709551616)(hn0:0<n)(hn:n<9223372036854775808)(w:World)(h:Hp)(g:G w h)(ho:Own w rbk 41 [.int .u64 (s:Nat)])(hj:h[rbk]?=some junk) :
    Calls Tryz.prog 51 #[.pointer (some ⟨rbk,0,none⟩),.int .i64 (n:Nat)] w (RetM rbk w h fun v w' _=>v=.int .i64 ((dr s).1:Nat)∧Own w' rbk 41 [.int .u64 ((dr s).2:Nat)]):=by
  subst hdr;exact rDBelow rbk s n hs_ hn0 hn w h g ho hj
theorem rMakeNet (A:Option Addr)(cap:Nat)(S:List Nat)(hcap:S.length≤cap)(kd bt:Int)(rbk s:Nat)(hs_:s<18446744073709551616)(half:Nat)(hhf:half=2^bt.toNat)(dr:Nat→Nat × Nat)(hdr:dr=belowq (2*half+1))(w:World)(h:Hp)(g:G w h)(ho:Own w rbk 41 [.int .u64 (s:Nat)])(hj:h[rbk]?=some junk)(hA:SlO 1 natc 0 h A S) :
    Calls Tryz.prog 11 #[.slice A S.length cap,.int .i64 kd,.int .i64 bt,.pointer (some ⟨rbk,0,none⟩)] w (RetM rbk w h fun v w' h1=>∃ A c,∃ us:List LV,∃ ls:List Lay,∃ E:Int,v=.tuple #[.agg #[.slice A us.length c],.int .i64 E]∧us.length≤c∧SlO 3 lvc lvd h1 A us∧RNetL h1 us ls∧MakeP S kd bt E∧(E=0→ls=(drawLays dr S kd half s (S.length-1)).1)∧(E≠0→ls=[])∧∃ s2:Nat,Own w' rbk 41 [.int .u64 (s2:Nat)]):=by
 obtain ⟨wd,hdf,hO,hs⟩:∃ wd,Dif [rbk] w wd∧Own wd rbk 41 [.int .u64 (s:Nat)]∧SS wd h w h [] [] []:=⟨w,Dif.refl _ _,ho,SS.start g⟩
 replace hs:=(hs.a_SlO hA)
 have hdl:∀ s,s<18446744073709551616→(dr s).1<2*half+1∧(dr s).2<18446744073709551616:=fun s h=>hdr▸belowq_lt oM h
 refine go Tryz.func11 [(0,.slice A S.length cap),(1,.int .i64 kd),(2,.int .i64 bt),(3,.pointer (some ⟨rbk,0,none⟩))] rfl ?_
 refine cSL (lA 8 36 ([.slice none 0 0]) hs (fun b1 w2 h3 hs=>?_))
 refine lL hs [.v 9 (.int .i64 0)] (lN (CG.seq (cSL (lL hs [.m 18 0,.v 19 (.int .i64 (S.length:Nat))] ?_))))
 cases hb4:(decide (((S.length:Nat):Int)<(2:Int)))
 ·
  have phb4:=oF hb4
  refine lB 20 hb4 ?_
  refine lL hs [.m 21 20,.m 22 0,.v 23 (.int .i64 (S.length:Nat))] ?_
  cases hb5:(decide ((5:Int)<((S.length:Nat):Int)))
  ·
   have phb5:=oF hb5
   refine lB 24 hb5 ?_
   refine lL hs [.v 25 (.bool false)] (lN (cIF (CG.skipN (CG.seq (cSL (lL hs [.v 10 (.int .i64 0)] (lN (CG.block (cTo [(0,.slice A S.length cap),(1,.int .i64 kd),(2,.int .i64 bt),(3,.pointer (some ⟨rbk,0,none⟩)),(8,.pointer (some ⟨b1,0,none⟩)),(10,.int .i64 0)] ?_)))))))))
   refine CG.loop (fun μ_ Γ w_=>∃ (k:Nat) (h_:Hp),μ_=S.length-k∧Γ=[(0,.slice A S.length cap),(1,.int .i64 kd),(2,.int .i64 bt),(3,.pointer (some ⟨rbk,0,none⟩)),(8,.pointer (some ⟨b1,0,none⟩)),(10,.int .i64 (k:Nat))]∧SS wd h w_ h_ [⟨b1,36,[.slice none 0 0]⟩] [] [fun h_=>SlO 1 natc 0 h_ A S]∧(k≤S.length)∧(∀ i,i<k→1≤S.getD i 0∧(i=0→S.getD i 0≤20)∧(0<i→S.getD i 0≤12))) _ ⟨0,h3,rfl,rfl,hs.to _ _,Nat.zero_le _,fun i a=>by omega⟩ ?_
   rintro _ _ w6 ⟨k,h7,hm8,rfl,hs,hk,hzz⟩
   refine CG.seq (cSL (lL hs [.m 27 10,.m 28 0,.v 29 (.int .i64 (S.length:Nat))] ?_))
   cases hb9:(decide (((k:Nat):Int)<((S.length:Nat):Int)))
   ·
    have phb9:=oF hb9
    refine lB 30 hb9 ?_
    refine lN (cIF (CG.exit ?_))
    show CG _ _ _ _ _ _ _ _
    refine CG.seq (cSL ?_)
    have hz:SzOk S:=⟨by omega,by omega,by have:=hzz 0 oM;omega,fun i h0 h1=>by have:=hzz i oM;omega⟩
    refine lL hs [.m 61 1] ?_
    cases hb10:(decide ((kd:Int)<(1:Int)))
    ·
     have phb10:=oF hb10
     refine lB 62 hb10 ?_
     refine lL hs [.m 63 62,.m 64 1] ?_
     cases hb11:(decide ((3:Int)<(kd:Int)))
     ·
      have phb11:=oF hb11
      refine lB 65 hb11 ?_
      refine lL hs [.v 66 (.bool false)] (lN (cIF (CG.skipN (CG.seq (cSL (lL hs [.m 68 2] ?_))))))
      cases hb12:(decide ((bt:Int)<(0:Int)))
      ·
       have phb12:=oF hb12
       refine lB 69 hb12 ?_
       refine lL hs [.m 70 69,.m 71 2] ?_
       cases hb13:(decide ((16:Int)<(bt:Int)))
       ·
        have phb13:=oF hb13
        refine lB 72 hb13 ?_
        refine lL hs [.v 73 (.bool false)] (lN (cIF (CG.skipN (cSL ?_))))
        have hb1:0≤bt∧bt≤16:=by omega
        have hh1:half≤65536:=by rw[hhf];exact Nat.pow_le_pow_right (n:=2) kD (show bt.toNat≤16 by omega)
        have hh0:0<half:=by rw[hhf];exact Nat.two_pow_pos _
        refine lL hs [.m 75 2] (lV 76 (.int .u64 bt) ?_ (hr:=rint (n:=IntKind.wrap .u64 (bt:Int)) kR (fitU64 oM oM)))
        refine lV 77 (.int .i64 (half:Nat)) ?_ (hr:=opShlI bt.toNat (t:=2) (u:=119) (x:=.const (.int .i64 1)) (y:=.tmp 76) (ky:=.u64) (b:=bt) kR kR kR oM oM hhf _)
        refine lL hs [.m 11 77] (lNS (lA 12 36 ([.slice none 0 0]) hs (fun b14 w15 h16 hs=>?_)))
        refine lN (CG.seq (cSL (lL hs [.v 13 (.int .i64 1)] (lN (CG.block ?_)))))
        replace hs:=hs.nil 121 3
        refine cTo [(0,.slice A S.length cap),(1,.int .i64 kd),(3,.pointer (some ⟨rbk,0,none⟩)),(8,.pointer (some ⟨b1,0,none⟩)),(11,.int .i64 (half:Nat)),(12,.pointer (some ⟨b14,0,none⟩)),(13,.int .i64 1)] ?_
        replace hs:=hs.add (K:=fun h_=>RNetL h_ ([]) (drawLays dr S kd half s 0).1) (RNetL.nil)
        refine CG.loop (fun μ_ Γ w_=>∃ (k:Nat) (snA:Option Addr) (snc:Nat) (us:List LV) (s1:Nat) (wd:World) (h_:Hp),μ_=S.length-1-k∧Γ=[(0,.slice A S.length cap),(1,.int .i64 kd),(3,.pointer (some ⟨rbk,0,none⟩)),(8,.pointer (some ⟨b1,0,none⟩)),(11,.int .i64 (half:Nat)),(12,.pointer (some ⟨b14,0,none⟩)),(13,.int .i64 (k+1:Nat))]∧SS wd h w_ h_ [⟨b14,36,[.slice snA ((us).length) snc]⟩,⟨b1,36,[.slice none 0 0]⟩] [⟨121,3,snA,snc,(us).length,(us).flatMap lvc⟩] [fun h_=>RNetL h_ us (drawLays dr S kd half s k).1,fun h_=>SlO 1 natc 0 h_ A S]∧(k≤S.length-1)∧(s1=(drawLays dr S kd half s k).2)∧(Dif [rbk] w wd)∧(Own wd rbk 41 [.int .u64 (s1:Nat)])∧(s1<18446744073709551616)) _ ⟨0,none,0,[],s,wd,h16,rfl,rfl,hs.to _ _,Nat.zero_le _,rfl,hdf,hO,hs_⟩ ?_
        rintro _ _ w17 ⟨k,snA,snc,us,s1,wd,h18,hm19,rfl,hs,hk,hs1,hdf,hO,hs1l⟩
        have hlu:=(hs.f.1).len
        rw[drawLays_len] at hlu
        refine CG.seq (cSL (lL hs [.m 78 13,.m 79 0,.v 80 (.int .i64 (S.length:Nat))] ?_))
        cases hb20:(decide (((k+1:Nat):Int)<((S.length:Nat):Int)))
        ·
         have phb20:=oF hb20
         refine lB 81 hb20 ?_
         refine lN (cIF (CG.exit ?_))
         show CG _ _ _ _ _ _ _ _
         refine cSL ?_
         obtain ⟨h21,hs,hc22⟩:=hs.pubr 0 (A:=snA) (c:=snc) (l:=us) (f:=lvc) (ty:=121) (sz:=3) lvd (fun _=>rfl)
         refine lL hs [.o 139 (.agg #[.slice snA ((us).length) snc]) 0 0 1] (lP 1 0 ([.slice snA ((us).length) snc]) hs (fun w24 hs=>?_))
         exact lL hs [.v 9 (.int .i64 0)] (lN (CG.ret (hs.retM (hs.upF hdf) [(1,0,1)] (.tuple #[.agg #[.slice snA ((us).length) snc],.int .i64 0]) ⟨_,_,us,_,0,rfl,hc22,(hs.f.1),(hs.f.2.1),mkp0 hz oM hb1,fun _=>by rw[show S.length-1=k by omega],fun e=>absurd rfl e,_,hs.fown hO⟩)))
        have phb20:=oT hb20
        refine lB 81 hb20 ?_
        refine lN (cIT (CG.skipN (CG.seq (CG.block (cSL ?_)))))
        have hz1:=hz.r (k+1) oM oM
        have hz0:1≤S.getD k 0∧S.getD k 0≤20:=by
          by_cases e:k=0
          · subst e;exact hz.f
          · have:=hz.r k oM oM;omega
        refine lL hs [.m 84 1,.v 85 (.agg #[.int .i64 kd,.slice none 0 0,.slice none 0 0])] (lA 14 121 ([.int .i64 0,.slice none 0 0,.slice none 0 0]) hs (fun b25 w26 h27 hs=>?_))
        refine lP 0 0 ([.int .i64 kd,.slice none 0 0,.slice none 0 0]) hs (fun w28 hs=>?_)
        refine lN (CG.join (fun Γ w_=>∃ (kx:Int) (h_:Hp),Γ=[(0,.slice A S.length cap),(1,.int .i64 kd),(3,.pointer (some ⟨rbk,0,none⟩)),(8,.pointer (some ⟨b1,0,none⟩)),(11,.int .i64 (half:Nat)),(12,.pointer (some ⟨b14,0,none⟩)),(13,.int .i64 (k+1:Nat)),(14,.pointer (some ⟨b25,0,none⟩))]∧SS wd h w_ h_ [⟨b25,121,[.int .i64 kx,.slice none 0 0,.slice none 0 0]⟩,⟨b14,36,[.slice snA ((us).length) snc]⟩,⟨b1,36,[.slice none 0 0]⟩] [⟨121,3,snA,snc,(us).length,(us).flatMap lvc⟩] [fun h_=>RNetL h_ us (drawLays dr S kd half s k).1,fun h_=>SlO 1 natc 0 h_ A S]∧(kx=(if k+2=S.length then 1 else kd))) ?_ ?_)
        ·
         refine cSL (lL hs [.m 86 13] (lIn 87 ((k+1:Nat)+1) ((k+1)+1) ?_))
         refine lL hs [.m 88 0,.v 89 (.int .i64 (S.length:Nat))] ?_
         cases hb29:((((k+1)+1:Nat):Int) == ((S.length:Nat):Int))
         ·
          have phb29:=neOfBeq hb29
          refine lB 90 hb29 ?_
          refine lN (cIF (CG.skip ?_))
          intro a_ ka
          have q30:kd=(if k+2=S.length then 1 else kd):=by first|(rw[if_pos oM];done)|(rw[if_neg oM];done)
          exact ⟨_,⟨kd,h27,rfl,hs.to _ _,q30⟩,ka.to [(0,.slice A S.length cap),(1,.int .i64 kd),(3,.pointer (some ⟨rbk,0,none⟩)),(8,.pointer (some ⟨b1,0,none⟩)),(11,.int .i64 (half:Nat)),(12,.pointer (some ⟨b14,0,none⟩)),(13,.int .i64 (k+1:Nat)),(14,.pointer (some ⟨b25,0,none⟩))] kR⟩
         have phb29:=eq_of_beq hb29
         refine lB 90 hb29 ?_
         refine lN (cIT (CG.listed (lL hs [.v 91 (.pointer (some ⟨b25,0,none⟩))] (lP 0 0 ([.int .i64 1]) hs (fun w31 hs=>?_)))))
         refine lD ?_
         intro a_ ka
         have q32:1=(if k+2=S.length then 1 else kd):=by first|(rw[if_pos oM];done)|(rw[if_neg oM];done)
         exact ⟨_,⟨1,h27,rfl,hs.to _ _,q32⟩,ka.to [(0,.slice A S.length cap),(1,.int .i64 kd),(3,.pointer (some ⟨rbk,0,none⟩)),(8,.pointer (some ⟨b1,0,none⟩)),(11,.int .i64 (half:Nat)),(12,.pointer (some ⟨b14,0,none⟩)),(13,.int .i64 (k+1:Nat)),(14,.pointer (some ⟨b25,0,none⟩))] kR⟩
        rintro _ w33 ⟨kx,h34,rfl,hs,hkx⟩
        refine CG.seq (cSL (lL hs [.v 15 (.int .i64 0)] (lN (CG.block ?_))))
        replace hs:=hs.nil 95 3
        replace hs:=hs.nil 98 1
        refine cTo [(0,.slice A S.length cap),(1,.int .i64 kd),(3,.pointer (some ⟨rbk,0,none⟩)),(8,.pointer (some ⟨b1,0,none⟩)),(11,.int .i64 (half:Nat)),(12,.pointer (some ⟨b14,0,none⟩)),(13,.int .i64 (k+1:Nat)),(14,.pointer (some ⟨b25,0,none⟩)),(15,.int .i64 0)] ?_
        replace hs:=hs.add (K:=fun h_=>RTs h_ ([]) (List.replicate 0 0)) (RTs.nil)
        replace hs:=hs.add (K:=fun h_=>RVs h_ ([]) (drawMat dr half (S.getD k 0) s1 0).1) (RVs.nil)
        refine CG.loop (fun μ_ Γ w_=>∃ (r:Nat) (sWA:Option Addr) (sWc:Nat) (vW:List Value) (sBA:Option Addr) (sBc:Nat) (tB:List RT) (s2:Nat) (wd:World) (h_:Hp),μ_=S.getD (k+1) 0-r∧Γ=[(0,.slice A S.length cap),(1,.int .i64 kd),(3,.pointer (some ⟨rbk,0,none⟩)),(8,.pointer (some ⟨b1,0,none⟩)),(11,.int .i64 (half:Nat)),(12,.pointer (some ⟨b14,0,none⟩)),(13,.int .i64 (k+1:Nat)),(14,.pointer (some ⟨b25,0,none⟩)),(15,.int .i64 (r:Nat))]∧SS wd h w_ h_ [⟨b25,121,[.int .i64 kx,.slice sWA ((vW).length) sWc,.slice sBA ((tB).length) sBc]⟩,⟨b14,36,[.slice snA ((us).length) snc]⟩,⟨b1,36,[.slice none 0 0]⟩] [⟨98,1,sWA,sWc,(vW).length,(vW).flatMap vc⟩,⟨95,3,sBA,sBc,(tB).length,(tB).flatMap rqc⟩,⟨121,3,snA,snc,(us).length,(us).flatMap lvc⟩] [fun h_=>RVs h_ vW (drawMat dr half (S.getD k 0) s1 r).1,fun h_=>RTs h_ tB (List.replicate r 0),fun h_=>RNetL h_ us (drawLays dr S kd half s k).1,fun h_=>SlO 1 natc 0 h_ A S]∧(r≤S.getD (k+1) 0)∧(s2=(drawMat dr half (S.getD k 0) s1 r).2)∧(Dif [rbk] w wd)∧(Own wd rbk 41 [.int .u64 (s2:Nat)])∧(s2<18446744073709551616)) _ ⟨0,none,0,[],none,0,[],s1,wd,h34,rfl,rfl,hs.to _ _,Nat.zero_le _,rfl,hdf,hO,hs1l⟩ ?_
        rintro _ _ w35 ⟨r,sWA,sWc,vW,sBA,sBc,tB,s2,wd,h36,hm37,rfl,hs,hr,hs2,hdf,hO,hs2l⟩
        have hlv:=(hs.f.1).len
        rw[drawMat_len] at hlv
        have hlt:=(hs.f.2.1).len
        rw[List.length_replicate] at hlt
        refine CG.seq (cSL (lL hs [.m 92 15,.m 93 0,.m 94 13] (lX 95 A S.length cap 1 (k+1:Nat) (k+1) ((hs.f.2.2.2.1).ok oM) ?_)))
        refine lH 96 (.int .i64 (S.getD (k+1) 0:Nat)) hs ((hs.f.2.2.2.1).el (k+1) oM) ?_
        cases hb38:(decide (((r:Nat):Int)<((S.getD (k+1) 0:Nat):Int)))
        ·
         have phb38:=oF hb38
         refine lB 97 hb38 ?_
         refine lN (cIF (CG.exit ?_))
         show CG _ _ _ _ _ _ _ _
         refine CG.listed ?_
         have hre:r=S.getD (k+1) 0:=by omega
         obtain ⟨h39,hs,hc40⟩:=hs.pubr 0 (A:=sWA) (c:=sWc) (l:=vW) (f:=vc) (ty:=98) (sz:=1) undef (fun _=>rfl)
         obtain ⟨h42,hs,hc43⟩:=hs.pubr 0 (A:=sBA) (c:=sBc) (l:=tB) (f:=rqc) (ty:=95) (sz:=3) rqd (fun _=>rfl)
         refine lL hs [.v 133 (.pointer (some ⟨b14,0,none⟩)),.o 134 (.slice snA ((us).length) snc) 1 0 1,.o 135 (.agg #[.int .i64 kx,.slice sWA ((vW).length) sWc,.slice sBA ((tB).length) sBc]) 0 0 3] (lR 136 121 1 ([.int .i64 kx,.slice sWA ((vW).length) sWc,.slice sBA ((tB).length) sBc]) hs (fun b45 w46 h47 hs=>?_))
         refine lY 137 0 121 3 snc snA us lvc ((kx,.slice sWA ((vW).length) sWc,.slice sBA ((tB).length) sBc):LV) 56 b45 (.agg #[.int .i64 0,.slice none 0 0,.slice none 0 0]) hs (hs.f.1) (fun A49 c50 w51 h52 hs=>?_)
         refine lL hs [.v 138 (.pointer (some ⟨b14,0,none⟩))] (lP 1 0 ([.slice A49 ((us++[((kx,.slice sWA ((vW).length) sWc,.slice sBA ((tB).length) sBc):LV)]).length) c50]) hs (fun w54 hs=>?_))
         refine lN (CG.listed (lL hs [.m 82 13] (lIn 83 ((k+1:Nat)+1) ((k+1)+1) ?_)))
         refine lL hs [.m 13 83] (lD ?_)
         intro a_ ka
         have q55:RNetL h52 (us++[((kx,.slice sWA ((vW).length) sWc,.slice sBA ((tB).length) sBc):LV)]) (drawLays dr S kd half s (k+1)).1:=(by rw[drawLays_s,←hs1,←hkx,←hre];exact (hs.f.2.2.2.2.2.1).snoc ⟨rfl,⟨_,_,vW,rfl,hc40,(hs.f.2.2.1),(hs.f.2.2.2.1)⟩,⟨_,_,tB,rfl,hc43,(hs.f.2.1),(hs.f.2.2.2.2.1)⟩⟩)
         have q56:(k+1)≤S.length-1:=by omega
         have q57:s2=(drawLays dr S kd half s (k+1)).2:=(by rw[hs2,show r=S.getD (k+1) 0 by omega,hs1];rfl)
         have q58:Dif [rbk] w wd:=hdf
         have q59:Own wd rbk 41 [.int .u64 (s2:Nat)]:=hO
         have q60:s2<18446744073709551616:=hs2l
         replace hs:=(hs.tl.tl.tl.tl.tl.tl.add (K:=fun h_=>RNetL h_ (us++[((kx,.slice sWA ((vW).length) sWc,.slice sBA ((tB).length) sBc):LV)]) (drawLays dr S kd half s (k+1)).1) q55)
         replace hs:=hs.drop 1 0
         refine ⟨_,_,?_,⟨k+1,A49,c50,us++[((kx,.slice sWA ((vW).length) sWc,.slice sBA ((tB).length) sBc):LV)],s2,wd,h52,rfl,rfl,hs.to _ _,q56,q57,q58,q59,q60⟩,ka.to [(0,.slice A S.length cap),(1,.int .i64 kd),(3,.pointer (some ⟨rbk,0,none⟩)),(8,.pointer (some ⟨b1,0,none⟩)),(11,.int .i64 (half:Nat)),(12,.pointer (some ⟨b14,0,none⟩)),(13,.int .i64 ((k+1)+1:Nat))] kR⟩
         omega
        have phb38:=oT hb38
        refine lB 97 hb38 ?_
        refine lN (cIT (CG.skipN (CG.seq (CG.block (cSL (lL hs [.v 16 (.slice none 0 0)] (lN (CG.seq (cSL (lL hs [.v 17 (.int .i64 0)] (lN (CG.block ?_))))))))))))
        replace hs:=hs.nil 95 3
        refine cTo [(0,.slice A S.length cap),(1,.int .i64 kd),(3,.pointer (some ⟨rbk,0,none⟩)),(8,.pointer (some ⟨b1,0,none⟩)),(11,.int .i64 (half:Nat)),(12,.pointer (some ⟨b14,0,none⟩)),(13,.int .i64 (k+1:Nat)),(14,.pointer (some ⟨b25,0,none⟩)),(15,.int .i64 (r:Nat)),(17,.int .i64 0),(16,.slice none 0 0)] ?_
        replace hs:=hs.add (K:=fun h_=>RTs h_ ([]) (drawRow dr half s2 0).1) (RTs.nil)
        refine CG.loop (fun μ_ Γ w_=>∃ (c:Nat) (srA:Option Addr) (src:Nat) (tr:List RT) (s3:Nat) (wd:World) (h_:Hp),μ_=S.getD k 0-c∧Γ=[(0,.slice A S.length cap),(1,.int .i64 kd),(3,.pointer (some ⟨rbk,0,none⟩)),(8,.pointer (some ⟨b1,0,none⟩)),(11,.int .i64 (half:Nat)),(12,.pointer (some ⟨b14,0,none⟩)),(13,.int .i64 (k+1:Nat)),(14,.pointer (some ⟨b25,0,none⟩)),(15,.int .i64 (r:Nat)),(17,.int .i64 (c:Nat)),(16,.slice srA ((tr).length) src)]∧SS wd h w_ h_ [⟨b25,121,[.int .i64 kx,.slice sWA ((vW).length) sWc,.slice sBA ((tB).length) sBc]⟩,⟨b14,36,[.slice snA ((us).length) snc]⟩,⟨b1,36,[.slice none 0 0]⟩] [⟨95,3,srA,src,(tr).length,(tr).flatMap rqc⟩,⟨98,1,sWA,sWc,(vW).length,(vW).flatMap vc⟩,⟨95,3,sBA,sBc,(tB).length,(tB).flatMap rqc⟩,⟨121,3,snA,snc,(us).length,(us).flatMap lvc⟩] [fun h_=>RTs h_ tr (drawRow dr half s2 c).1,fun h_=>RVs h_ vW (drawMat dr half (S.getD k 0) s1 r).1,fun h_=>RTs h_ tB (List.replicate r 0),fun h_=>RNetL h_ us (drawLays dr S kd half s k).1,fun h_=>SlO 1 natc 0 h_ A S]∧(c≤S.getD k 0)∧(s3=(drawRow dr half s2 c).2)∧(Dif [rbk] w wd)∧(Own wd rbk 41 [.int .u64 (s3:Nat)])∧(s3<18446744073709551616)) _ ⟨0,none,0,[],s2,wd,h36,rfl,rfl,hs.to _ _,Nat.zero_le _,rfl,hdf,hO,hs2l⟩ ?_
        rintro _ _ w61 ⟨c,srA,src,tr,s3,wd,h62,hm63,rfl,hs,hc,hs3,hdf,hO,hs3l⟩
        have hltr:=(hs.f.1).len
        rw[drawRow_len] at hltr
        refine CG.seq (cSL (lL hs [.m 100 17,.m 101 0,.m 102 13] (lIn 103 ((k+1:Nat)-1) k ?_)))
        refine lX 104 A S.length cap 1 (k:Nat) k ((hs.f.2.2.2.2.1).ok oM) ?_
        refine lH 105 (.int .i64 (S.getD k 0:Nat)) hs ((hs.f.2.2.2.2.1).el k oM) ?_
        cases hb64:(decide (((c:Nat):Int)<((S.getD k 0:Nat):Int)))
        ·
         have phb64:=oF hb64
         refine lB 106 hb64 ?_
         refine lN (cIF (CG.exit ?_))
         show CG _ _ _ _ _ _ _ _
         refine cSL (lL hs [.v 121 (.pointer (some ⟨b25,1,none⟩)),.o 122 (.slice sWA ((vW).length) sWc) 0 1 1] ?_)
         obtain ⟨h65,hs,hc66⟩:=hs.pubr 0 (A:=srA) (c:=src) (l:=tr) (f:=rqc) (ty:=95) (sz:=3) rqd (fun _=>rfl)
         refine lL hs [.m 123 16] (lR 124 98 1 ([.slice srA ((tr).length) src]) hs (fun b68 w69 h70 hs=>?_))
         refine lY 125 0 98 1 sWc sWA vW vc (.slice srA ((tr).length) src:Value) 24 b68 (.slice none 0 0) hs (hs.f.1) (fun A72 c73 w74 h75 hs=>?_)
         refine lL hs [.v 126 (.pointer (some ⟨b25,1,none⟩))] (lP 0 1 ([.slice A72 ((vW++[(.slice srA ((tr).length) src:Value)]).length) c73]) hs (fun w77 hs=>?_))
         refine lN (CG.region ⟨(b14::(Value.slice sBA ((tB).length) sBc).ownBlock.toList),none⟩ 5 [] mixed kR hs.g al_nil (hs.rb_lt 1 1 (rb:=b14) (ty:=95) (sz:=3) (A:=sBA) (c:=sBc) (m:=(tB).length) (cs:=(tB).flatMap rqc)) ?_)
         refine eV 0 127 (.pointer (some ⟨b25,2,none⟩)) ?_
         refine eO 1 128 [(0,2,1)] (.slice sBA ((tB).length) sBc) hs ?_ (hM:=fun p hp=>by obtain rfl:=List.mem_singleton.1 hp;exact hs.rb_ne 0 1 1 (rb:=b14) (ty:=95) (sz:=3) (A:=sBA) (c:=sBc) (m:=(tB).length) (cs:=(tB).flatMap rqc))
         refine eC 2 129 hs (fun _ _ hs=>rOf 0 oM oM _ _ hs.g) ?_
         rintro _ _ _ w86 h87 hs ⟨A78,c79,A82,c83,rfl,hc80,hc84,hA81,hA85⟩
         replace hs:=((hs.a_SlO hA81).a_SlO hA85)
         refine eR 3 130 95 1 ([.bool (ineg ((0:Int):Rat).num),.slice A78 ((lim (iabs ((0:Int):Rat).num)).length) c79,.slice A82 ((lim ((0:Int):Rat).den).length) c83]) hs (fun b88 w89 h90 hs=>?_)
         refine eY 4 131 1 95 3 sBc sBA tB rqc ((ineg ((0:Int):Rat).num,.slice A78 ((lim (iabs ((0:Int):Rat).num)).length) c79,.slice A82 ((lim ((0:Int):Rat).den).length) c83):RT) 56 b88 (.agg #[.bool false,.slice none 0 0,.slice none 0 0]) hs (fun _ f_=>f_.1) (fun b hb=>List.mem_cons_of_mem _ (Option.mem_toList.2 hb)) (fun A92 c93 w94 h95 hs=>?_)
         refine eD0 hs (fun w97 h98 hs=>?_)
         refine tV 5 132 (.pointer (some ⟨b25,2,none⟩)) ?_
         refine tP 6 0 2 ([.slice A92 ((tB++[((ineg ((0:Int):Rat).num,.slice A78 ((lim (iabs ((0:Int):Rat).num)).length) c79,.slice A82 ((lim ((0:Int):Rat).den).length) c83):RT)]).length) c93]) hs (fun w99 hs=>?_)
         refine tN (CG.listed (lL hs [.m 98 15] (lIn 99 ((r:Nat)+1) (r+1) ?_)))
         refine lL hs [.m 15 99] (lD ?_)
         intro a_ ka
         have q100:RVs h98 (vW++[(.slice srA ((tr).length) src:Value)]) (drawMat dr half (S.getD k 0) s1 (r+1)).1:=(by rw[drawMat_s,←hs2];have hTr2:=(hs.f.2.2.2.2.2.1);rw[show c=S.getD k 0 by omega] at hTr2;exact RVs.snoc (hs.f.2.2.2.2.2.2.1) ⟨_,_,tr,rfl,hc66,(hs.f.2.2.2.2.1),hTr2⟩)
         have q101:RTs h98 (tB++[((ineg ((0:Int):Rat).num,.slice A78 ((lim (iabs ((0:Int):Rat).num)).length) c79,.slice A82 ((lim ((0:Int):Rat).den).length) c83):RT)]) (List.replicate (r+1) 0):=(by rw[List.replicate_succ'];exact RTs.snoc (hs.f.2.2.2.2.2.2.2.1) (RQ.eq (q:=0) (rqOk hc80 hc84 (hs.f.2.2.1) (hs.f.2.1)) rfl))
         have q102:(r+1)≤S.getD (k+1) 0:=by omega
         have q103:s3=(drawMat dr half (S.getD k 0) s1 (r+1)).2:=(by rw[hs3,hs2,show c=S.getD k 0 by omega];rfl)
         have q104:Dif [rbk] w wd:=hdf
         have q105:Own wd rbk 41 [.int .u64 (s3:Nat)]:=hO
         have q106:s3<18446744073709551616:=hs3l
         replace hs:=((hs.tl.tl.tl.tl.tl.tl.tl.tl.add (K:=fun h_=>RTs h_ (tB++[((ineg ((0:Int):Rat).num,.slice A78 ((lim (iabs ((0:Int):Rat).num)).length) c79,.slice A82 ((lim ((0:Int):Rat).den).length) c83):RT)]) (List.replicate (r+1) 0)) q101).add (K:=fun h_=>RVs h_ (vW++[(.slice srA ((tr).length) src:Value)]) (drawMat dr half (S.getD k 0) s1 (r+1)).1) q100)
         refine ⟨_,_,?_,⟨r+1,A72,c73,vW++[(.slice srA ((tr).length) src:Value)],A92,c93,tB++[((ineg ((0:Int):Rat).num,.slice A78 ((lim (iabs ((0:Int):Rat).num)).length) c79,.slice A82 ((lim ((0:Int):Rat).den).length) c83):RT)],s3,wd,h98,rfl,rfl,hs.to _ _,q102,q103,q104,q105,q106⟩,ka.to [(0,.slice A S.length cap),(1,.int .i64 kd),(3,.pointer (some ⟨rbk,0,none⟩)),(8,.pointer (some ⟨b1,0,none⟩)),(11,.int .i64 (half:Nat)),(12,.pointer (some ⟨b14,0,none⟩)),(13,.int .i64 (k+1:Nat)),(14,.pointer (some ⟨b25,0,none⟩)),(15,.int .i64 ((r+1):Nat))] kR⟩
         omega
        have phb64:=oT hb64
        refine lB 106 hb64 ?_
        refine lN (cIT (CG.skipN (CG.seq (CG.block (CG.listed (lL hs [.m 109 16,.m 110 3,.m 111 11] (lIn 112 (2*(half:Nat)) (2*half) ?_)))))))
        refine lIn 113 ((2*half:Nat)+1) ((2*half)+1) ?_
        refine lCm 114 (rDraw dr hdr rbk s3 hs3l oM oM _ _ hs.g (hs.fown hO) (hs.fjk hj)) ?_
        rintro _ w108 h109 u110 ⟨rfl,hox107⟩
        obtain ⟨wd111,hd112,hc113,hs⟩:=hs.frn hdf (one_jk hj) u110
        have hO114:Own wd111 rbk 41 [.int .u64 ((dr s3).2:Nat)]:=(hc113 _ (lt_of_some hj)).trans hox107
        have hlx107:=(hdl s3 hs3l).2
        have hbx107:=(hdl s3 hs3l).1
        refine lL hs [.m 115 11] (lV 116 (.int .i64 (((dr s3).1:Nat)-(half:Nat))) ?_ (hr:=rint (n:=IntKind.wrap .i64 (((dr s3).1:Nat)-(half:Nat))) kR ((wr64 oM oM).trans oM)))
        refine lL hs [.m 117 11] (lC 118 hs (rOver (((dr s3).1:Nat)-(half:Nat)) (half:Nat) oM oM oM oM oM _ _ hs.g) ?_)
        rintro _ w123 h124 hs ⟨A115,c116,A119,c120,rfl,hc117,hc121,hA118,hA122⟩
        replace hs:=((hs.a_SlO hA118).a_SlO hA122)
        refine lR 119 95 1 ([.bool (ineg (mkR (((dr s3).1:Nat)-(half:Nat)) (half:Nat)).num),.slice A115 ((lim (iabs (mkR (((dr s3).1:Nat)-(half:Nat)) (half:Nat)).num)).length) c116,.slice A119 ((lim (mkR (((dr s3).1:Nat)-(half:Nat)) (half:Nat)).den).length) c120]) hs (fun b125 w126 h127 hs=>?_)
        refine lY 120 0 95 3 src srA tr rqc ((ineg (mkR (((dr s3).1:Nat)-(half:Nat)) (half:Nat)).num,.slice A115 ((lim (iabs (mkR (((dr s3).1:Nat)-(half:Nat)) (half:Nat)).num)).length) c116,.slice A119 ((lim (mkR (((dr s3).1:Nat)-(half:Nat)) (half:Nat)).den).length) c120):RT) 56 b125 (.agg #[.bool false,.slice none 0 0,.slice none 0 0]) hs (hs.f.1) (fun A129 c130 w131 h132 hs=>?_)
        refine lL hs [.m 16 120] (lN (CG.listed (lL hs [.m 107 17] (lIn 108 ((c:Nat)+1) (c+1) ?_))))
        refine lL hs [.m 17 108] (lD ?_)
        intro a_ ka
        have q134:RTs h132 (tr++[((ineg (mkR (((dr s3).1:Nat)-(half:Nat)) (half:Nat)).num,.slice A115 ((lim (iabs (mkR (((dr s3).1:Nat)-(half:Nat)) (half:Nat)).num)).length) c116,.slice A119 ((lim (mkR (((dr s3).1:Nat)-(half:Nat)) (half:Nat)).den).length) c120):RT)]) (drawRow dr half s2 (c+1)).1:=(by rw[drawRow_s,←hs3];exact RTs.snoc (hs.f.2.2.2.1) (rqOk hc117 hc121 (hs.f.2.2.1) (hs.f.2.1)))
        have q135:(c+1)≤S.getD k 0:=by omega
        have q136:((dr s3).2)=(drawRow dr half s2 (c+1)).2:=(by rw[hs3];rfl)
        have q137:Dif [rbk] w wd111:=hd112
        have q138:Own wd111 rbk 41 [.int .u64 (((dr s3).2):Nat)]:=hO114
        have q139:((dr s3).2)<18446744073709551616:=hlx107
        replace hs:=(hs.tl.tl.tl.tl.add (K:=fun h_=>RTs h_ (tr++[((ineg (mkR (((dr s3).1:Nat)-(half:Nat)) (half:Nat)).num,.slice A115 ((lim (iabs (mkR (((dr s3).1:Nat)-(half:Nat)) (half:Nat)).num)).length) c116,.slice A119 ((lim (mkR (((dr s3).1:Nat)-(half:Nat)) (half:Nat)).den).length) c120):RT)]) (drawRow dr half s2 (c+1)).1) q134)
        refine ⟨_,_,?_,⟨c+1,A129,c130,tr++[((ineg (mkR (((dr s3).1:Nat)-(half:Nat)) (half:Nat)).num,.slice A115 ((lim (iabs (mkR (((dr s3).1:Nat)-(half:Nat)) (half:Nat)).num)).length) c116,.slice A119 ((lim (mkR (((dr s3).1:Nat)-(half:Nat)) (half:Nat)).den).length) c120):RT)],(dr s3).2,wd111,h132,rfl,rfl,hs.to _ _,q135,q136,q137,q138,q139⟩,ka.to [(0,.slice A S.length cap),(1,.int .i64 kd),(3,.pointer (some ⟨rbk,0,none⟩)),(8,.pointer (some ⟨b1,0,none⟩)),(11,.int .i64 (half:Nat)),(12,.pointer (some ⟨b14,0,none⟩)),(13,.int .i64 (k+1:Nat)),(14,.pointer (some ⟨b25,0,none⟩)),(15,.int .i64 (r:Nat)),(17,.int .i64 ((c+1):Nat)),(16,.slice A129 (((tr++[((ineg (mkR (((dr s3).1:Nat)-(half:Nat)) (half:Nat)).num,.slice A115 ((lim (iabs (mkR (((dr s3).1:Nat)-(half:Nat)) (half:Nat)).num)).length) c116,.slice A119 ((lim (mkR (((dr s3).1:Nat)-(half:Nat)) (half:Nat)).den).length) c120):RT)])).length) c130)] kR⟩
        omega
       have phb13:=oT hb13
       refine lB 72 hb13 ?_
       refine lL hs [.v 73 (.bool true)] (lN (cIT (cSL (lL hs [.v 74 (.agg #[.slice none 0 0])] (lP 0 0 ([.slice none 0 0]) hs (fun w140 hs=>?_))))))
       exact lL hs [.v 9 (.int .i64 1)] (lN (CG.ret (hs.retM (hs.upF hdf) [(0,0,1)] (.tuple #[.agg #[.slice none 0 0],.int .i64 1]) ⟨none,0,[],[],1,rfl,Nat.le_refl _,SlO.nil,RNetL.nil,mkp1 hz oM oM,fun e=>absurd e kD,fun _=>rfl,_,hs.fown hO⟩)))
      have phb12:=oT hb12
      refine lB 69 hb12 ?_
      refine lL hs [.m 70 69] (lG 71 ?_)
      refine lG 72 ?_
      refine lL hs [.v 73 (.bool true)] (lN (cIT (cSL (lL hs [.v 74 (.agg #[.slice none 0 0])] (lP 0 0 ([.slice none 0 0]) hs (fun w141 hs=>?_))))))
      exact lL hs [.v 9 (.int .i64 1)] (lN (CG.ret (hs.retM (hs.upF hdf) [(0,0,1)] (.tuple #[.agg #[.slice none 0 0],.int .i64 1]) ⟨none,0,[],[],1,rfl,Nat.le_refl _,SlO.nil,RNetL.nil,mkp1 hz oM oM,fun e=>absurd e kD,fun _=>rfl,_,hs.fown hO⟩)))
     have phb11:=oT hb11
     refine lB 65 hb11 ?_
     refine lL hs [.v 66 (.bool true)] (lN (cIT (cSL (lL hs [.v 67 (.agg #[.slice none 0 0])] (lP 0 0 ([.slice none 0 0]) hs (fun w142 hs=>?_))))))
     exact lL hs [.v 9 (.int .i64 10)] (lN (CG.ret (hs.retM (hs.upF hdf) [(0,0,1)] (.tuple #[.agg #[.slice none 0 0],.int .i64 10]) ⟨none,0,[],[],10,rfl,Nat.le_refl _,SlO.nil,RNetL.nil,mkp10 hz oM,fun e=>absurd e kD,fun _=>rfl,_,hs.fown hO⟩)))
    have phb10:=oT hb10
    refine lB 62 hb10 ?_
    refine lL hs [.m 63 62] (lG 64 ?_)
    refine lG 65 ?_
    refine lL hs [.v 66 (.bool true)] (lN (cIT (cSL (lL hs [.v 67 (.agg #[.slice none 0 0])] (lP 0 0 ([.slice none 0 0]) hs (fun w143 hs=>?_))))))
    exact lL hs [.v 9 (.int .i64 10)] (lN (CG.ret (hs.retM (hs.upF hdf) [(0,0,1)] (.tuple #[.agg #[.slice none 0 0],.int .i64 10]) ⟨none,0,[],[],10,rfl,Nat.le_refl _,SlO.nil,RNetL.nil,mkp10 hz oM,fun e=>absurd e kD,fun _=>rfl,_,hs.fown hO⟩)))
   have phb9:=oT hb9
   refine lB 30 hb9 ?_
   refine lN (cIT (CG.skipN (CG.seq (CG.block (cSL (lL hs [.m 33 0,.m 34 10] (lX 35 A S.length cap 1 (k:Nat) k ((hs.f.1).ok oM) ?_)))))))
   refine lH 36 (.int .i64 (S.getD k 0:Nat)) hs ((hs.f.1).el k oM) ?_
   cases hb144:(decide (((S.getD k 0:Nat):Int)<(1:Int)))
   ·
    have phb144:=oF hb144
    refine lB 37 hb144 ?_
    refine lL hs [.m 38 37,.m 39 10] ?_
    cases hb145:(((k:Nat):Int) == (0:Int))
    ·
     have phb145:=neOfBeq hb145
     refine lB 40 hb145 ?_
     refine lL hs [.m 41 40] (lG 42 ?_)
     refine lG 43 ?_
     refine lG 44 ?_
     refine lG 45 ?_
     refine lG 46 ?_
     refine lL hs [.v 47 (.bool false),.v 48 (.bool false),.m 49 48,.m 50 10] ?_
     cases hb146:(decide ((0:Int)<((k:Nat):Int)))
     ·
      have phb146:=oF hb146
      refine lB 51 hb146 ?_
      refine lL hs [.m 52 51] (lG 53 ?_)
      refine lG 54 ?_
      refine lG 55 ?_
      refine lG 56 ?_
      refine lG 57 ?_
      refine lL hs [.v 58 (.bool false),.v 59 (.bool false)] (lN (cIF (CG.skipN (CG.listed (lL hs [.m 31 10] (lIn 32 ((k:Nat)+1) (k+1) ?_))))))
      refine lL hs [.m 10 32] (lD ?_)
      intro a_ ka
      have q147:(k+1)≤S.length:=by omega
      have q148:∀ i,i<(k+1)→1≤S.getD i 0∧(i=0→S.getD i 0≤20)∧(0<i→S.getD i 0≤12):=fun i a=>by
        by_cases e:i<k
        · exact hzz i e
        · have:i=k:=by omega
          subst this;exact ⟨by omega,fun _=>by omega,fun _=>by omega⟩
      refine ⟨_,_,?_,⟨k+1,h7,rfl,rfl,hs.to _ _,q147,q148⟩,ka.to [(0,.slice A S.length cap),(1,.int .i64 kd),(2,.int .i64 bt),(3,.pointer (some ⟨rbk,0,none⟩)),(8,.pointer (some ⟨b1,0,none⟩)),(10,.int .i64 ((k+1):Nat))] kR⟩
      omega
     have phb146:=oT hb146
     refine lB 51 hb146 ?_
     refine lL hs [.m 52 51,.m 53 0,.m 54 10] (lX 55 A S.length cap 1 (k:Nat) k ((hs.f.1).ok oM) ?_)
     refine lH 56 (.int .i64 (S.getD k 0:Nat)) hs ((hs.f.1).el k oM) ?_
     cases hb149:(decide ((12:Int)<((S.getD k 0:Nat):Int)))
     ·
      have phb149:=oF hb149
      refine lB 57 hb149 ?_
      refine lL hs [.v 58 (.bool false),.v 59 (.bool false)] (lN (cIF (CG.skipN (CG.listed (lL hs [.m 31 10] (lIn 32 ((k:Nat)+1) (k+1) ?_))))))
      refine lL hs [.m 10 32] (lD ?_)
      intro a_ ka
      have q150:(k+1)≤S.length:=by omega
      have q151:∀ i,i<(k+1)→1≤S.getD i 0∧(i=0→S.getD i 0≤20)∧(0<i→S.getD i 0≤12):=fun i a=>by
        by_cases e:i<k
        · exact hzz i e
        · have:i=k:=by omega
          subst this;exact ⟨by omega,fun _=>by omega,fun _=>by omega⟩
      refine ⟨_,_,?_,⟨k+1,h7,rfl,rfl,hs.to _ _,q150,q151⟩,ka.to [(0,.slice A S.length cap),(1,.int .i64 kd),(2,.int .i64 bt),(3,.pointer (some ⟨rbk,0,none⟩)),(8,.pointer (some ⟨b1,0,none⟩)),(10,.int .i64 ((k+1):Nat))] kR⟩
      omega
     have phb149:=oT hb149
     refine lB 57 hb149 ?_
     refine lL hs [.v 58 (.bool true),.v 59 (.bool true)] (lN (cIT (cSL (lL hs [.v 60 (.agg #[.slice none 0 0])] (lP 0 0 ([.slice none 0 0]) hs (fun w152 hs=>?_))))))
     exact lL hs [.v 9 (.int .i64 5)] (lN (CG.ret (hs.retM (hs.upF hdf) [(0,0,1)] (.tuple #[.agg #[.slice none 0 0],.int .i64 5]) ⟨none,0,[],[],5,rfl,Nat.le_refl _,SlO.nil,RNetL.nil,mkp5 (by intro z;have z1:=z.l2;have z2:=z.l5;have z3:=z.f;first|omega|(have z4:=z.r (k+1) oM oM;omega)|(have z4:=z.r k oM oM;omega)|(rcases Nat.eq_zero_or_pos k with e0|e0<;>(first|(have z4:=z.r k e0 oM;omega)|(subst e0;omega)))),fun e=>absurd e kD,fun _=>rfl,_,hs.fown hO⟩)))
    have phb145:=eq_of_beq hb145
    refine lB 40 hb145 ?_
    refine lL hs [.m 41 40,.m 42 0,.m 43 10] (lX 44 A S.length cap 1 (k:Nat) k ((hs.f.1).ok oM) ?_)
    refine lH 45 (.int .i64 (S.getD k 0:Nat)) hs ((hs.f.1).el k oM) ?_
    cases hb153:(decide ((20:Int)<((S.getD k 0:Nat):Int)))
    ·
     have phb153:=oF hb153
     refine lB 46 hb153 ?_
     refine lL hs [.v 47 (.bool false),.v 48 (.bool false),.m 49 48,.m 50 10] ?_
     have ⟨hb154,phb154⟩:=dF (p:=(0:Int)<((k:Nat):Int)) oM
     refine lB 51 hb154 ?_
     refine lL hs [.m 52 51] (lG 53 ?_)
     refine lG 54 ?_
     refine lG 55 ?_
     refine lG 56 ?_
     refine lG 57 ?_
     refine lL hs [.v 58 (.bool false),.v 59 (.bool false)] (lN (cIF (CG.skipN (CG.listed (lL hs [.m 31 10] (lIn 32 ((k:Nat)+1) (k+1) ?_))))))
     refine lL hs [.m 10 32] (lD ?_)
     intro a_ ka
     have q155:(k+1)≤S.length:=by omega
     have q156:∀ i,i<(k+1)→1≤S.getD i 0∧(i=0→S.getD i 0≤20)∧(0<i→S.getD i 0≤12):=fun i a=>by
       by_cases e:i<k
       · exact hzz i e
       · have:i=k:=by omega
         subst this;exact ⟨by omega,fun _=>by omega,fun _=>by omega⟩
     refine ⟨_,_,?_,⟨k+1,h7,rfl,rfl,hs.to _ _,q155,q156⟩,ka.to [(0,.slice A S.length cap),(1,.int .i64 kd),(2,.int .i64 bt),(3,.pointer (some ⟨rbk,0,none⟩)),(8,.pointer (some ⟨b1,0,none⟩)),(10,.int .i64 ((k+1):Nat))] kR⟩
     omega
    have phb153:=oT hb153
    refine lB 46 hb153 ?_
    refine lL hs [.v 47 (.bool true),.v 48 (.bool true),.m 49 48] (lG 50 ?_)
    refine lG 51 ?_
    refine lG 52 ?_
    refine lG 53 ?_
    refine lG 54 ?_
    refine lG 55 ?_
    refine lG 56 ?_
    refine lG 57 ?_
    refine lG 58 ?_
    refine lL hs [.v 59 (.bool true)] (lN (cIT (cSL (lL hs [.v 60 (.agg #[.slice none 0 0])] (lP 0 0 ([.slice none 0 0]) hs (fun w157 hs=>?_))))))
    exact lL hs [.v 9 (.int .i64 5)] (lN (CG.ret (hs.retM (hs.upF hdf) [(0,0,1)] (.tuple #[.agg #[.slice none 0 0],.int .i64 5]) ⟨none,0,[],[],5,rfl,Nat.le_refl _,SlO.nil,RNetL.nil,mkp5 (by intro z;have z1:=z.l2;have z2:=z.l5;have z3:=z.f;first|omega|(have z4:=z.r (k+1) oM oM;omega)|(have z4:=z.r k oM oM;omega)|(rcases Nat.eq_zero_or_pos k with e0|e0<;>(first|(have z4:=z.r k e0 oM;omega)|(subst e0;omega)))),fun e=>absurd e kD,fun _=>rfl,_,hs.fown hO⟩)))
   have phb144:=oT hb144
   refine lB 37 hb144 ?_
   refine lL hs [.m 38 37] (lG 39 ?_)
   refine lG 40 ?_
   refine lG 41 ?_
   refine lG 42 ?_
   refine lG 43 ?_
   refine lG 44 ?_
   refine lG 45 ?_
   refine lG 46 ?_
   refine lG 47 ?_
   refine lL hs [.v 48 (.bool true),.m 49 48] (lG 50 ?_)
   refine lG 51 ?_
   refine lG 52 ?_
   refine lG 53 ?_
   refine lG 54 ?_
   refine lG 55 ?_
   refine lG 56 ?_
   refine lG 57 ?_
   refine lG 58 ?_
   refine lL hs [.v 59 (.bool true)] (lN (cIT (cSL (lL hs [.v 60 (.agg #[.slice none 0 0])] (lP 0 0 ([.slice none 0 0]) hs (fun w158 hs=>?_))))))
   exact lL hs [.v 9 (.int .i64 5)] (lN (CG.ret (hs.retM (hs.upF hdf) [(0,0,1)] (.tuple #[.agg #[.slice none 0 0],.int .i64 5]) ⟨none,0,[],[],5,rfl,Nat.le_refl _,SlO.nil,RNetL.nil,mkp5 (by intro z;have z1:=z.l2;have z2:=z.l5;have z3:=z.f;first|omega|(have z4:=z.r (k+1) oM oM;omega)|(have z4:=z.r k oM oM;omega)|(rcases Nat.eq_zero_or_pos k with e0|e0<;>(first|(have z4:=z.r k e0 oM;omega)|(subst e0;omega)))),fun e=>absurd e kD,fun _=>rfl,_,hs.fown hO⟩)))
  have phb5:=oT hb5
  refine lB 24 hb5 ?_
  refine lL hs [.v 25 (.bool true)] (lN (cIT (cSL (lL hs [.v 26 (.agg #[.slice none 0 0])] (lP 0 0 ([.slice none 0 0]) hs (fun w159 hs=>?_))))))
  exact lL hs [.v 9 (.int .i64 5)] (lN (CG.ret (hs.retM (hs.upF hdf) [(0,0,1)] (.tuple #[.agg #[.slice none 0 0],.int .i64 5]) ⟨none,0,[],[],5,rfl,Nat.le_refl _,SlO.nil,RNetL.nil,mkp5 (by intro z;have z1:=z.l2;have z2:=z.l5;have z3:=z.f;first|omega|(have z4:=z.r (k+1) oM oM;omega)|(have z4:=z.r k oM oM;omega)|(rcases Nat.eq_zero_or_pos k with e0|e0<;>(first|(have z4:=z.r k e0 oM;omega)|(subst e0;omega)))),fun e=>absurd e kD,fun _=>rfl,_,hs.fown hO⟩)))
 have phb4:=oT hb4
 refine lB 20 hb4 ?_
 refine lL hs [.m 21 20] (lG 22 ?_)
 refine lG 23 ?_
 refine lG 24 ?_
 refine lL hs [.v 25 (.bool true)] (lN (cIT (cSL (lL hs [.v 26 (.agg #[.slice none 0 0])] (lP 0 0 ([.slice none 0 0]) hs (fun w160 hs=>?_))))))
 exact lL hs [.v 9 (.int .i64 5)] (lN (CG.ret (hs.retM (hs.upF hdf) [(0,0,1)] (.tuple #[.agg #[.slice none 0 0],.int .i64 5]) ⟨none,0,[],[],5,rfl,Nat.le_refl _,SlO.nil,RNetL.nil,mkp5 (by intro z;have z1:=z.l2;have z2:=z.l5;have z3:=z.f;first|omega|(have z4:=z.r (k+1) oM oM;omega)|(have z4:=z.r k oM oM;omega)|(rcases Nat.eq_zero_or_pos k with e0|e0<;>(first|(have z4:=z.r k e0 oM;omega)|(subst e0;omega)))),fun e=>absurd e kD,fun _=>rfl,_,hs.fown hO⟩)))
end Go.Proofs.YticblaklfnadoaaGreatDoor
