/- Laws and contracts that the card of this claim stands on, part 5. No condition of ours. -/
import Derived.Test.YteaminoddghjcaaGreatDoorPr0
import Derived.Test.YteaminoddghjcaaGreatDoorPr1
import Derived.Test.YteaminoddghjcaaGreatDoorPr2
import Derived.Test.YteaminoddghjcaaGreatDoorPr3
set_option maxRecDepth 100000
set_option maxHeartbeats 4000000
namespace Go.Proofs.YteaminoddghjcaaGreatDoor
open Go.RowKit
open Go.RowKit Go.Shelf
def backE (inp:Int)(l:List Stp)(os:List Int)(at_ by_:List Rat):Int:=if chkTp inp l os=0 then (if (at_.length:Int)=inp∧by_.length=os.length then terr true l at_ l.length else 5) else 1
def backO (inp:Int)(l:List Stp)(os:List Int)(at_ by_:List Rat):List Rat:=if backE inp l os at_ by_=0 then pickL (tvals l at_ l.length) os else []
def backG (inp:Int)(l:List Stp)(os:List Int)(at_ by_:List Rat):List Rat:=if backE inp l os at_ by_=0 then gradT inp.toNat l os at_ by_ else []
section
variable {inp:Int} {l:List Stp} {os:List Int} {at_ by_:List Rat}
theorem back_n {e:Int}(h:backE inp l os at_ by_=e)(he:e≠0):backE inp l os at_ by_=e∧backO inp l os at_ by_=[]∧backG inp l os at_ by_=[] :=
  ⟨h,if_neg (by rw[h];exact he),if_neg (by rw[h];exact he)⟩
theorem back_1 (h:chkTp inp l os≠0):backE inp l os at_ by_=1∧backO inp l os at_ by_=[]∧backG inp l os at_ by_=[]:=back_n (if_neg h) kD
theorem back_5 (h:chkTp inp l os=0)(h2:¬((at_.length:Int)=inp∧by_.length=os.length)):backE inp l os at_ by_=5∧backO inp l os at_ by_=[]∧backG inp l os at_ by_=[]:=back_n (by unfold backE;rw[if_pos h,if_neg h2]) kD
theorem back_e (h:chkTp inp l os=0)(h2:(at_.length:Int)=inp)(h3:by_.length=os.length)(h4:terr true l at_ l.length≠0):backE inp l os at_ by_=terr true l at_ l.length∧backO inp l os at_ by_=[]∧backG inp l os at_ by_=[]:=back_n (by unfold backE;rw[if_pos h,if_pos ⟨h2,h3⟩]) h4
theorem back_0 (h:chkTp inp l os=0)(h2:(at_.length:Int)=inp)(h3:by_.length=os.length)(h4:terr true l at_ l.length=0):backE inp l os at_ by_=0∧backO inp l os at_ by_=pickL (tvals l at_ l.length) os∧backG inp l os at_ by_=gradT inp.toNat l os at_ by_:=by
  have e:backE inp l os at_ by_=0:=by unfold backE;rw[if_pos h,if_pos ⟨h2,h3⟩,h4]
  exact ⟨e,if_pos e,if_pos e⟩
end
theorem pick_get {vs:List Rat}{os:List Int}{i:Nat}(h:i<os.length):(pickL vs os).getD i 0=vs.getD (os.getD i 0).toNat 0:=by
  unfold pickL;simp[List.getD_eq_getElem?_getD,h]
def Bo (l:List Stp)(os:List Int)(at_ by_:List Rat)(i:Nat)(bar:List Rat):Prop :=
  ∀ way,dotq bar (tders l at_ way l.length) l.length=dotq by_ (pickL (tders l at_ way l.length) os) i
def Bos (wt:Nat→Nat)(n W i:Nat)(bar:List Rat):Prop:=∃ f:Nat→Nat,(∀ j,LQ (f j) (bar.getD j 0))∧pot wt f n≤pot wt (fun _=>1) n+i*(2*W)
section
variable {l:List Stp} {os:List Int} {at_ by_ bar:List Rat} {i:Nat}
theorem Bo.init:Bo l os at_ by_ 0 (List.replicate l.length 0):=fun way=>by rw[dotq_rep0];rfl
theorem Bo.step (B:Bo l os at_ by_ i bar)(hi:i<os.length)(ho:(os.getD i 0).toNat<l.length)(hl:bar.length=l.length):Bo l os at_ by_ (i+1) (bar.set (os.getD i 0).toNat (bar.getD (os.getD i 0).toNat 0+by_.getD i 0)):=fun way=>by
  show _=dotq by_ _ i+_
  rw[dotq_set' oM ho rfl,B way,pick_get hi]
theorem Bos.init (wt:Nat→Nat)(n W:Nat):Bos wt n W 0 (List.replicate n 0):=⟨fun _=>1,fun j=>by rw[rep_zero];exact lq0 (k:=1) (Nat.le_refl 1),Nat.le_add_right _ _⟩
theorem Bos.step {wt:Nat→Nat}{n W o:Nat}{y:Rat}(Z:Bos wt n W i bar)(ho:o<n)(hW:wt o≤W)(hy:LQ 1 y):Bos wt n W (i+1) (bar.set o (bar.getD o 0+y)):=by
  obtain ⟨f,hf,hp⟩:=Z;refine ⟨upd f o 2,lq_upd hf ((hf o).add hy),?_⟩;rw[pot_upd,if_pos ho,Nat.add_mul];omega
theorem Bos.lb {wt:Nat→Nat}{n W C:Nat}(Z:Bos wt n W i bar)(hw:∀ j,j<n→1≤wt j)(hC:pot wt (fun _=>1) n+i*(2*W)≤C):∀ j,j<n→LQ C (bar.getD j 0):=fun j hj=>by
  obtain ⟨f,hf,hp⟩:=Z;have:=pot_le wt f n hw j hj;exact (hf j).mono oM
theorem Bos.bz {wt sg:Nat→Nat}{n W C inp:Nat}(Z:Bos wt n W i bar)(hC:1+pot wt (fun _=>1) n+i*(2*W)+rem_ wt sg n≤C):Bz wt sg C n bar (List.replicate inp 0):=by
  obtain ⟨f,hf,hp⟩:=Z;exact ⟨f,1,hf,fun j=>by rw[rep_zero];exact lq0 oM,by omega⟩
theorem Bo.bk (B:Bo l os at_ by_ os.length bar)(inp:Nat):Bk l at_ inp (tgt l os at_ by_) l.length bar (List.replicate inp 0):=fun way=>by
  rw[B way,dotq_rep0,Rat.add_zero];rfl
theorem Bk.fin {inp:Nat}{g:List Rat}(B:Bk l at_ inp (tgt l os at_ by_) 0 bar g)(hg:g.length=inp):g=gradT inp l os at_ by_∧∀ way,dotq g way inp=tgt l os at_ by_ way:=by
  have h1:∀ way,dotq g way inp=tgt l os at_ by_ way:=fun way=>by
    have:=B way
    change (0:Rat)+_=_ at this
    rw[←this];grind
  refine ⟨list_ext (by unfold gradT;rw[List.length_map,List.length_range,hg]) fun j=>?_,h1⟩
  by_cases hj:j<inp
  · unfold gradT
    rw[←dotq_unit hj,h1];simp[hj]
  · rw[getD_outR oM,getD_outR (by unfold gradT;rw[List.length_map,List.length_range];omega)]
end
theorem pot_one:∀ n,pot (fun k=>2^k) (fun _=>1) n+1=2^n
  | 0=>rfl
  | n+1=>by
    have:=pot_one n
    show pot _ _ n+1*2^n+1=_
    rw[Nat.pow_succ];omega
section
variable {inp:Int} {l:List Stp} {os:List Int} {at_ way by_:List Rat}
end
theorem lq_unitv (n i:Nat):∀ j,LQ 1 ((unitv n i).getD j 0):=by
  unfold unitv
  exact lq_set (fun j=>by rw[rep_zero];exact lq0 oM) (LQ.lit (z:=1) kD)
theorem lq_pick {v:List Rat}{os:List Int}{K:Nat}(hK:1≤K)(h:∀ j,LQ K (v.getD j 0))(j:Nat):LQ K ((pickL v os).getD j 0):=by
  by_cases e:j<os.length
  · rw[pick_get e];exact h _
  · rw[getD_outR (by unfold pickL;rw[List.length_map];omega)];exact lq0 hK
theorem pick_len (v:List Rat)(os:List Int):(pickL v os).length=os.length:=List.length_map _
theorem lq_gradT {inp K:Nat}{l:List Stp}{os:List Int}{at_ by_:List Rat}(hK:1≤K)(ho:os.length≤3)(hb:∀ j,LQ 1 (by_.getD j 0))(hd:∀ i j,LQ K ((tders l at_ (unitv inp i) l.length).getD j 0))(j:Nat):LQ (3*K+7) ((gradT inp l os at_ by_).getD j 0):=by
  unfold gradT
  by_cases hj:j<inp
  · have e:((List.range inp).map fun j=>tgt l os at_ by_ (unitv inp j)).getD j 0=tgt l os at_ by_ (unitv inp j):=by simp[hj]
    rw[e];unfold tgt;refine (LQ.dot (n:=os.length) (fun i _=>hb i) (fun i _=>lq_pick hK (hd j) i) _ (Nat.le_refl _)).mono ?_;have:=Nat.mul_le_mul_right (1+K+1) ho
    omega
  · rw[getD_outR (by rw[List.length_map,List.length_range];omega)];exact lq0 oM
def Bw (m:Nat):Nat:=18446744073709551616^m
theorem Bw_pos (m:Nat):1≤Bw m:=Nat.pow_pos kD
theorem Bw_le {m n:Nat}(h:m≤n):Bw m≤Bw n:=Nat.pow_le_pow_right kD h
theorem Bw_two (m:Nat):Bw m+Bw m≤Bw (m+1):=by
  unfold Bw;rw[Nat.pow_succ];omega
def Mg (m:Nat)(x:Rat):Prop:=-((Bw m:Nat):Rat)≤x∧x≤((Bw m:Nat):Rat)
theorem Mg.mono {m n:Nat}{x:Rat}(h:Mg m x)(k:m≤n):Mg n x:=by
  have e:((Bw m:Nat):Rat)≤((Bw n:Nat):Rat):=Rat.natCast_le_natCast.2 (Bw_le k);exact ⟨Rat.le_trans (Rat.neg_le_neg e) h.1,Rat.le_trans h.2 e⟩
theorem mg_iff {m:Nat}{x:Rat}:Mg m x↔iabs x.num≤Bw m*x.den:=by
  unfold Mg
  rw[Rat.le_iff,Rat.le_iff,Rat.neg_num,Rat.neg_den,Rat.num_natCast,Rat.den_natCast,Int.neg_mul,←Int.natCast_mul]
  unfold iabs
  generalize Bw m*x.den=z
  constructor
  · intro h;omega
  · intro h;omega
theorem LQ.mg {k:Nat}{q:Rat}(h:LQ k q):Mg k q:=by
  rw[mg_iff];have h1:=wds_lt_pow (iabs q.num);have h2:18446744073709551616^(wds (iabs q.num)).length≤Bw k:=Nat.pow_le_pow_right kD h.1;have h3:=Nat.mul_le_mul_left (Bw k) q.den_pos
  omega
theorem Mg.zero (m:Nat):Mg m 0:=mg_iff.2 (Nat.zero_le _)
theorem Mg.one (m:Nat):Mg m ((1:Int):Rat):=mg_iff.2 (by show 1≤Bw m*1;have:=Bw_pos m;omega)
theorem Mg.add {m:Nat}{a b:Rat}(ha:Mg m a)(hb:Mg m b):Mg (m+1) (a+b):=by
  have e:((Bw m:Nat):Rat)+((Bw m:Nat):Rat)≤((Bw (m+1):Nat):Rat):=by
    rw[←Rat.natCast_add];exact Rat.natCast_le_natCast.2 (Bw_two m)
  obtain ⟨a1,a2⟩:=ha;obtain ⟨b1,b2⟩:=hb
  unfold Mg
  generalize ((Bw m:Nat):Rat)=p at *
  generalize ((Bw (m+1):Nat):Rat)=q at *
  constructor<;>grind
theorem Mg.neg {m:Nat}{a:Rat}(ha:Mg m a):Mg m (-a):=by
  obtain ⟨a1,a2⟩:=ha
  unfold Mg
  generalize ((Bw m:Nat):Rat)=p at *
  constructor<;>grind
theorem Mg.sub {m:Nat}{a b:Rat}(ha:Mg m a)(hb:Mg m b):Mg (m+1) (a-b):=by
  rw[Rat.sub_eq_add_neg];exact ha.add hb.neg
theorem Mg.mul {m n:Nat}{a b:Rat}(ha:Mg m a)(hb:Mg n b):Mg (m+n) (a*b):=by
  have e:((Bw (m+n):Nat):Rat)=((Bw m:Nat):Rat)*((Bw n:Nat):Rat):=by
    rw[←Rat.natCast_mul];unfold Bw;rw[Nat.pow_add]
  obtain ⟨a1,a2⟩:=ha;obtain ⟨b1,b2⟩:=hb
  unfold Mg
  rw[e]
  generalize ((Bw m:Nat):Rat)=p at *
  generalize ((Bw n:Nat):Rat)=q at *
  have h1:0≤(p-a)*(q+b):=Rat.mul_nonneg (by grind) (by grind);have h2:0≤(p+a)*(q-b):=Rat.mul_nonneg (by grind) (by grind);have h3:0≤(p-a)*(q-b):=Rat.mul_nonneg (by grind) (by grind);have h4:0≤(p+a)*(q+b):=Rat.mul_nonneg (by grind) (by grind)
  constructor<;>grind
def nearI (n:Int)(d u:Nat):Int :=
  n*u/d+(if (d:Int)<n*u%d+n*u%d∨(n*u%d+n*u%d=d∧n*u/d%2=1) then 1 else 0)
def nearR (x:Rat)(b:Nat):Rat:=mkRat (nearI x.num x.den (2^b)) (2^b)
theorem nearI_bd {n:Int}{d u B:Nat}(hd:0<d)(h:iabs n≤B*d):iabs (nearI n d u)≤B*u+1:=by
  unfold iabs at *
  have e1:n*u≤((B*u:Nat):Int)*d:=by
    have:n*u≤((B*d:Nat):Int)*u:=Int.mul_le_mul_of_nonneg_right oM oM;refine Int.le_trans this (Int.le_of_eq ?_)
    push_cast;grind
  have e2 : -((B*u:Nat):Int)*d≤n*u:=by
    have : -((B*d:Nat):Int)*u≤n*u:=Int.mul_le_mul_of_nonneg_right oM oM;refine Int.le_trans (Int.le_of_eq ?_) this
    push_cast;grind
  have d0:(0:Int)<d:=by omega
  have q1:n*u/d≤((B*u:Nat):Int):=by
    have:=Int.ediv_le_ediv d0 e1
    rwa [Int.mul_ediv_cancel _ oM] at this
  have q2 : -((B*u:Nat):Int)≤n*u/d:=by
    have:=Int.ediv_le_ediv d0 e2
    rwa [Int.mul_ediv_cancel _ oM] at this
  unfold nearI
  split<;>omega
theorem lq_near {m b:Nat}{x:Rat}(h:Mg m x)(hb:b≤32):LQ (m+1) (nearR x b):=by
  have h0:0<2^b:=Nat.pow_pos kD;have h1:2^b≤4294967296:=Nat.le_trans (Nat.pow_le_pow_right (n:=2) kD hb) kD;have h2:=nearI_bd (u:=2^b) x.den_pos (mg_iff.1 h)
  unfold nearR
  constructor
  · refine wds_len_le (b:=iabs (nearI x.num x.den (2^b))) ?_ (dig_len_le kD ?_)
    · rw[Rat.num_mkRat,if_neg oM]
      refine iabs_div_le _ _ ?_;exact Int.ofNat_dvd_left.2 (Nat.gcd_dvd_right _ _)
    · refine Nat.lt_of_le_of_lt h2 ?_
      have:=Nat.mul_le_mul_left (Bw m) h1;have hp:=Bw_pos m
      show _<18446744073709551616^(m+1)
      rw[Nat.pow_succ]
      change _<Bw m*_
      omega
  · refine wds_len_le (b:=2^b) ?_ (Nat.le_trans (m:=1) (wds_len_lit.2 oM) oM)
    rw[Rat.den_mkRat,if_neg oM];exact Nat.div_le_self _ _
def vd (A k:Nat):Nat:=2^(k-2)*(A+2)-2
def sgd (A k:Nat):Nat:=3*vd A k+5
def dd (A k:Nat):Nat:=2^(k-2)*(1+3*(k-2)*(A+2))
def mm (A k:Nat):Nat:=3*(2^(k-2)-1)*(A+2)
theorem vd_ge (A k:Nat):A≤vd A k:=by
  have:=Nat.mul_le_mul_right (A+2) (Nat.one_le_two_pow (n:=k-2))
  unfold vd;omega
theorem vd_s (A k:Nat)(h:2≤k):2*vd A k+2=vd A (k+1):=by
  have:=vd_ge A k;have e:2^(k+1-2)=2*2^(k-2):=by rw[show k+1-2=k-2+1 by omega,Nat.pow_succ,Nat.mul_comm]
  have h1:=Nat.mul_le_mul_right (A+2) (Nat.one_le_two_pow (n:=k-2))
  unfold vd at *
  rw[e,Nat.mul_assoc];omega
theorem vd_m (A k:Nat):vd A k≤vd A (k+1):=by
  have:=Nat.mul_le_mul_right (A+2) (Nat.pow_le_pow_right (n:=2) kD (show k-2≤k+1-2 by omega))
  unfold vd;omega
theorem dd_1 (A k:Nat):1≤dd A k:=Nat.mul_le_mul (Nat.one_le_two_pow (n:=k-2)) (show 1≤1+3*(k-2)*(A+2) by omega)
theorem dd_s (A k:Nat)(h:2≤k):2*(sgd A k+dd A k)+1≤dd A (k+1):=by
  obtain ⟨j,rfl⟩:∃ j,k=j+2:=⟨k-2,by omega⟩;have h1:=Nat.mul_le_mul_right (A+2) (Nat.one_le_two_pow (n:=j))
  unfold sgd dd vd
  rw[show j+2+1-2=j+1 by omega,show j+2-2=j by omega,Nat.pow_succ,Nat.mul_add 3 j 1,Nat.add_mul (3*j) (3*1),←Nat.add_assoc 1,Nat.mul_add (2^j*2)];rw[Nat.mul_comm (2^j) 2,Nat.mul_assoc 2,Nat.mul_assoc 2 (2^j) (3*1*(A+2)),show 3*1*(A+2)=(A+2)*3 by omega,←Nat.mul_assoc (2^j) (A+2) 3]
  omega
theorem dd_m (A k:Nat):dd A k≤dd A (k+1):=by
  unfold dd
  refine Nat.mul_le_mul (Nat.pow_le_pow_right kD oM) ?_;have:=Nat.mul_le_mul_right (A+2) (Nat.mul_le_mul_left 3 (show k-2≤k+1-2 by omega))
  omega
theorem mm_s (A k:Nat)(h:2≤k):sgd A k+mm A k+1≤mm A (k+1):=by
  obtain ⟨j,rfl⟩:∃ j,k=j+2:=⟨k-2,by omega⟩;have h0:=Nat.one_le_two_pow (n:=j);have h1:=Nat.mul_le_mul_right (A+2) h0
  unfold sgd mm vd
  rw[show j+2+1-2=j+1 by omega,show j+2-2=j by omega,Nat.pow_succ];obtain ⟨p,hp⟩:∃ p,2^j=p+1:=⟨2^j-1,by omega⟩;rw[hp] at h1 ⊢
  rw[show 3*((p+1)*2-1)=3*(p+1)+3*(p+1-1) by omega,Nat.add_mul (3*(p+1)),Nat.mul_assoc 3 (p+1)]
  omega
theorem mm_m (A k:Nat):mm A k≤mm A (k+1):=by
  unfold mm
  refine Nat.mul_le_mul_right _ (Nat.mul_le_mul_left 3 ?_);have:=Nat.pow_le_pow_right (n:=2) kD (show k-2≤k+1-2 by omega)
  omega
structure Fst2 (l:List Stp):Prop where
  nm:∀ k,k<l.length→k<2→(l.getD k stp0).op=2
  pw:∀ k,k<l.length→(l.getD k stp0).op=8→(l.getD k stp0).n.natAbs≤2
  q:∀ i,LQ 1 (l.getD i stp0).q
theorem lq_slp6 {l:List Stp}{A:Nat}(F:Fst2 l)(hA:1≤A)(k:Nat)(hk:k<l.length){u v:Rat}(hu:LQ (vd A k) u)(hv:LQ (vd A k) v):LQ (sgd A k) (sla (l.getD k stp0).op (l.getD k stp0).n u v)∧LQ (sgd A k) (slb (l.getD k stp0).op u v):=by
  have h1:1≤vd A k:=Nat.le_trans hA (vd_ge A k)
  unfold sgd
  exact ⟨lq_slaM (M:=2) h1 oM oM hu hv (fun e8=>F.pw k hk e8),lq_slbM (M:=2) h1 oM hu hv⟩
theorem mg_snoc {v:List Rat}{x:Rat}{K:Nat}(h:∀ j,Mg K (v.getD j 0))(hx:Mg K x)(j:Nat):Mg K ((v++[x]).getD j 0):=by
  rw[getD_snoc]
  split
  · exact h j
  · split
    · exact hx
    · exact Mg.zero K
theorem mg_ite {c:Prop}[Decidable c]{a:Rat}{k:Nat}(h:c→Mg k a):Mg k (if c then a else 0):=by
  split
  · exact h ‹_›
  · exact Mg.zero k
section
variable {l:List Stp} {at_ way:List Rat} {A:Nat} (F:Fst2 l) (hA:1≤A) (ha:∀ j,LQ A (at_.getD j 0))
include F hA ha
theorem lq_val6:∀ k,k≤l.length→∀ j,LQ (vd A k) ((tvals l at_ k).getD j 0)
  | 0,_,j=>by
    show LQ _ (([]:List Rat).getD j 0)
    rw[getD_outR (by simp)];exact lq0 (Nat.le_trans hA (vd_ge A 0))
  | k + 1,hk,j=>by
    have ih:=lq_val6 k oM;have h1:1≤vd A k:=Nat.le_trans hA (vd_ge A k);refine lq_snoc (fun j=>(ih j).mono (vd_m A k)) ?_ (Nat.le_trans h1 (vd_m A k)) j
    unfold sval
    by_cases e:(l.getD k stp0).op=2
    · rw[if_pos e];exact (ha _).mono (vd_ge A _)
    · rw[if_neg e]
      have h2:2≤k:=Classical.byContradiction fun h=>e (F.nm k oM oM)
      rw[←vd_s A k h2];exact lq_opv (M:=2) h1 oM (ih _) (ih _) (F.q k) (fun e8=>F.pw k oM e8)
theorem lq_slpe {inp:Int}(hF:∀ k,k<l.length→Formed inp k (l.getD k stp0))(k:Nat)(hk:k<l.length)(h2:(l.getD k stp0).op≠2) :
    LQ (sgd A k) (sla (l.getD k stp0).op (l.getD k stp0).n ((tvals l at_ l.length).getD (l.getD k stp0).a.toNat 0) ((tvals l at_ l.length).getD (l.getD k stp0).b.toNat 0))∧LQ (sgd A k) (slb (l.getD k stp0).op ((tvals l at_ l.length).getD (l.getD k stp0).a.toNat 0) ((tvals l at_ l.length).getD (l.getD k stp0).b.toNat 0)):=by
  obtain ⟨o1,o2,o3,o4⟩:=(hF k hk).opr
  by_cases h0:0<ari (l.getD k stp0).op
  · rw[tvals_get l at_ k l.length oM _ (o1 h0),tvals_get l at_ k l.length oM _ (o3 h0)]
    exact lq_slp6 F hA k hk (lq_val6 F hA ha k oM _) (lq_val6 F hA ha k oM _)
  · have e:(l.getD k stp0).op=1:=by have:=ari_cases (l.getD k stp0).op;have:=o4 h2;omega
    have hs:1≤sgd A k:=by unfold sgd;omega
    rw[e];exact ⟨lq0 hs,lq0 hs⟩
theorem lq_der6 (hw:∀ j,LQ 1 (way.getD j 0)):∀ k,k≤l.length→∀ j,LQ (dd A k) ((tders l at_ way k).getD j 0)
  | 0,_,j=>by
    show LQ _ (([]:List Rat).getD j 0)
    rw[getD_outR (by simp)];exact lq0 (dd_1 A 0)
  | k + 1,hk,j=>by
    have ih:=lq_der6 hw k oM;have hv:=lq_val6 F hA ha k oM;refine lq_snoc (fun j=>(ih j).mono (dd_m A k)) ?_ (dd_1 A (k+1)) j
    unfold sder
    by_cases e:(l.getD k stp0).op=2
    · rw[if_pos e];exact (hw _).mono (dd_1 A (k+1))
    · rw[if_neg e]
      have h2:2≤k:=Classical.byContradiction fun h=>e (F.nm k oM oM)
      obtain ⟨s1,s2⟩:=lq_slp6 F hA k oM (hv (l.getD k stp0).a.toNat) (hv (l.getD k stp0).b.toNat);have h3:=dd_s A k h2;have h4:=dd_1 A k;refine LQ.mono (LQ.add (lq_ite (k:=sgd A k+dd A k) (fun _=>s1.mul (ih _)) (fun _=>lq0 oM)) (lq_ite (k:=sgd A k+dd A k) (fun _=>s2.mul (ih _)) (fun _=>lq0 oM))) ?_
      omega
theorem mg_der6 (hw:∀ j,Mg 0 (way.getD j 0)):∀ k,k≤l.length→∀ j,Mg (mm A k) ((tders l at_ way k).getD j 0)
  | 0,_,j=>by
    show Mg _ (([]:List Rat).getD j 0)
    rw[getD_outR (by simp)];exact Mg.zero _
  | k + 1,hk,j=>by
    have ih:=mg_der6 hw k oM;have hv:=lq_val6 F hA ha k oM;refine mg_snoc (fun j=>(ih j).mono (mm_m A k)) ?_ j
    unfold sder
    by_cases e:(l.getD k stp0).op=2
    · rw[if_pos e];exact (hw _).mono (Nat.zero_le _)
    · rw[if_neg e]
      have h2:2≤k:=Classical.byContradiction fun h=>e (F.nm k oM oM)
      obtain ⟨s1,s2⟩:=lq_slp6 F hA k oM (hv (l.getD k stp0).a.toNat) (hv (l.getD k stp0).b.toNat);have h3:=mm_s A k h2;exact Mg.mono (Mg.add (mg_ite (k:=sgd A k+mm A k) (fun _=>s1.mg.mul (ih _))) (mg_ite (k:=sgd A k+mm A k) (fun _=>s2.mg.mul (ih _)))) h3
end
theorem mg_dot {a b:List Rat}{m:Nat}(ha:∀ i,Mg 0 (a.getD i 0))(hb:∀ i,Mg m (b.getD i 0)):∀ n,Mg (m+n) (dotq a b n)
  | 0=>Mg.zero _
  | n+1=>by
    have h:=mg_dot ha hb n;have h2:=(ha n).mul (hb n);exact h.add (h2.mono oM)
theorem mg_unitv (n i:Nat)(j:Nat):Mg 0 ((unitv n i).getD j 0):=by
  unfold unitv
  rw[List.getD_eq_getElem?_getD,List.getElem?_set]
  split
  · split
    · exact Mg.one 0
    · exact Mg.zero 0
  · rw[←List.getD_eq_getElem?_getD,rep_zero];exact Mg.zero 0
theorem mg_gradT {inp:Nat}{l:List Stp}{os:List Int}{at_ by_:List Rat}{A:Nat}(F:Fst2 l)(hA:1≤A)(ha:∀ j,LQ A (at_.getD j 0))(ho:os.length≤2)(hb:∀ j,Mg 0 (by_.getD j 0))(j:Nat):Mg (mm A l.length+2) ((gradT inp l os at_ by_).getD j 0):=by
  unfold gradT
  by_cases hj:j<inp
  · have e:((List.range inp).map fun j=>tgt l os at_ by_ (unitv inp j)).getD j 0=tgt l os at_ by_ (unitv inp j):=by simp[hj]
    rw[e];unfold tgt;refine (mg_dot hb (m:=mm A l.length) (fun i=>?_) os.length).mono oM
    by_cases hi:i<os.length
    · rw[pick_get hi];exact mg_der6 F hA ha (mg_unitv inp j) l.length (Nat.le_refl _) _
    · rw[getD_outR (by rw[pick_len];omega)];exact Mg.zero _
  · rw[getD_outR (by rw[List.length_map,List.length_range];omega)];exact Mg.zero _
theorem hc_6 {A n m:Nat}(hA:A≤6441)(hn:n≤6)(hm:m≤2):1+pot (fun k=>2^k) (fun _=>1) n+m*(2*64)+rem_ (fun k=>2^k) (sgd A) n≤100000000:=by
  have h1:=pot_one n;have h3:2^n≤64:=Nat.pow_le_pow_right kD hn
  have h2:rem_ (fun k=>2^k) (sgd A) n≤10000000:=by
    obtain rfl|rfl|rfl|rfl|rfl|rfl|rfl:n=0∨n=1∨n=2∨n=3∨n=4∨n=5∨n=6:=by omega
    all_goals (simp only[rem_,pot,sgd,vd,Nat.reducePow,Nat.reduceSub];omega)
  omega
theorem w_6 {n:Nat}(hn:n≤6):∀ j,j<n→2^j≤64:=fun j hj=>Nat.le_trans (Nat.pow_le_pow_right kD (show j≤6 by omega)) kD
def sumR (l:List Rat):Nat→Rat
  | 0=>0
  | k+1=>sumR l k+l.getD k 0
theorem lq_sumR {l:List Rat}{K:Nat}(h:∀ j,LQ K (l.getD j 0)):∀ n,LQ (n*(K+1)+1) (sumR l n)
  | 0=>lq0 oM
  | n+1=>((lq_sumR h n).add (h n)).mono (by rw[Nat.succ_mul];omega)
def markL (m:Nat)(bt:List Int):Nat→List Rat
  | 0=>List.replicate m 0
  | j+1=>(markL m bt j).set (bt.getD j 0).toNat ((1:Int):Rat)
theorem markL_len (m:Nat)(bt:List Int):∀ j,(markL m bt j).length=m
  | 0=>List.length_replicate
  | j+1=>by unfold markL;rw[List.length_set];exact markL_len m bt j
theorem markL_01 (m:Nat)(bt:List Int):∀ j i,(markL m bt j).getD i 0=0∨(markL m bt j).getD i 0=((1:Int):Rat)
  | 0,i=>.inl (rep_zero i)
  | j + 1,i=>by
    unfold markL
    rw[List.getD_eq_getElem?_getD,List.getElem?_set]
    split
    · split
      · exact .inr rfl
      · exact .inl rfl
    · rw[←List.getD_eq_getElem?_getD];exact markL_01 m bt j i
theorem mg_mark (m:Nat)(bt:List Int)(j i:Nat):Mg 0 ((markL m bt j).getD i 0):=by
  rcases markL_01 m bt j i with h|h<;>rw[h]
  · exact Mg.zero 0
  · exact Mg.one 0
theorem lq_mark (m:Nat)(bt:List Int)(j i:Nat):LQ 1 ((markL m bt j).getD i 0):=by
  rcases markL_01 m bt j i with h|h<;>rw[h]
  · exact lq0 kD
  · exact LQ.lit (z:=1) kD
def wayN (ra ke:Rat)(b:Nat)(way g:List Rat)(n:Nat):List Rat:=(List.range n).map fun i=>nearR (ke*way.getD i 0-ra*g.getD i 0) b
def atN (b:Nat)(at_ way:List Rat)(n:Nat):List Rat:=(List.range n).map fun i=>nearR (at_.getD i 0+way.getD i 0) b
structure DSt where
  e:Int
  at_:List Rat
  way:List Rat
  ls:List Rat
section
variable (inp:Int) (l:List Stp) (os:List Int) (ra ke:Rat) (b:Nat) (bt:Nat→List Int)
def byD (k:Nat):List Rat:=markL os.length (bt k) (bt k).length
def lossD (at_:List Rat):Rat:=sumR (runL false inp l os at_) (runL false inp l os at_).length
def wayD (k:Nat)(s:DSt):List Rat:=wayN ra ke b s.way (backG inp l os s.at_ (byD os bt k)) s.at_.length
def atD (k:Nat)(s:DSt):List Rat:=atN b s.at_ (wayD inp l os ra ke b bt k s) s.at_.length
def rnd (k:Nat)(s:DSt):DSt :=
  if s.e≠0 then s
  else if backE inp l os s.at_ (byD os bt k)≠0 then { s with e:=backE inp l os s.at_ (byD os bt k) }
  else ⟨runE false inp l os (atD inp l os ra ke b bt k s),atD inp l os ra ke b bt k s,wayD inp l os ra ke b bt k s,s.ls++[lossD inp l os (atD inp l os ra ke b bt k s)]⟩
def dst (at0:List Rat):Nat→DSt
  | 0=>⟨runE false inp l os at0,at0,List.replicate at0.length 0,[lossD inp l os at0]⟩
  | k+1=>rnd inp l os ra ke b bt k (dst at0 k)
end
section
variable {inp:Int} {l:List Stp} {os:List Int} {ra ke:Rat} {b:Nat} {bt bt2:Nat→List Int} {at0:List Rat}
theorem rnd_bad {k:Nat}{s:DSt}(h:s.e≠0):rnd inp l os ra ke b bt k s=s:=if_pos h
theorem rnd_back {k:Nat}{s:DSt}(h:s.e=0)(h2:backE inp l os s.at_ (byD os bt k)≠0):rnd inp l os ra ke b bt k s={ s with e:=backE inp l os s.at_ (byD os bt k) }:=by
  unfold rnd;rw[if_neg oM,if_pos h2]
theorem rnd_ok {k:Nat}{s:DSt}(h:s.e=0)(h2:backE inp l os s.at_ (byD os bt k)=0):rnd inp l os ra ke b bt k s=⟨runE false inp l os (atD inp l os ra ke b bt k s),atD inp l os ra ke b bt k s,wayD inp l os ra ke b bt k s,s.ls++[lossD inp l os (atD inp l os ra ke b bt k s)]⟩:=by
  unfold rnd;rw[if_neg oM,if_neg oM]
theorem dst_e {k n:Nat}(hkn:k≤n)(h:(dst inp l os ra ke b bt at0 k).e≠0):dst inp l os ra ke b bt at0 n=dst inp l os ra ke b bt at0 k:=by
  induction hkn with
  | refl=>rfl
  | @step n hkn ih =>
    show rnd inp l os ra ke b bt n (dst inp l os ra ke b bt at0 n)=_
    rw[ih,rnd_bad h]
theorem dst_e0 {k n:Nat}(hkn:k≤n)(h:(dst inp l os ra ke b bt at0 n).e=0):(dst inp l os ra ke b bt at0 k).e=0 :=
  Classical.byContradiction fun hk=>hk (by rw[←dst_e hkn hk];exact h)
theorem dst_ls:∀ k,(dst inp l os ra ke b bt at0 k).e=0→(dst inp l os ra ke b bt at0 k).ls.length=k+1
  | 0,_=>rfl
  | k + 1,h=>by
    have h0:=dst_e0 (Nat.le_succ k) h;have ih:=dst_ls k h0
    have h2:backE inp l os (dst inp l os ra ke b bt at0 k).at_ (byD os bt k)=0:=Classical.byContradiction fun hb=>by
      change (rnd inp l os ra ke b bt k (dst inp l os ra ke b bt at0 k)).e=0 at h
      rw[rnd_back h0 hb] at h;exact hb h
    show (rnd inp l os ra ke b bt k (dst inp l os ra ke b bt at0 k)).ls.length=_
    rw[rnd_ok h0 h2,List.length_append,ih];rfl
theorem dst_pre (k:Nat)(h:(dst inp l os ra ke b bt at0 (k+1)).e=0):(dst inp l os ra ke b bt at0 (k+1)).ls.take (k+1)=(dst inp l os ra ke b bt at0 k).ls:=by
  have h0:=dst_e0 (Nat.le_succ k) h;have hl:=dst_ls k h0
  have h2:backE inp l os (dst inp l os ra ke b bt at0 k).at_ (byD os bt k)=0:=Classical.byContradiction fun hb=>by
    change (rnd inp l os ra ke b bt k (dst inp l os ra ke b bt at0 k)).e=0 at h
    rw[rnd_back h0 hb] at h;exact hb h
  show (rnd inp l os ra ke b bt k (dst inp l os ra ke b bt at0 k)).ls.take _=_
  rw[rnd_ok h0 h2,←hl,List.take_left']
  rfl
end
def ab:Nat→Nat
  | 0=>1
  | k+1=>45*ab k+96
theorem ab_1:∀ k,1≤ab k
  | 0=>Nat.le_refl _
  | k+1=>by unfold ab;omega
theorem ab_2 {k:Nat}(h:k≤2):ab k≤6441:=by
  obtain rfl|rfl|rfl:k=0∨k=1∨k=2:=by omega
  all_goals decide
theorem ab_3 {k:Nat}(h:k≤3):ab k≤289941:=by
  obtain rfl|rfl|rfl|rfl:k=0∨k=1∨k=2∨k=3:=by omega
  all_goals decide
theorem mm_6 {A n:Nat}(h:n≤6):mm A n≤45*(A+2):=by
  unfold mm
  have:=Nat.pow_le_pow_right (n:=2) kD (show n-2≤4 by omega);exact Nat.mul_le_mul_right _ oM
theorem vd_6 {A n:Nat}(h:n≤6):vd A n≤16*(A+2):=by
  unfold vd
  have:=Nat.mul_le_mul_right (A+2) (Nat.pow_le_pow_right (n:=2) kD (show n-2≤4 by omega))
  omega
theorem dd_6 {A n:Nat}(h:n≤6):dd A n≤16*(1+12*(A+2)):=by
  unfold dd
  refine Nat.mul_le_mul (Nat.pow_le_pow_right (n:=2) kD (show n-2≤4 by omega)) ?_;have:=Nat.mul_le_mul_right (A+2) (show 3*(n-2)≤12 by omega)
  omega
structure DOk (l:List Stp) (os:List Int) (ra ke:Rat) (b:Nat) (at0:List Rat):Prop where
  f2:Fst2 l
  hl:l.length≤6
  ho:os.length≤2
  ra1:LQ 1 ra
  ra0:Mg 0 ra
  ke1:LQ 1 ke
  ke0:Mg 0 ke
  hb:b≤32
  at1:∀ j,LQ 1 (at0.getD j 0)
theorem map_mg {n:Nat}{f:Nat→Rat}{K:Nat}(hK:1≤K)(h:∀ i,LQ K (f i))(j:Nat):LQ K (((List.range n).map f).getD j 0):=by
  by_cases hj:j<n
  · have e:((List.range n).map f).getD j 0=f j:=by simp[hj]
    rw[e];exact h j
  · rw[getD_outR (by rw[List.length_map,List.length_range];omega)];exact lq0 hK
section
variable {inp:Int} {l:List Stp} {os:List Int} {ra ke:Rat} {b:Nat} {bt:Nat→List Int} {at0:List Rat} (D:DOk l os ra ke b at0)
include D
theorem mg_backG {A:Nat}{at_ by_:List Rat}(hA:1≤A)(ha:∀ j,LQ A (at_.getD j 0))(hb:∀ j,Mg 0 (by_.getD j 0))(j:Nat):Mg (45*(A+2)+2) ((backG inp l os at_ by_).getD j 0):=by
  unfold backG
  split
  · exact (mg_gradT D.f2 hA ha D.ho hb j).mono (by have:=mm_6 (A:=A) D.hl;omega)
  · rw[getD_outR (by simp)];exact Mg.zero _
theorem lq_backG6 {A:Nat}{at_ by_:List Rat}(hA:1≤A)(ha:∀ j,LQ A (at_.getD j 0))(hb:∀ j,LQ 1 (by_.getD j 0))(j:Nat):LQ (3*(16*(1+12*(A+2)))+7) ((backG inp l os at_ by_).getD j 0):=by
  unfold backG
  split
  · exact lq_gradT oM (Nat.le_trans D.ho kD) hb (fun i j=>(lq_der6 D.f2 hA ha (lq_unitv _ i) l.length (Nat.le_refl _) j).mono (dd_6 D.hl)) j
  · rw[getD_outR (by simp)];exact lq0 oM
theorem mg_way {A:Nat}{way g:List Rat}(hw:∀ j,LQ A (way.getD j 0))(hg:∀ j,Mg (45*(A+2)+2) (g.getD j 0))(i:Nat):Mg (45*(A+2)+3) (ke*way.getD i 0-ra*g.getD i 0):=by
  have h1:=(D.ke0.mul (hw i).mg).mono (show 0+A≤45*(A+2)+2 by omega);have h2:=(D.ra0.mul (hg i)).mono (show 0+(45*(A+2)+2)≤45*(A+2)+2 by omega);exact h1.sub h2
theorem lq_way {A:Nat}{way g:List Rat}(hw:∀ j,LQ A (way.getD j 0))(hg:∀ j,Mg (45*(A+2)+2) (g.getD j 0))(i:Nat):LQ (45*(A+2)+4) (nearR (ke*way.getD i 0-ra*g.getD i 0) b):=lq_near (mg_way D hw hg i) D.hb
theorem lq_wayN {A:Nat}{way g:List Rat}(hw:∀ j,LQ A (way.getD j 0))(hg:∀ j,Mg (45*(A+2)+2) (g.getD j 0))(n i:Nat):LQ (45*(A+2)+4) ((wayN ra ke b way g n).getD i 0):=map_mg oM (fun i=>lq_way D hw hg i) i
theorem lq_atN {A:Nat}{at_ way:List Rat}(ha:∀ j,LQ A (at_.getD j 0))(hw:∀ j,LQ (45*(A+2)+4) (way.getD j 0))(n i:Nat):LQ (45*A+96) ((atN b at_ way n).getD i 0) :=
  map_mg oM (fun i=>(lq_near (((ha i).mono (show A≤45*(A+2)+4 by omega)).mg.add (hw i).mg) D.hb).mono oM) i
theorem dst_lq:∀ k,(∀ j,LQ (ab k) ((dst inp l os ra ke b bt at0 k).at_.getD j 0))∧(∀ j,LQ (ab k) ((dst inp l os ra ke b bt at0 k).way.getD j 0))
  | 0=>⟨fun j=>D.at1 j,fun j=>by show LQ 1 ((List.replicate at0.length (0:Rat)).getD j 0);rw[rep_zero];exact lq0 kD⟩
  | k + 1=>by
    obtain ⟨h1,h2⟩:=dst_lq k;have hA:=ab_1 k;have hm:ab k≤ab (k+1):=by show ab k≤45*ab k+96;omega
    show (∀ j,LQ _ ((rnd inp l os ra ke b bt k (dst inp l os ra ke b bt at0 k)).at_.getD j 0))∧(∀ j,LQ _ ((rnd inp l os ra ke b bt k (dst inp l os ra ke b bt at0 k)).way.getD j 0))
    by_cases e:(dst inp l os ra ke b bt at0 k).e=0
    · by_cases e2:backE inp l os (dst inp l os ra ke b bt at0 k).at_ (byD os bt k)=0
      · rw[rnd_ok e e2]
        have hw:=fun n=>lq_wayN D h2 (fun j=>mg_backG (inp:=inp) D hA h1 (mg_mark os.length (bt k) (bt k).length) j) n
        refine ⟨fun j=>lq_atN D h1 (hw _) _ j,fun j=>(hw _ j).mono ?_⟩
        show 45*(ab k+2)+4≤45*ab k+96
        omega
      · rw[rnd_back e e2]
        exact ⟨fun j=>(h1 j).mono hm,fun j=>(h2 j).mono hm⟩
    · rw[rnd_bad e]
      exact ⟨fun j=>(h1 j).mono hm,fun j=>(h2 j).mono hm⟩
end
theorem dst_len {inp:Int}{l:List Stp}{os:List Int}{ra ke:Rat}{b:Nat}{bt:Nat→List Int}{at0:List Rat}:∀ k,(dst inp l os ra ke b bt at0 k).at_.length=at0.length∧(dst inp l os ra ke b bt at0 k).way.length=at0.length
  | 0=>⟨rfl,List.length_replicate⟩
  | k + 1=>by
    obtain ⟨h1,h2⟩:=dst_len (inp:=inp) (l:=l) (os:=os) (ra:=ra) (ke:=ke) (b:=b) (bt:=bt) (at0:=at0) k
    show (rnd inp l os ra ke b bt k (dst inp l os ra ke b bt at0 k)).at_.length=_∧(rnd inp l os ra ke b bt k (dst inp l os ra ke b bt at0 k)).way.length=_
    unfold rnd
    split
    · exact ⟨h1,h2⟩
    · split
      · exact ⟨h1,h2⟩
      · unfold atD atN wayD wayN
        simp[h1]
theorem dv_p {x y:Int}(hx:0≤x)(hy:0<y):((iabs x/iabs y:Nat):Int)=x/y∧((iabs x%iabs y:Nat):Int)=x%y:=by
  obtain ⟨a,rfl⟩:=Int.eq_ofNat_of_zero_le hx;obtain ⟨b,rfl⟩:=Int.eq_ofNat_of_zero_le (a:=y) oM;exact ⟨rfl,rfl⟩
theorem dv_n {x y:Int}(hx:x<0)(hy:0<y)(hr:0<iabs x%iabs y):sgn true (iabs x/iabs y+1)=x/y∧((iabs y-iabs x%iabs y:Nat):Int)=x%y:=by
  obtain ⟨a,ha⟩:=Int.eq_ofNat_of_zero_le (a:=-x) oM;obtain ⟨b,rfl⟩:=Int.eq_ofNat_of_zero_le (a:=y) oM;obtain rfl:x = -(a:Int):=by omega
  have e1:iabs (-(a:Int))=a:=by unfold iabs;omega
  have e2:iabs (b:Int)=b:=rfl;rw[e1,e2] at hr ⊢
  have hd:=Nat.div_add_mod a b;have hm:=Nat.mod_lt a (show 0<b by omega);have hd2:(b:Int)*((a/b:Nat):Int)+((a%b:Nat):Int)=a:=by exact_mod_cast hd
  have e3:sgn true (a/b+1) = -(((a/b:Nat):Int)+1):=by unfold sgn;rfl
  rw[e3]
  have h:=(Int.ediv_emod_unique (a:=-(a:Int)) (b:=(b:Int)) (r:=((b-a%b:Nat):Int)) (q:=-(((a/b:Nat):Int)+1)) oM).2 ⟨by
    have e4:((b-a%b:Nat):Int)=(b:Int)-((a%b:Nat):Int):=by omega
    rw[e4,Int.mul_neg,Int.mul_add];omega,by omega,by omega⟩
  exact ⟨h.1.symm,h.2.symm⟩
theorem dv_z {x y:Int}(hx:x<0)(hy:0<y)(hr:iabs x%iabs y=0):sgn true (iabs x/iabs y)=x/y∧((iabs x%iabs y:Nat):Int)=x%y:=by
  obtain ⟨a,ha⟩:=Int.eq_ofNat_of_zero_le (a:=-x) oM;obtain ⟨b,rfl⟩:=Int.eq_ofNat_of_zero_le (a:=y) oM;obtain rfl:x = -(a:Int):=by omega
  have e1:iabs (-(a:Int))=a:=by unfold iabs;omega
  have e2:iabs (b:Int)=b:=rfl;rw[e1,e2] at hr ⊢
  have hd:=Nat.div_add_mod a b;have hd2:(b:Int)*((a/b:Nat):Int)+((a%b:Nat):Int)=a:=by exact_mod_cast hd
  rw[hr] at hd2 ⊢
  have h:=(Int.ediv_emod_unique (a:=-(a:Int)) (b:=(b:Int)) (r:=((0:Nat):Int)) (q:=-((a/b:Nat):Int)) oM).2 ⟨by rw[Int.mul_neg];omega,by omega,by omega⟩;exact ⟨h.1.symm,h.2.symm⟩
theorem ilen_div {x y:Int}{k:Nat}(h:(wds (iabs x)).length≤k):(wds (iabs (x/y))).length≤k:=wds_len_le (Int.natAbs_ediv_le_natAbs x y) h
theorem ilen_mod {x y:Int}{k:Nat}(hy:0<y)(h:(wds (iabs y)).length≤k):(wds (iabs (x%y))).length≤k:=wds_len_le (by
  have h1:=Int.emod_nonneg x (b:=y) oM;have h2:=Int.emod_lt_of_pos x hy
  unfold iabs;omega) h
theorem ilen_add {x y:Int}{k:Nat}(hx:(wds (iabs x)).length≤k)(hy:(wds (iabs y)).length≤k):(wds (iabs (x+y))).length≤k+1:=Nat.le_trans (wds_len_mono (show iabs (x+y)≤iabs x+iabs y from by unfold iabs;omega)) (wds_len_max hx hy)
theorem cmpI_cases (x y:Int):(x<y∧cmpI x y = -1)∨(x=y∧cmpI x y=0)∨(y<x∧cmpI x y=1):=by
  rcases Int.lt_trichotomy x y with h|h|h
  · exact .inl ⟨h,cmpI_lt h⟩
  · exact .inr (.inl ⟨h,by subst h;unfold cmpI;rw[if_neg oM,if_neg oM]⟩)
  · exact .inr (.inr ⟨h,cmpI_gt h⟩)
theorem near_1 {a:Rat}{b:Nat}{q r:Int}(hq:q=a.num*((2^b:Nat):Int)/((a.den:Nat):Int))(hr:r=a.num*((2^b:Nat):Int)%((a.den:Nat):Int))(h:((a.den:Nat):Int)<r+r∨(r+r=((a.den:Nat):Int)∧q%2=1)):mkRat (q+1) (2^b)=nearR a b:=by
  subst hq hr;unfold nearR nearI;rw[if_pos h]
theorem near_0 {a:Rat}{b:Nat}{q r:Int}(hq:q=a.num*((2^b:Nat):Int)/((a.den:Nat):Int))(hr:r=a.num*((2^b:Nat):Int)%((a.den:Nat):Int))(h:¬(((a.den:Nat):Int)<r+r∨(r+r=((a.den:Nat):Int)∧q%2=1))):mkRat q (2^b)=nearR a b:=by
  subst hq hr;unfold nearR nearI;rw[if_neg h,Int.add_zero]
theorem nShift1 (b:Nat)(hb:b≤65536)(w:World)(h:Hp)(g:G w h):CV 105 #[nv 1,nV b] w h (nv (2^b)):=by
  have x:=nShift 1 b (Nat.le_trans (wds_len_lit.2 kD:(wds 1).length≤1) kD) hb w h g;rw[Nat.one_mul] at x
  exact x
theorem wDivP (x y:Int)(hy:0<y)(hlx:(wds (iabs x)).length≤999999990)(hly:(wds (iabs y)).length≤999999990)(hx:ineg x=false)(hyn:ineg y=false)(w:World)(h:Hp)(g:G w h):CR 106 #[.agg #[.bool false,uV (lo (iabs x)),.string (hi (iabs x))],.agg #[.bool false,uV (lo (iabs y)),.string (hi (iabs y))]] w h (fun v _=>∃ q r:Int,v=.tuple #[iv q,iv r,.bool true]∧q=x/y∧r=x%y):=by
 have hs:=sS g;have hy0:0<iabs y:=by unfold iabs;omega
 have hrb:=Nat.mod_lt (iabs x) hy0;have hql:(wds (iabs x/iabs y)).length≤999999990:=wds_len_le (Nat.div_le_self _ _) hlx;have hrl:(wds (iabs x%iabs y)).length≤999999990:=wds_len_le (Nat.le_of_lt hrb) hly;have h1l:(wds 1).length≤1:=wds_len_lit.2 kD;have hq1:(wds (iabs x/iabs y+1)).length≤1000000000:=Nat.le_trans wds_len_add oM;have hrs:(wds (iabs y-iabs x%iabs y)).length≤1000000000:=Nat.le_trans (wds_len_le (Nat.sub_le _ _) hly) kD;have hnz:=@nb_zero_iff (iabs x%iabs y);refine go Tryz.func106 [(0,.agg #[qF,uV (lo (iabs x)),.string (hi (iabs x))]),(1,.agg #[qF,uV (lo (iabs y)),.string (hi (iabs y))])] rfl (cSL (lA 2 39 ([qF,uV (lo (iabs x)),.string (hi (iabs x))]) hs (fun b1 w2 h3 hs=>lA 3 39 ([qF,uV (lo (iabs y)),.string (hi (iabs y))]) hs (fun b4 w5 h6 hs=>lA 4 39 ([qF,uV 0,eS]) hs (fun b7 w8 h9 hs=>lA 5 39 ([qF,uV 0,eS]) hs (fun za _ _ hs=>lL hs [.v 6 qF] (lNS (lL hs [.v 10 (qP b1 1),.o 11 (nv (iabs x)) 3 1 2,.v 12 (qP b4 1),.o 13 (nv (iabs y)) 2 1 2] (lC 14 hs (nDiv (iabs x) (iabs y) oM oM oM _ _ hs.g) ?_)))))))));rintro _ _ _ hs rfl;refine lL hs [.m 9 14,.v 15 (nv ((iabs x)/(iabs y))),.v 16 (nv ((iabs x)%(iabs y))),.v 17 qT] (lA 7 37 ([uV 0,eS]) hs (fun b15 _ _ hs=>lA 8 37 ([uV 0,eS]) hs (fun b18 _ _ hs=>lP 1 0 (nc ((iabs x)/(iabs y))) hs (fun _ hs=>lP 0 0 (nc ((iabs x)%(iabs y))) hs (fun _ hs=>lL hs [.m 6 17] (lN (cQ (cSL (lL hs [.m 18 6,.v 19 qF] (lN (cIF (cK (cQ (cSL (lL hs [.v 22 (pB b1),.o 23 qF 5 0 1,.v 24 (pB b4),.o 25 qF 4 0 1,.v 26 qF,.m 27 26] (lG 28 ?_))))))))))))))));refine lG 29 (lG 30 (lL hs [.v 31 qF] (lN (cIF (cK (cQ ?_))))));have hsr:=hs;refine cRz 11 [] [b7,za] mixed hs al_nil (eV 0 42 (pB b1) (eO 1 43 [(5,0,1)] qF hs (eV 2 44 (pB b4) (eO 3 45 [(4,0,1)] qF hs (eV 4 46 qF (eO 5 47 [(1,0,2)] (nv ((iabs x)/(iabs y))) hs (eV 7 49 (pB b4) (eOz 8 50 [(4,0,1)] qF hsr hs ?_ (hM:=fun p hp=>by obtain rfl:=List.mem_singleton.1 hp;exact fun hm=>by rcases List.mem_cons.1 hm with e|hm;exact bx_ne hs.st (i:=4) (j:=3) kR kR kR e;rcases List.mem_cons.1 hm with e|hm;exact bx_ne hs.st (i:=4) (j:=2) kR kR kR e;cases hm)))))))));refine eOz 9 51 [(0,0,2)] (nv ((iabs x)%(iabs y))) hsr hs ?_ (hM:=fun p hp=>by obtain rfl:=List.mem_singleton.1 hp;exact fun hm=>by rcases List.mem_cons.1 hm with e|hm;exact bx_ne hs.st (i:=0) (j:=3) kR kR kR e;rcases List.mem_cons.1 hm with e|hm;exact bx_ne hs.st (i:=0) (j:=2) kR kR kR e;cases hm);refine eC 6 48 hs (fun _ _ hs=>wFromN ((iabs x)/(iabs y)) _ _ hs.g) ?_;rintro _ _ _ _ _ hs rfl;refine eC 10 52 hs (fun _ _ hs=>wFromN ((iabs x)%(iabs y)) _ _ hs.g) ?_;rintro _ _ _ _ _ hs rfl;refine eD0 hs (fun _ _ hs=>tP 11 3 0 (ic ((((iabs x)/(iabs y)):Nat):Int)) hs (fun _ hs=>?_) (hz:=tlz_mem (List.mem_cons_self)));refine tP 12 2 0 (ic ((((iabs x)%(iabs y)):Nat):Int)) hs (fun _ hs=>?_) (hz:=tlz_mem (List.mem_cons_of_mem _<|List.mem_cons_self));refine tV 13 6 qT (tN (cTo [(4,pB b7),(5,pB za),(6,qT)] ?_));exact kX (hs.ret [(3,0,3),(2,0,3)] (.tuple #[iv ((((iabs x)/(iabs y)):Nat):Int),iv ((((iabs x)%(iabs y)):Nat):Int),qT]) (⟨_,_,rfl,(dv_p (ineg_false hx) hy).1,(dv_p (ineg_false hx) hy).2⟩))
theorem wDivN (x y:Int)(hy:0<y)(hlx:(wds (iabs x)).length≤999999990)(hly:(wds (iabs y)).length≤999999990)(hx:ineg x=true)(hyn:ineg y=false)(w:World)(h:Hp)(g:G w h):CR 106 #[.agg #[.bool true,uV (lo (iabs x)),.string (hi (iabs x))],.agg #[.bool false,uV (lo (iabs y)),.string (hi (iabs y))]] w h (fun v _=>∃ q r:Int,v=.tuple #[iv q,iv r,.bool true]∧q=x/y∧r=x%y):=by
 have hs:=sS g;have hy0:0<iabs y:=by unfold iabs;omega
 have hrb:=Nat.mod_lt (iabs x) hy0;have hql:(wds (iabs x/iabs y)).length≤999999990:=wds_len_le (Nat.div_le_self _ _) hlx;have hrl:(wds (iabs x%iabs y)).length≤999999990:=wds_len_le (Nat.le_of_lt hrb) hly;have h1l:(wds 1).length≤1:=wds_len_lit.2 kD;have hq1:(wds (iabs x/iabs y+1)).length≤1000000000:=Nat.le_trans wds_len_add oM;have hrs:(wds (iabs y-iabs x%iabs y)).length≤1000000000:=Nat.le_trans (wds_len_le (Nat.sub_le _ _) hly) kD;have hnz:=@nb_zero_iff (iabs x%iabs y);refine go Tryz.func106 [(0,.agg #[qT,uV (lo (iabs x)),.string (hi (iabs x))]),(1,.agg #[qF,uV (lo (iabs y)),.string (hi (iabs y))])] rfl (cSL (lA 2 39 ([qT,uV (lo (iabs x)),.string (hi (iabs x))]) hs (fun b1 w2 h3 hs=>lA 3 39 ([qF,uV (lo (iabs y)),.string (hi (iabs y))]) hs (fun b4 w5 h6 hs=>lA 4 39 ([qF,uV 0,eS]) hs (fun b7 w8 h9 hs=>lA 5 39 ([qF,uV 0,eS]) hs (fun zb _ _ hs=>lL hs [.v 6 qF] (lNS (lL hs [.v 10 (qP b1 1),.o 11 (nv (iabs x)) 3 1 2,.v 12 (qP b4 1),.o 13 (nv (iabs y)) 2 1 2] (lC 14 hs (nDiv (iabs x) (iabs y) oM oM oM _ _ hs.g) ?_)))))))));rintro _ _ _ hs rfl;refine lL hs [.m 9 14,.v 15 (nv ((iabs x)/(iabs y))),.v 16 (nv ((iabs x)%(iabs y))),.v 17 qT] (lA 7 37 ([uV 0,eS]) hs (fun b15 _ _ hs=>lA 8 37 ([uV 0,eS]) hs (fun b18 _ _ hs=>lP 1 0 (nc ((iabs x)/(iabs y))) hs (fun _ hs=>lP 0 0 (nc ((iabs x)%(iabs y))) hs (fun _ hs=>lL hs [.m 6 17] (lN (cQ (cSL (lL hs [.m 18 6,.v 19 qF] (lN (cIF (cK (cQ (cSL (lL hs [.v 22 (pB b1),.o 23 qT 5 0 1,.v 24 (pB b4),.o 25 qF 4 0 1,.v 26 qT,.m 27 26,.o 28 (nv ((iabs x)%(iabs y))) 0 0 2] (lC 29 hs (nBits ((iabs x)%(iabs y)) aOM _ _ hs.g) ?_))))))))))))))));rintro _ _ _ hs rfl;cases za:(decide ((0:Int)<((nb ((iabs x)%(iabs y)):Nat):Int)))
 ·
  have zc:=oF za;refine lB 30 za (lL hs [.v 31 qF] (lN (cIF (cK (cQ ?_)))));have hsr:=hs;refine cRz 11 [] [b7,zb] mixed hs al_nil (eV 0 42 (pB b1) (eO 1 43 [(5,0,1)] qT hs (eV 2 44 (pB b4) (eO 3 45 [(4,0,1)] qF hs (eV 4 46 qT (eO 5 47 [(1,0,2)] (nv ((iabs x)/(iabs y))) hs (eV 7 49 (pB b4) (eOz 8 50 [(4,0,1)] qF hsr hs ?_ (hM:=fun p hp=>by obtain rfl:=List.mem_singleton.1 hp;exact fun hm=>by rcases List.mem_cons.1 hm with e|hm;exact bx_ne hs.st (i:=4) (j:=3) kR kR kR e;rcases List.mem_cons.1 hm with e|hm;exact bx_ne hs.st (i:=4) (j:=2) kR kR kR e;cases hm)))))))));refine eOz 9 51 [(0,0,2)] (nv ((iabs x)%(iabs y))) hsr hs ?_ (hM:=fun p hp=>by obtain rfl:=List.mem_singleton.1 hp;exact fun hm=>by rcases List.mem_cons.1 hm with e|hm;exact bx_ne hs.st (i:=0) (j:=3) kR kR kR e;rcases List.mem_cons.1 hm with e|hm;exact bx_ne hs.st (i:=0) (j:=2) kR kR kR e;cases hm);refine eC 6 48 hs (fun _ _ hs=>wFrom true ((iabs x)/(iabs y)) aOM _ _ hs.g) ?_;rintro _ _ _ _ _ hs rfl;refine eC 10 52 hs (fun _ _ hs=>wFromN ((iabs x)%(iabs y)) _ _ hs.g) ?_;rintro _ _ _ _ _ hs rfl;refine eD0 hs (fun _ _ hs=>tP 11 3 0 (ic (sgn true ((iabs x)/(iabs y)))) hs (fun _ hs=>?_) (hz:=tlz_mem (List.mem_cons_self)));refine tP 12 2 0 (ic ((((iabs x)%(iabs y)):Nat):Int)) hs (fun _ hs=>?_) (hz:=tlz_mem (List.mem_cons_of_mem _<|List.mem_cons_self));refine tV 13 6 qT (tN (cTo [(4,pB b7),(5,pB zb),(6,qT)] ?_));exact kX (hs.ret [(3,0,3),(2,0,3)] (.tuple #[iv (sgn true ((iabs x)/(iabs y))),iv ((((iabs x)%(iabs y)):Nat):Int),qT]) (⟨_,_,rfl,(dv_z (ineg_true hx) hy oM).1,(dv_z (ineg_true hx) hy oM).2⟩))
 have zc:=oT za;refine lB 30 za (lL hs [.v 31 qT] (lN (cIT (cQ (cR 3 [] mixed hs al_nil ?_)))));refine eO 0 32 [(1,0,2)] (nv ((iabs x)/(iabs y))) hs (eC 1 33 hs (fun _ _ hs=>nOf 1 oM _ _ hs.g) ?_);rintro _ _ _ _ _ hs rfl;refine eC 2 34 hs (fun _ _ hs=>nAdd ((iabs x)/(iabs y)) 1 aOM aOM _ _ hs.g) ?_;rintro _ _ _ _ _ hs rfl;refine eD0 hs (fun _ _ hs=>tP 3 1 0 (nc (((iabs x)/(iabs y))+1)) hs (fun _ hs=>tN (kQ (lL hs [.v 36 (qP b4 1),.o 37 (nv (iabs y)) 4 1 2,.o 38 (nv ((iabs x)%(iabs y))) 0 0 2] (lC 39 hs (nSub (iabs y) ((iabs x)%(iabs y)) oM aOM aOM _ _ hs.g) ?_)))));rintro _ _ _ hs rfl;refine lL hs [.m 35 39,.v 40 (nv ((iabs y)-((iabs x)%(iabs y)))),.v 41 qT] (lP 0 0 (nc ((iabs y)-((iabs x)%(iabs y)))) hs (fun _ hs=>lN (cQ ?_)));have hsr:=hs;refine cRz 11 [] [b7,zb] mixed hs al_nil (eV 0 42 (pB b1) (eO 1 43 [(5,0,1)] qT hs (eV 2 44 (pB b4) (eO 3 45 [(4,0,1)] qF hs (eV 4 46 qT (eO 5 47 [(1,0,2)] (nv (((iabs x)/(iabs y))+1)) hs (eV 7 49 (pB b4) (eOz 8 50 [(4,0,1)] qF hsr hs ?_ (hM:=fun p hp=>by obtain rfl:=List.mem_singleton.1 hp;exact fun hm=>by rcases List.mem_cons.1 hm with e|hm;exact bx_ne hs.st (i:=4) (j:=3) kR kR kR e;rcases List.mem_cons.1 hm with e|hm;exact bx_ne hs.st (i:=4) (j:=2) kR kR kR e;cases hm)))))))));refine eOz 9 51 [(0,0,2)] (nv ((iabs y)-((iabs x)%(iabs y)))) hsr hs ?_ (hM:=fun p hp=>by obtain rfl:=List.mem_singleton.1 hp;exact fun hm=>by rcases List.mem_cons.1 hm with e|hm;exact bx_ne hs.st (i:=0) (j:=3) kR kR kR e;rcases List.mem_cons.1 hm with e|hm;exact bx_ne hs.st (i:=0) (j:=2) kR kR kR e;cases hm);refine eC 6 48 hs (fun _ _ hs=>wFrom true (((iabs x)/(iabs y))+1) aOM _ _ hs.g) ?_;rintro _ _ _ _ _ hs rfl;refine eC 10 52 hs (fun _ _ hs=>wFromN ((iabs y)-((iabs x)%(iabs y))) _ _ hs.g) ?_;rintro _ _ _ _ _ hs rfl;refine eD0 hs (fun _ _ hs=>tP 11 3 0 (ic (sgn true (((iabs x)/(iabs y))+1))) hs (fun _ hs=>?_) (hz:=tlz_mem (List.mem_cons_self)));refine tP 12 2 0 (ic ((((iabs y)-((iabs x)%(iabs y))):Nat):Int)) hs (fun _ hs=>?_) (hz:=tlz_mem (List.mem_cons_of_mem _<|List.mem_cons_self));refine tV 13 6 qT (tN (cTo [(4,pB b7),(5,pB zb),(6,qT)] ?_));exact kX (hs.ret [(3,0,3),(2,0,3)] (.tuple #[iv (sgn true (((iabs x)/(iabs y))+1)),iv ((((iabs y)-((iabs x)%(iabs y))):Nat):Int),qT]) (⟨_,_,rfl,(dv_n (ineg_true hx) hy oM).1,(dv_n (ineg_true hx) hy oM).2⟩))
theorem wDivX (x y:Int)(hy:0<y)(hlx:(wds (iabs x)).length≤999999990)(hly:(wds (iabs y)).length≤999999990)(w:World)(h:Hp)(g:G w h):CR 106 #[iv x,iv y] w h (fun v _=>∃ q r:Int,v=.tuple #[iv q,iv r,.bool true]∧q=x/y∧r=x%y):=by
  have hyn:ineg y=false:=by unfold ineg;exact decide_eq_false oM
  rcases hx:ineg x with _|_<;>rw[iv_sg hx,iv_sg hyn]
  · exact wDivP x y hy hlx hly hx hyn w h g
  · exact wDivN x y hy hlx hly hx hyn w h g
theorem fNear (a:Rat)(ha:LQ 100000000 a)(b:Nat)(hb:b≤32)(w:World)(h:Hp)(g:G w h)(tb:Tab h):CV 65 #[qv a,nV b] w h (qv (nearR a b)):=by
 have hs:=((sS g).aB tb);have ha1:=ha.1;have ha2:=ha.2;have hp0:0<2^b:=Nat.pow_pos kD;have hp1:(wds (2^b)).length≤1:=wds_len_lit.2 (by have:=Nat.pow_le_pow_right (n:=2) kD hb;omega);have hdp:(0:Int)<(a.den:Int):=by have:=a.den_pos;omega
 have hzl:(wds (iabs (a.num*((2^b:Nat):Int)))).length≤100000002:=by rw[show iabs (a.num*((2^b:Nat):Int))=iabs a.num*2^b from by unfold iabs;rw[Int.natAbs_mul,Int.natAbs_natCast]];exact Nat.le_trans wds_len_mul oM
 have hdl:(wds (iabs (a.den:Int))).length≤100000000:=ha2;refine go Tryz.func65 [(0,qv a),(1,nV b)] rfl (cSL (lA 2 41 (qc a) hs (fun b1 w2 h3 hs=>lA 4 41 ([qF,uV 0,eS,uV 0,eS]) hs (fun b4 w5 h6 hs=>lNS (lL hs [.m 14 1] (lV 15 (nV b) ?_ (hr:=rint (n:=if (256:Int)<(b:Int) then (256:Int) else (b:Int)) kR (if_neg oM))))))));refine lV 16 (nV b) ?_ (hr:=rint (n:=if (b:Int)>(0:Int) then (b:Int) else (0:Int)) kR (by split<;>omega));refine lL hs [.m 1 16] (lNS (lC 17 hs (nOf 1 oM _ _ hs.g) ?_));rintro _ w7 h8 hs rfl;refine lL hs [.m 18 1] (lC 19 hs (nShift1 b oM _ _ hs.g) ?_);rintro _ w9 _ hs rfl;refine lA 5 37 ([uV 0,eS]) hs (fun zg _ _ hs=>lP 0 0 (nc (2^b)) hs (fun _ hs=>lNS (lL hs [.o 20 (qv a) 2 0 5] (lC 21 hs (fDen a aM _ _ hs.g) ?_))));rintro _ _ _ hs rfl;refine lC 22 hs (wFromN a.den _ _ hs.g) ?_;rintro _ _ _ hs rfl;refine lA 6 39 ([qF,uV 0,eS]) hs (fun b19 _ _ hs=>lP 0 0 (ic (a.den:Int)) hs (fun _ hs=>lN (cQ ?_)));have hsr:=hs;refine cR 12 [⟨10,7,.cells (List.toArray [qF,uV 0,eS]) 39 (0,0)⟩,⟨11,8,.cells (List.toArray [qF,uV 0,eS]) 39 (0,0)⟩] mixed hs (al_cons (alOk kR (fun _ _=>by kernel_rfl)) (al_cons (alOk kR (fun _ _=>by kernel_rfl)) al_nil)) (eV 0 24 (pB b1) (eO 1 25 [(3,0,3)] (iv a.num) hs (eO 2 26 [(1,0,2)] (nv (2^b)) hs (eO 4 28 [(0,0,3)] (iv (a.den:Int)) hs (eC 3 27 hs (fun _ _ hs=>fTimes a.num (2^b) aOM _ _ hs.g) ?_)))));rintro _ _ _ _ _ hs rfl;refine eC 5 29 hs (fun _ _ hs=>wDivX (a.num*(((2^b):Nat):Int)) (a.den:Int) hdp oM oM _ _ hs.g) ?_;rintro _ _ _ _ _ hs ⟨q,r,rfl,hq,hr⟩;have hql:(wds (iabs q)).length≤100000002:=by rw[hq];exact ilen_div oM
 have hrl:(wds (iabs r)).length≤100000000:=by rw[hr];exact ilen_mod hdp oM
 have hcc:=cmpI_cases (r+r) (a.den:Int);have hq1:=ilen_add (x:=q) (y:=1) (by omega:(wds (iabs q)).length≤100000002) (by rw[show iabs 1=1 from rfl];exact Nat.le_trans (wds_len_lit.2 kD) (show 1≤100000002 by decide));have hi1:(wds (iabs 1)).length≤1:=wds_len_lit.2 kD;have hr2:=ilen_add (x:=r) (y:=r) hrl hrl;refine eV 6 23 (.tuple #[iv q,iv r,qT]) (eV 7 30 (iv q) (eV 8 31 (iv r) (eV 9 32 qT (eD2 hsr hs 39 [qF,uV 0,eS] 39 [qF,uV 0,eS] (fun _ _ zi b30 hs=>tP 12 0 0 (ic q) hs (fun _ hs=>tP 13 1 0 (ic r) hs (fun _ hs=>tV 14 9 qT (tN (cQ (cR 5 [] mixed hs al_nil ?_))))))))));refine eO 0 33 [(1,0,3)] (iv r) hs (eO 1 34 [(1,0,3)] (iv r) hs (eO 3 36 [(2,0,3)] (iv (a.den:Int)) hs (eC 2 35 hs (fun _ _ hs=>wAdd r r aOM _ _ hs.g) ?_)));rintro _ _ _ _ _ hs rfl;refine eC 4 37 hs (fun _ _ hs=>wCmp (r+r) (a.den:Int) aOM aOM _ _ hs.g) ?_;rintro _ _ _ _ _ hs rfl;refine eD0 hs (fun _ _ hs=>tV 5 10 (iV (cmpI (r+r) (a.den:Int))) (tN (cQ (cSL (lL hs [.m 38 10] ?_)))));cases za:((cmpI (r+r) (a.den:Int):Int) == (0:Int))
 ·
  have zd:=neOfBeq za;refine lB 39 za (lN (cIF (cK (cQ (cSL (lL hs [.m 49 10] ?_))))));cases zb:(decide ((0:Int)<(cmpI (r+r) (a.den:Int):Int)))
  ·
   have ze:=oF zb;refine lB 50 zb (lN (cIF (cK (cSL (lL hs [.o 54 (iv q) 0 0 3,.o 55 (nv (2^b)) 3 0 2] (lC 56 hs (fLowest q (2^b) aOM aOM aOM _ _ hs.g hs.f.1) ?_))))));rintro _ _ _ hs rfl;refine lP 4 0 (qc (mkRat q (2^b))) hs (fun _ hs=>lN (cTo [(4,pB b4)] ?_));exact kX (hs.ret [(4,0,5)] (qv (mkRat q (2^b))) (congrArg qv (near_0 hq hr oM)))
  have ze:=oT zb;refine lB 50 zb (lN (cIT (cR 3 [] mixed hs al_nil ?_)));refine eO 0 51 [(0,0,3)] (iv q) hs (eC 1 52 hs (fun _ _ hs=>wOf 1 oM oM _ _ hs.g) ?_);rintro _ _ _ _ _ hs rfl;refine eC 2 53 hs (fun _ _ hs=>wAdd q 1 aOM _ _ hs.g) ?_;rintro _ _ _ _ _ hs rfl;refine eD0 hs (fun _ _ hs=>tP 3 0 0 (ic (q+1)) hs (fun _ hs=>tN (cTo [(4,pB b4),(5,pB zg),(7,pB zi)] ?_)));refine cSL (lL hs [.o 54 (iv (q+1)) 0 0 3,.o 55 (nv (2^b)) 3 0 2] (lC 56 hs (fLowest (q+1) (2^b) aOM aOM aOM _ _ hs.g hs.f.1) ?_));rintro _ _ _ hs rfl;exact lP 4 0 (qc (mkRat (q+1) (2^b))) hs (fun _ hs=>lN (kX (hs.ret [(4,0,5)] (qv (mkRat (q+1) (2^b))) (congrArg qv (near_1 hq hr oM)))))
 have zd:=eq_of_beq za;refine lB 39 za (lN (cIT (cQ ?_)));have hsr:=hs;refine cR 9 [⟨7,11,.cells (List.toArray [qF,uV 0,eS]) 39 (0,0)⟩,⟨8,12,.cells (List.toArray [qF,uV 0,eS]) 39 (0,0)⟩] mixed hs (al_cons (alOk kR (fun _ _=>by kernel_rfl)) (al_cons (alOk kR (fun _ _=>by kernel_rfl)) al_nil)) (eO 0 41 [(0,0,3)] (iv q) hs (eC 1 42 hs (fun _ _ hs=>wOf 2 oM oM _ _ hs.g) ?_));rintro _ _ _ _ _ hs rfl;have hi2:(wds (iabs 2)).length≤1:=wds_len_lit.2 kD;refine eC 2 43 hs (fun _ _ hs=>wDivX q 2 kD oM oM _ _ hs.g) ?_;rintro _ _ _ _ _ hs ⟨p,o,rfl,hp,ho⟩;have hop:o=0∨o=1:=by omega
 have hos:o.sign=o:=by rcases hop with h_|h_<;>rw[h_]<;>rfl
 have hol:(wds (iabs o)).length≤1:=by rcases hop with h_|h_<;>rw[h_]<;>exact wds_len_lit.2 kD
 refine eV 3 40 (.tuple #[iv p,iv o,qT]) (eV 4 44 (iv p) (eV 5 45 (iv o) (eV 6 46 qT (eD2 hsr hs 39 [qF,uV 0,eS] 39 [qF,uV 0,eS] (fun _ _ b60 zj hs=>tP 9 0 0 (ic p) hs (fun _ hs=>tP 10 1 0 (ic o) hs (fun _ hs=>tV 11 13 qT (tN (cTo [(4,pB b4),(5,pB zg),(7,pB zi),(10,iV (cmpI (r+r) (a.den:Int))),(12,pB zj)] ?_)))))))));refine kQ (lL hs [.o 47 (iv o) 1 0 3] (lC 48 hs (wSign o aOM _ _ hs.g) ?_));rintro _ _ _ hs rfl;refine lL hs [.m 10 48] (lN (cQ (cSL (lL hs [.m 49 10] ?_))));cases zc:(decide ((0:Int)<((o).sign:Int)))
 ·
  have zf:=oF zc;refine lB 50 zc (lN (cIF (cK (cSL (lL hs [.o 54 (iv q) 2 0 3,.o 55 (nv (2^b)) 5 0 2] (lC 56 hs (fLowest q (2^b) aOM aOM aOM _ _ hs.g hs.f.1) ?_))))));rintro _ _ _ hs rfl;exact lP 6 0 (qc (mkRat q (2^b))) hs (fun _ hs=>lN (kX (hs.ret [(6,0,5)] (qv (mkRat q (2^b))) (congrArg qv (near_0 hq hr oM)))))
 have zf:=oT zc;refine lB 50 zc (lN (cIT (cR 3 [] mixed hs al_nil ?_)));refine eO 0 51 [(2,0,3)] (iv q) hs (eC 1 52 hs (fun _ _ hs=>wOf 1 oM oM _ _ hs.g) ?_);rintro _ _ _ _ _ hs rfl;refine eC 2 53 hs (fun _ _ hs=>wAdd q 1 aOM _ _ hs.g) ?_;rintro _ _ _ _ _ hs rfl;refine eD0 hs (fun _ _ hs=>tP 3 2 0 (ic (q+1)) hs (fun _ hs=>tNS (lL hs [.o 54 (iv (q+1)) 2 0 3,.o 55 (nv (2^b)) 5 0 2] (lC 56 hs (fLowest (q+1) (2^b) aOM aOM aOM _ _ hs.g hs.f.1) ?_))));rintro _ _ _ hs rfl;exact lP 6 0 (qc (mkRat (q+1) (2^b))) hs (fun _ hs=>lN (kX (hs.ret [(6,0,5)] (qv (mkRat (q+1) (2^b))) (congrArg qv (near_1 hq hr oM)))))
theorem fSum (A:Option Addr)(c:Nat)(qs:List Rat)(K:Nat)(hn:qs.length≤10)(hK:∀ i,LQ K (qs.getD i 0))(hb:K≤5000000)(w:World)(h:Hp)(g:G w h)(hA:Sq A qs h)(tb:Tab h):CV 27 #[.slice A qs.length c] w h (qv (sumR qs qs.length)):=by
 have hs:=(((sS g).aS hA).aB tb);refine go Tryz.func27 [(0,qS A qs.length c)] rfl (cSL (lA 2 41 ([qF,uV 0,eS,uV 0,eS]) hs (fun b1 w2 h3 hs=>lNS (lA 3 41 ([qF,uV 0,eS,uV 0,eS]) hs (fun b4 w5 h6 hs=>lN (cQ (cSL (lL hs [.m 6 0,.v 7 (nV qs.length),.v 8 (iV 0)] (lN (kZ ?_))))))))));refine cTo _ (CG.loop (fun μ_ Γ w_=>∃ (k:Nat) (s:Rat) (h_:Hp),μ_=qs.length-k∧Γ=[(2,pB b1),(3,pB b4),(6,qS A qs.length c),(7,nV qs.length),(8,nV k)]∧SS w h w_ h_ [⟨b4,41,qc s⟩,⟨b1,41,[qF,uV 0,eS,uV 0,eS]⟩] [] [fun h_=>Tab h_,Sq A qs]∧k≤qs.length∧s=sumR qs k∧LQ (k*(K+1)+1) s) _ ⟨0,0,h6,rfl,rfl,hs.to _ _,Nat.zero_le _,rfl,(lq0 oM)⟩ ?_);rintro _ _ w7 ⟨k,s,h8,hm9,rfl,hs,hk,hse,hsb⟩;have hkK:k*(K+1)≤10*(K+1):=Nat.mul_le_mul_right _ oM;refine cSL ?_;cases za:(decide ((k:Int)<(qs.length:Int)))
 ·
  have zb:=oF za;refine lB 9 za (lN (cQ (cIF (CG.exit ?_))))
  show CG _ _ _ _ _ _ _ _
  exact cSL (lL hs [.o 16 (qv s) 0 0 5] (lP 1 0 (qc s) hs (fun _ hs=>lN (kX (hs.ret [(1,0,5)] (qv s) (by rw[show qs.length=k by omega,←hse]))))))
 have zb:=oT za;refine lB 9 za (lN (cQ (cIT (cK (cQ (kZ (cSL (lX 10 A qs.length c 5 (k:Nat) k ((hs.f.2.1).ok oM) ?_))))))));refine lH 11 (qv (qs.getD k 0)) hs ((hs.f.2.1).el k oM) (lA 5 41 ([qF,uV 0,eS,uV 0,eS]) hs (fun b12 _ _ hs=>lP 0 0 (qc (qs.getD k 0)) hs (fun _ hs=>lN (kQ (lL hs [.o 12 (qv s) 1 0 5,.o 13 (qv (qs.getD k 0)) 0 0 5] ?_)))));have hq16:=LQ.add hsb (hK k);refine lC 14 hs (fAdd s (qs.getD k 0) (LQ.mono hsb oM) (LQ.mono (hK k) oM) _ _ hs.g hs.f.1) ?_;rintro _ _ zc hs rfl;refine lP 1 0 (qc (s+(qs.getD k 0))) hs (fun _ hs=>lN (kQ (lIn 15 ((k:Nat)+1) (k+1) ?_)));refine lL hs [.m 8 15] (lD ?_);intro a_ ka;replace hs:=hs.drop 1 0;refine ⟨_,_,?_,⟨k+1,(s+(qs.getD k 0)),zc,rfl,rfl,hs.to _ _,oM,(by rw[hse];rfl),((hsb.add (hK k)).mono (by rw[Nat.succ_mul];omega))⟩,ka.to _ kR⟩
 omega
theorem sgn0 {a:Rat}(h:a.num.sign=0):a=0:=by
  rw[←Rat.num_eq_zero];exact Int.sign_eq_zero_iff_zero.1 h
theorem Bz.sgb {wt sg:Nat→Nat}{C k:Nat}{bar g:List Rat}(Z:Bz wt sg C (k+1) bar g)(hw:1≤wt k):sg k≤C:=by
  obtain ⟨f,E,hf,hE,hC⟩:=Z;rw[rem_s] at hC
  have h2:=Nat.mul_le_mul_left (sg k+2) hw
  omega
theorem tBackN (n_:Nat)(A:Option Addr)(c:Nat)(l:List Stp)(O:Option Addr)(d:Nat)(os:List Int)(at_:List Rat)(X:Option Addr)(cX:Nat)(by_:List Rat)(Y:Option Addr)(cY:Nat)(wt sg:Nat→Nat)(W_:Nat)(hl:l.length≤65536)(ho:os.length≤300)(hat2:at_.length≤1000000)(hbt2:by_.length≤1000000)(hq:∀ i,LQ 1 (l.getD i stp0).q)(hby:∀ i,LQ 1 (by_.getD i 0))(hB:chkTp (n_:Int) l os=0→(at_.length:Int)=(n_:Int)→∀ k,k≤l.length→terr true l at_ k=0→∀ j,LQ 1000000 ((tvals l at_ k).getD j 0))(hwt:chkTp (n_:Int) l os=0→Wt l wt)(hW:∀ j,j<l.length→wt j≤W_)(hSg:chkTp (n_:Int) l os=0→(at_.length:Int)=(n_:Int)→terr true l at_ l.length=0→∀ k,k<l.length→(l.getD k stp0).op≠2→LQ (sg k) (sla (l.getD k stp0).op (l.getD k stp0).n ((tvals l at_ l.length).getD (l.getD k stp0).a.toNat 0) ((tvals l at_ l.length).getD (l.getD k stp0).b.toNat 0))∧LQ (sg k) (slb (l.getD k stp0).op ((tvals l at_ l.length).getD (l.getD k stp0).a.toNat 0) ((tvals l at_ l.length).getD (l.getD k stp0).b.toNat 0)))(hC:chkTp (n_:Int) l os=0→1+pot wt (fun _=>1) l.length+os.length*(2*W_)+rem_ wt sg l.length≤100000000)(w:World)(h:Hp)(g:G w h)(hA:SlO 9 stc stp0 h A l)(hO:Si O os h)(hX:Sq X at_ h)(hY:Sq Y by_ h)(tb:Tab h):CR 31 #[.agg #[nV n_,.slice A ((l).length) c,.slice O ((os).length) d],.slice X at_.length cX,.slice Y by_.length cY] w h (fun v h1=>∃ A c B d,v=.tuple #[.slice A (backO (n_:Int) l os at_ by_).length c,.slice B (backG (n_:Int) l os at_ by_).length d,iV (backE (n_:Int) l os at_ by_)]∧(backO (n_:Int) l os at_ by_).length≤c∧(backG (n_:Int) l os at_ by_).length≤d∧Sq A (backO (n_:Int) l os at_ by_) h1∧Sq B (backG (n_:Int) l os at_ by_) h1∧(backE (n_:Int) l os at_ by_=0→∀ way,dotq (backG (n_:Int) l os at_ by_) way ((n_:Int)).toNat=tgt l os at_ by_ way)∧(backE (n_:Int) l os at_ by_=0→h.size≤aB B)):=by
 have hs:=((((((sS g).aS hA).aS hO).aS hX).aS hY).aB tb);refine go Tryz.func31 [(0,.agg #[nV n_,qS A ((l).length) c,qS O ((os).length) d]),(1,qS X at_.length cX),(2,qS Y by_.length cY)] rfl (cSL (lA 3 26 ([nV n_,qS A ((l).length) c,qS O ((os).length) d]) hs (fun b1 w2 h3 hs=>lL hs [.v 6 (sZ),.v 7 (sZ),.v 8 (iV 0)] (lN (cQ (cSL (lL hs [.o 17 (.agg #[nV n_,qS A ((l).length) c,qS O ((os).length) d]) 0 0 3] (lC 18 hs (tCheck (n_:Int) A c l O d os oM oM (fun i _=>hq i) _ _ hs.g hs.f.q.1 hs.f.r.2.1) ?_))))))));rintro _ w4 h5 hs rfl;cases hb6:((chkTp (n_:Int) l os:Int) != (0:Int))
 ·
  have phb6:=eqOfBne hb6;refine lB 19 hb6 (lN (cIF (cK (cQ (cSL (lL hs [.m 20 1,.v 21 (nV at_.length),.v 22 (pB b1),.o 23 (nV n_) 0 0 1] ?_))))));cases hb7:((at_.length:Int) != (n_:Int))
  ·
   have phb7:=eqOfBne hb7;refine lB 24 hb7 (lL hs [.m 25 24,.m 26 2,.v 27 (nV by_.length),.v 28 (qP b1 2),.o 29 (qS O ((os).length) d) 0 2 1,.v 30 (nV ((os).length))] ?_);cases hb8:((by_.length:Int) != (((os).length:Nat):Int))
   ·
    have phb8:=eqOfBne hb8;refine lB 31 hb8 (lL hs [.v 32 qF] (lN (cIF (cK (cSL (lL hs [.o 34 (.agg #[nV n_,qS A ((l).length) c,qS O ((os).length) d]) 0 0 3,.m 35 1] ?_))))));have hck:chkTp (n_:Int) l os=0:=by omega
    refine lC 36 hs (tValues true true rfl (n_:Int) A c l O d os at_ X cX (chk_formed hck).1 oM oM hq (hB hck oM) _ _ hs.g hs.f.q.1 hs.f.r.2.1 hs.f.r.1 hs.f.1) ?_;rintro _ w9 _ hs ⟨Av,cv,rfl,hcv,hAv⟩;replace hs:=hs.aS hAv;refine lL hs [.m 33 36,.v 37 (qS Av ((vlist true l at_).length) cv),.v 38 (iV (terr true l at_ l.length)),.m 9 37,.m 8 38] (lN (cQ (cSL (lL hs [.m 39 8] ?_))));cases zd:((terr true l at_ l.length:Int) != (0:Int))
    ·
     have zo:=eqOfBne zd;refine lB 40 zd (lN (cIF (cK (cSL (lL hs [.v 42 (pB b1),.o 43 (nV n_) 0 0 1] (lK 44 41 n_ 5 56 (.agg #[qF,uV 0,eS,uV 0,eS]) qc 0 hs (fun zb _ _ hs=>?_)))))));have hl15:(List.replicate n_ 0).length=n_:=by simp
     refine lL hs [.m 7 44] (lNS (lL hs [.v 45 (qP b1 1),.o 46 (qS A ((l).length) c) 1 1 1,.v 47 (nV ((l).length))] (lK 48 41 ((l).length) 5 56 (.agg #[qF,uV 0,eS,uV 0,eS]) qc 0 hs (fun za _ zD hs=>?_))));have hl19:(List.replicate ((l).length) 0).length=((l).length):=by simp
     refine lL hs [.m 10 48] (lN (cQ (cSL (lL hs [.v 49 (qP b1 2),.o 50 (qS O ((os).length) d) 2 2 1,.v 51 (nV ((os).length)),.v 52 (iV 0)] (lN (cTo [(2,qS Y by_.length cY),(3,pB b1),(6,sZ),(7,qS (sB zb) n_ n_),(8,iV (terr true l at_ l.length)),(9,qS Av ((vlist true l at_).length) cv),(10,qS (sB za) ((l).length) ((l).length)),(50,qS O ((os).length) d),(51,nV ((os).length)),(52,iV 0)] ?_))))));refine kZ ?_;have hter:terr true l at_ l.length=0:=by omega
     have hvl:vlist true l at_=tvals l at_ l.length:=if_pos hter;have hLb:∀ j,LQ 1000000 ((vlist true l at_).getD j 0):=fun j=>by rw[hvl];exact hB hck oM l.length (nR _) hter j
     have hvn:(vlist true l at_).length=l.length:=by rw[hvl,tvals_len]
     have hWt:=hwt hck;have hw1:=fun j (hj:j<l.length)=>(hWt j hj).1
     have hSgk:=hSg hck oM hter;have hCC:=hC hck;have hOok:=(chk_formed hck).2.1;refine cTo _ (CG.loop (fun μ_ Γ w_=>∃ (i:Nat) (bar:List Rat) (h_:Hp),μ_=os.length-i∧Γ=[(2,qS Y by_.length cY),(3,pB b1),(6,sZ),(7,qS (sB zb) n_ n_),(8,iV (terr true l at_ l.length)),(9,qS Av ((vlist true l at_).length) cv),(10,qS (sB za) ((l).length) ((l).length)),(50,qS O ((os).length) d),(51,nV ((os).length)),(52,nV i)]∧SS w h w_ h_ [⟨za,41,(bar).flatMap qc⟩,⟨zb,41,(List.replicate n_ 0).flatMap qc⟩,⟨b1,26,[nV n_,qS A ((l).length) c,qS O ((os).length) d]⟩] [] [Sq Av (vlist true l at_),fun h_=>Tab h_,Sq Y by_,Sq X at_,Si O os,fun h_=>SlO 9 stc stp0 h_ A l]∧i≤os.length∧bar.length=l.length∧Bo l os at_ by_ i bar∧Bos wt l.length W_ i bar) _ ⟨0,List.replicate l.length (0:Rat),zD,rfl,rfl,hs.to _ _,Nat.zero_le _,(by simp),Bo.init,Bos.init _ _ _⟩ ?_);rintro _ _ _ ⟨i,bar,zE,hm22,rfl,hs,hik,hbl,hBo,hBs⟩;have hiW:=Nat.mul_le_mul_right (2*W_) hik;have hiC:pot wt (fun _=>1) l.length+i*(2*W_)≤100000000:=by omega
     have hok:=fun h0=>hOok i h0
     refine cSL ?_;cases ze:(decide ((i:Int)<(((os).length:Nat):Int)))
     ·
      have zp:=oF ze;refine lB 53 ze (lN (cQ (cIF (CG.exit ?_))))
      show CG _ _ _ _ _ _ _ _
      refine cQ (cSL (lL hs [.v 70 (qP b1 1),.o 71 (qS A ((l).length) c) 2 1 1,.v 72 (nV ((l).length))] (lI 73 (((l).length:Nat)-1) ?_)));refine lL hs [.m 13 73] (lN (kZ ?_));have hie:i=os.length:=by omega
      rw[hie] at hBo hBs
      refine cTo _ (CG.loop (fun μ_ Γ w_=>∃ (k:Nat) (g:List Rat) (bar:List Rat) (h_:Hp),μ_=k∧Γ=[(3,pB b1),(6,sZ),(7,qS (sB zb) n_ n_),(8,iV (terr true l at_ l.length)),(9,qS Av ((vlist true l at_).length) cv),(10,qS (sB za) ((l).length) ((l).length)),(13,iV ((k:Nat)-1))]∧SS w h w_ h_ [⟨za,41,(bar).flatMap qc⟩,⟨zb,41,(g).flatMap qc⟩,⟨b1,26,[nV n_,qS A ((l).length) c,qS O ((os).length) d]⟩] [] [Sq Av (vlist true l at_),fun h_=>Tab h_,Sq Y by_,Sq X at_,Si O os,fun h_=>SlO 9 stc stp0 h_ A l]∧k≤l.length∧g.length=n_∧bar.length=l.length∧Bk l at_ n_ (tgt l os at_ by_) k bar g∧Bz wt sg 100000000 k bar g) _ ⟨l.length,List.replicate n_ (0:Rat),bar,zE,rfl,rfl,hs.to _ _,nR _,(by simp),hbl,(hBo.bk n_),(hBs.bz oM)⟩ ?_);rintro _ _ _ ⟨k,g,bar,_,hm26,rfl,hs,hk,hgl,hbl,hBk,hZ⟩;have hw1k:=fun j (hj:j<k)=>hw1 j oM
      refine cQ (cSL (lL hs [.m 74 13] ?_));cases zf:(decide ((0:Int)≤((k:Nat)-1:Int)))
      ·
       have zq:=oF zf;refine lB 75 zf (lN (cIF (CG.exit ?_)))
       show CG _ _ _ _ _ _ _ _
       refine cSL ?_;have hkn:k=0:=by omega
       rw[hkn] at hBk
       have hfin:=hBk.fin hgl;have hgd:g=gradT n_ l os at_ by_:=hfin.1;rw[hgd] at hfin
       obtain ⟨_,hs,sg29,lo30,bc31⟩:=hs.pub 1;replace hs:=(hs.to [⟨za,41,(bar).flatMap qc⟩,⟨b1,26,[nV n_,qS A ((l).length) c,qS O ((os).length) d]⟩] []).aS (SlO.of_flat (sz:=5) (f:=qc) (d:=0) (b:=zb) (o:=0) (l:=g) (fun _=>rfl) sg29);replace hs:=hs.aS (show Sq (sB zb) (gradT n_ l os at_ by_) _ from by rw[←hgd];exact hs.f.1);have hgn:(gradT n_ l os at_ by_).length=n_:=by rw[←hgd];exact hgl
       have hcd:(gradT n_ l os at_ by_).length≤n_:=by omega
       refine lL hs [.o 161 (.agg #[nV n_,qS A ((l).length) c,qS O ((os).length) d]) 1 0 3,.m 162 9] (lC 163 hs (tOuts (n_:Int) A c l O d os (vlist true l at_) Av cv oM (by rw[hvl,tvals_len];exact (chk_formed hck).2.1) _ _ hs.g hs.f.q.r.2.1 hs.f.q.r.1 hs.f.r.1) ?_);rintro _ _ _ hs ⟨Ao,co,rfl,hco,hAo⟩;replace hs:=hs.aS hAo;exact lL hs [.m 164 7,.m 6 163,.m 7 164,.v 8 (iV 0)] (lN (kX (hs.ret [] (.tuple #[qS Ao ((pickL (vlist true l at_) os).length) co,qS (sB zb) n_ n_,iV 0]) (by obtain ⟨e1,e2,e3⟩:=back_0 (inp:=(n_:Int)) (l:=l) (os:=os) (at_:=at_) (by_:=by_) hck oM oM hter;rw[e1,e2,e3,←hvl];exact ⟨_,_,_,_,(by rw[show (gradT (n_:Int).toNat l os at_ by_).length=n_ from hgn]),hco,hcd,hs.f.1,hs.f.2.1,fun _=>hfin.2,fun _=>lo30⟩))))
      have zq:=oT zf;refine lB 75 zf (lN (cIT (cK (cQ (kZ (cSL ?_))))));have hk1:k-1+1=k:=by omega
      have hB1:Bk l at_ n_ (tgt l os at_ by_) (k-1+1) bar g:=by rw[hk1];exact hBk
      have hZ1:Bz wt sg 100000000 (k-1+1) bar g:=by rw[hk1];exact hZ
      have hwk:=hw1 (k-1) oM;have fk:=(chk_formed hck).1 (k-1) oM;have hopr:=fk.opr;have hok_:=ok_at hter (by omega:k-1<l.length) (chk_formed hck).1;obtain ⟨hx1,hx2,hx3,hx4⟩:=fk.ix;refine lL hs [.v 78 (qP b1 1),.o 79 (qS A ((l).length) c) 2 1 1,.m 80 13] (lX 81 A ((l).length) c 9 ((k:Nat)-1) (k-1) ((hs.f.q.2.1).ok oM) ?_);refine lH 82 (.agg #[iV ((l.getD (k-1) stp0).op),iV ((l.getD (k-1) stp0).a),iV ((l.getD (k-1) stp0).b),iV ((l.getD (k-1) stp0).n),.bool (ineg ((l.getD (k-1) stp0).q).num),uV (lo (iabs ((l.getD (k-1) stp0).q).num)),.string (hi (iabs ((l.getD (k-1) stp0).q).num)),uV (lo (qd ((l.getD (k-1) stp0).q))),.string (hi (qd ((l.getD (k-1) stp0).q)))]) hs ((hs.f.q.2.1).el (k-1) oM) (lA 14 64 ([iV 0,iV 0,iV 0,iV 0,qF,uV 0,eS,uV 0,eS]) hs (fun zc _ _ hs=>lP 0 0 ([iV ((l.getD (k-1) stp0).op),iV ((l.getD (k-1) stp0).a),iV ((l.getD (k-1) stp0).b),iV ((l.getD (k-1) stp0).n),.bool (ineg ((l.getD (k-1) stp0).q).num),uV (lo (iabs ((l.getD (k-1) stp0).q).num)),.string (hi (iabs ((l.getD (k-1) stp0).q).num)),uV (lo (qd ((l.getD (k-1) stp0).q))),.string (hi (qd ((l.getD (k-1) stp0).q)))]) hs (fun _ hs=>lN (cQ (cSL (lL hs [.m 83 10,.m 84 13] (lX 85 (sB za) ((l).length) ((l).length) 5 ((k:Nat)-1) (k-1) rfl ?_)))))));refine lQ 86 1 bar qc 5 0 (k-1) (qv ((bar).getD (k-1) 0)) hs oM (lC 87 hs (fSign ((bar).getD (k-1) 0) (LQ.mono (hZ.lb hw1k (k-1) oM) oM) _ _ hs.g) ?_);rintro _ _ zF hs rfl;cases zg:((((bar).getD (k-1) 0).num.sign:Int) == (0:Int))
      ·
       have zr:=neOfBeq zg;refine lB 88 zg (lN (cIF (cK (cQ (cSL (lL hs [.v 89 (pB zc),.o 90 (iV ((l.getD (k-1) stp0).op)) 0 0 1] ?_))))));cases zi:(((l.getD (k-1) stp0).op:Int) == (2:Int))
       ·
        have zs:=neOfBeq zi;refine lB 91 zi (lN (cIF (cK (cQ ?_))));have hsr:=hs;refine cR 17 [⟨15,15,.cells (List.toArray [qF,uV 0,eS,uV 0,eS]) 41 (0,0)⟩,⟨16,16,.cells (List.toArray [qF,uV 0,eS,uV 0,eS]) 41 (0,0)⟩] mixed hs (al_cons (alOk kR (fun _ _=>by kernel_rfl)) (al_cons (alOk kR (fun _ _=>by kernel_rfl)) al_nil)) ?_;have ho2:(l.getD (k-1) stp0).op≠2:=by omega
        obtain ⟨hok6,hok8⟩:=ok_use hvl hok_ ho2 oM fk.o68.1 fk.o68.2;have hsg8:sg (k-1)≤100000000:=hZ1.sgb hwk;refine eO 0 107 [(0,0,9)] (.agg #[iV ((l.getD (k-1) stp0).op),iV ((l.getD (k-1) stp0).a),iV ((l.getD (k-1) stp0).b),iV ((l.getD (k-1) stp0).n),.bool (ineg ((l.getD (k-1) stp0).q).num),uV (lo (iabs ((l.getD (k-1) stp0).q).num)),.string (hi (iabs ((l.getD (k-1) stp0).q).num)),uV (lo (qd ((l.getD (k-1) stp0).q))),.string (hi (qd ((l.getD (k-1) stp0).q)))]) hs (eV 1 108 (qS Av ((vlist true l at_).length) cv) (eV 2 109 (qP zc 1) (eO 3 110 [(0,1,1)] (iV ((l.getD (k-1) stp0).a)) hs (eX 4 111 Av ((vlist true l at_).length) cv 5 ((l.getD (k-1) stp0).a) ((l.getD (k-1) stp0).a.toNat) ((hs.f.1).ok oM) (eH 5 112 (qv ((vlist true l at_).getD ((l.getD (k-1) stp0).a.toNat) 0)) hs ((hs.f.1).el ((l.getD (k-1) stp0).a.toNat) oM) (eV 6 113 (qS Av ((vlist true l at_).length) cv) (eV 7 114 (qP zc 2) (eO 8 115 [(0,2,1)] (iV ((l.getD (k-1) stp0).b)) hs (eX 9 116 Av ((vlist true l at_).length) cv 5 ((l.getD (k-1) stp0).b) ((l.getD (k-1) stp0).b.toNat) ((hs.f.1).ok oM) (eH 10 117 (qv ((vlist true l at_).getD ((l.getD (k-1) stp0).b.toNat) 0)) hs ((hs.f.1).el ((l.getD (k-1) stp0).b.toNat) oM) (eC 11 118 hs (fun _ _ hs=>tSlopesX (l.getD (k-1) stp0) ((vlist true l at_).getD (l.getD (k-1) stp0).a.toNat 0) ((vlist true l at_).getD (l.getD (k-1) stp0).b.toNat 0) 1000000 oM (hLb _) (hLb _) (hq (k-1)) kD (fk.op_ ho2) fk.2.2.2.2.2.1 hok6 hok8 _ _ hs.g hs.f.2.1) ?_)))))))))));rintro _ _ _ _ _ hs ⟨da,db,rfl,hda,hdb⟩;obtain ⟨hsa,hsb⟩:=hSgk (k-1) oM oM;rw[←hvl,←hda] at hsa
        rw[←hvl,←hdb] at hsb
        refine eV 12 106 (.tuple #[qv da,qv db]) (eV 13 119 (qv da) (eV 14 120 (qv db) (eD2 hsr hs 41 [qF,uV 0,eS,uV 0,eS] 41 [qF,uV 0,eS,uV 0,eS] (fun _ _ zl zm hs=>tP 17 0 0 (qc da) hs (fun _ hs=>tP 18 1 0 (qc db) hs (fun _ hs=>tN (cTo [(3,pB b1),(6,sZ),(7,qS (sB zb) n_ n_),(8,iV (terr true l at_ l.length)),(9,qS Av ((vlist true l at_).length) cv),(10,qS (sB za) ((l).length) ((l).length)),(13,iV ((k:Nat)-1)),(14,pB zc),(16,pB zm),(15,pB zl)] ?_)))))));refine cQ (cSL (lL hs [.v 121 (pB zc),.o 122 (iV ((l.getD (k-1) stp0).op)) 2 0 1] (lC 123 hs (tArity (l.getD (k-1) stp0).op _ _ hs.g) ?_)));rintro _ _ _ hs rfl;cases zj:(decide ((0:Int)<(ari (l.getD (k-1) stp0).op:Int)))
        ·
         have zt:=oF zj;refine lB 124 zj (lN (cIF (cK (cSL (lL hs [.v 141 (pB zc),.o 142 (iV ((l.getD (k-1) stp0).op)) 2 0 1] (lC 143 hs (tArity (l.getD (k-1) stp0).op _ _ hs.g) ?_))))));rintro _ _ zG hs rfl;have ⟨zx,phb56⟩:=dF (p:=(1:Int)<(ari (l.getD (k-1) stp0).op:Int)) oM;refine lB 144 zx (lN (cIF (cK (kQ (lL hs [.m 76 13] (lI 77 (((k:Nat)-1)-1) ?_))))));refine lE (ik:=.i64) 13 (show (k:Int)-1-1=((k-1:Nat):Int)-1 by omega) (lD ?_);intro a_ ka;replace hs:=hs.drop 3 0;refine ⟨_,_,?_,⟨k-1,g,bar,zG,rfl,rfl,hs.to _ _,oM,hgl,hbl,(by first|exact hB1.skip (sgn0 oM)|exact hB1.num oM hopr oM oM),hZ1.skip⟩,ka.to _ kR⟩
         omega
        have zt:=oT zj;refine lB 124 zj (lN (cIT (cR 15 [] mixed hs al_nil ?_)));refine eV 0 125 (qS (sB za) ((l).length) ((l).length)) (eV 1 126 (qP zc 1) (eO 2 127 [(2,1,1)] (iV ((l.getD (k-1) stp0).a)) hs (eV 3 128 (qS (sB za) ((l).length) ((l).length)) (eV 4 129 (qP zc 1) (eO 5 130 [(2,1,1)] (iV ((l.getD (k-1) stp0).a)) hs (eX 6 131 (sB za) ((l).length) ((l).length) 5 ((l.getD (k-1) stp0).a) ((l.getD (k-1) stp0).a.toNat) rfl (eQ 7 132 3 bar qc 5 0 ((l.getD (k-1) stp0).a.toNat) (qv ((bar).getD ((l.getD (k-1) stp0).a.toNat) 0)) hs oM (eV 8 133 (qS (sB za) ((l).length) ((l).length)) (eV 9 134 (iV ((k:Nat)-1)) (eX 10 135 (sB za) ((l).length) ((l).length) 5 ((k:Nat)-1) (k-1) rfl (eQ 11 136 3 bar qc 5 0 (k-1) (qv ((bar).getD (k-1) 0)) hs oM (eO 12 137 [(0,0,5)] (qv da) hs ?_))))))))))));have hq62:=LQ.mul (hZ.lb hw1k (k-1) oM) hsa;refine eC 13 138 hs (fun _ _ hs=>fMul ((bar).getD (k-1) 0) da (LQ.mono (hZ.lb hw1k (k-1) oM) oM) (LQ.mono hsa oM) _ _ hs.g hs.f.2.1) ?_;rintro _ _ _ _ _ hs rfl;have hq65:=LQ.add (hZ.lb hw1k ((l.getD (k-1) stp0).a.toNat) oM) (hZ1.mul hwk hsa);refine eC 14 139 hs (fun _ _ hs=>fAdd ((bar).getD ((l.getD (k-1) stp0).a.toNat) 0) (((bar).getD (k-1) 0)*da) (LQ.mono (hZ.lb hw1k ((l.getD (k-1) stp0).a.toNat) oM) oM) (LQ.mono (hZ1.mul hwk hsa) oM) _ _ hs.g hs.f.2.1) ?_;rintro _ _ _ _ _ hs rfl;refine eD0 hs (fun _ _ hs=>tX 15 140 (sB za) ((l).length) ((l).length) 5 ((l.getD (k-1) stp0).a) ((l.getD (k-1) stp0).a.toNat) rfl (tW 16 3 bar qc 5 ((l.getD (k-1) stp0).a.toNat) (((bar).getD ((l.getD (k-1) stp0).a.toNat) 0)+(((bar).getD (k-1) 0)*da)) hs oM (fun _ hs=>?_)));have zn:((bar).set ((l.getD (k-1) stp0).a.toNat) (((bar).getD ((l.getD (k-1) stp0).a.toNat) 0)+(((bar).getD (k-1) 0)*da))).length=((l).length):=by rw[List.length_set];exact hbl
        replace hs:=hs.to [⟨zl,41,qc da⟩,⟨zm,41,qc db⟩,⟨zc,64,[iV ((l.getD (k-1) stp0).op),iV ((l.getD (k-1) stp0).a),iV ((l.getD (k-1) stp0).b),iV ((l.getD (k-1) stp0).n),.bool (ineg ((l.getD (k-1) stp0).q).num),uV (lo (iabs ((l.getD (k-1) stp0).q).num)),.string (hi (iabs ((l.getD (k-1) stp0).q).num)),uV (lo (qd ((l.getD (k-1) stp0).q))),.string (hi (qd ((l.getD (k-1) stp0).q)))]⟩,⟨za,41,((bar).set ((l.getD (k-1) stp0).a.toNat) (((bar).getD ((l.getD (k-1) stp0).a.toNat) 0)+(((bar).getD (k-1) 0)*da))).flatMap qc⟩,⟨zb,41,(g).flatMap qc⟩,⟨b1,26,[nV n_,qS A ((l).length) c,qS O ((os).length) d]⟩] [];refine tNS (lL hs [.v 141 (pB zc),.o 142 (iV ((l.getD (k-1) stp0).op)) 2 0 1] (lC 143 hs (tArity (l.getD (k-1) stp0).op _ _ hs.g) ?_));rintro _ _ zH hs rfl;cases zk:(decide ((1:Int)<(ari (l.getD (k-1) stp0).op:Int)))
        ·
         have zu:=oF zk;refine lB 144 zk (lN (cIF (cK (kQ (lL hs [.m 76 13] (lI 77 (((k:Nat)-1)-1) ?_))))));refine lE (ik:=.i64) 13 (show (k:Int)-1-1=((k-1:Nat):Int)-1 by omega) (lD ?_);intro a_ ka;replace hs:=hs.drop 3 0;refine ⟨_,_,?_,⟨k-1,g,(bar).set ((l.getD (k-1) stp0).a.toNat) (((bar).getD ((l.getD (k-1) stp0).a.toNat) 0)+(((bar).getD (k-1) 0)*da)),zH,rfl,rfl,hs.to _ _,oM,hgl,zn,(hB1.one oM hopr oM oM oM oM (by rw[hda,hvl])),(hZ1.one ((hWt _ oM).2.1 oM) (hopr.1 oM) hsa)⟩,ka.to _ kR⟩
         omega
        have zu:=oT zk;refine lB 144 zk (lN (cIT (cR 15 [] mixed hs al_nil ?_)));have hT2:=hZ1.two (a:=(l.getD (k-1) stp0).a.toNat) (b:=(l.getD (k-1) stp0).b.toNat) hwk (fun j hj=>hw1 j oM) ((hWt _ oM).2.2 oM) (hopr.1 oM) (hopr.2.1 oM) oM hsa hsb rfl;refine eV 0 145 (qS (sB za) ((l).length) ((l).length)) (eV 1 146 (qP zc 2) (eO 2 147 [(2,2,1)] (iV ((l.getD (k-1) stp0).b)) hs (eV 3 148 (qS (sB za) ((l).length) ((l).length)) (eV 4 149 (qP zc 2) (eO 5 150 [(2,2,1)] (iV ((l.getD (k-1) stp0).b)) hs (eX 6 151 (sB za) ((l).length) ((l).length) 5 ((l.getD (k-1) stp0).b) ((l.getD (k-1) stp0).b.toNat) rfl (eQ 7 152 3 ((bar).set ((l.getD (k-1) stp0).a.toNat) (((bar).getD ((l.getD (k-1) stp0).a.toNat) 0)+(((bar).getD (k-1) 0)*da))) qc 5 0 ((l.getD (k-1) stp0).b.toNat) (qv (((bar).set ((l.getD (k-1) stp0).a.toNat) (((bar).getD ((l.getD (k-1) stp0).a.toNat) 0)+(((bar).getD (k-1) 0)*da))).getD ((l.getD (k-1) stp0).b.toNat) 0)) hs oM (eV 8 153 (qS (sB za) ((l).length) ((l).length)) (eV 9 154 (iV ((k:Nat)-1)) (eX 10 155 (sB za) ((l).length) ((l).length) 5 ((k:Nat)-1) (k-1) rfl (eQ 11 156 3 ((bar).set ((l.getD (k-1) stp0).a.toNat) (((bar).getD ((l.getD (k-1) stp0).a.toNat) 0)+(((bar).getD (k-1) 0)*da))) qc 5 0 (k-1) (qv (((bar).set ((l.getD (k-1) stp0).a.toNat) (((bar).getD ((l.getD (k-1) stp0).a.toNat) 0)+(((bar).getD (k-1) 0)*da))).getD (k-1) 0)) hs oM (eO 12 157 [(1,0,5)] (qv db) hs ?_))))))))))));have hq80:=LQ.mul hT2.1 hsb;refine eC 13 158 hs (fun _ _ hs=>fMul (((bar).set ((l.getD (k-1) stp0).a.toNat) (((bar).getD ((l.getD (k-1) stp0).a.toNat) 0)+(((bar).getD (k-1) 0)*da))).getD (k-1) 0) db (LQ.mono hT2.1 oM) (LQ.mono hsb oM) _ _ hs.g hs.f.2.1) ?_;rintro _ _ _ _ _ hs rfl;have hq83:=LQ.add hT2.2.1 hT2.2.2.1;refine eC 14 159 hs (fun _ _ hs=>fAdd (((bar).set ((l.getD (k-1) stp0).a.toNat) (((bar).getD ((l.getD (k-1) stp0).a.toNat) 0)+(((bar).getD (k-1) 0)*da))).getD ((l.getD (k-1) stp0).b.toNat) 0) ((((bar).set ((l.getD (k-1) stp0).a.toNat) (((bar).getD ((l.getD (k-1) stp0).a.toNat) 0)+(((bar).getD (k-1) 0)*da))).getD (k-1) 0)*db) (LQ.mono hT2.2.1 oM) (LQ.mono hT2.2.2.1 oM) _ _ hs.g hs.f.2.1) ?_;rintro _ _ _ _ _ hs rfl;refine eD0 hs (fun _ zI hs=>tX 15 160 (sB za) ((l).length) ((l).length) 5 ((l.getD (k-1) stp0).b) ((l.getD (k-1) stp0).b.toNat) rfl (tW 16 3 ((bar).set ((l.getD (k-1) stp0).a.toNat) (((bar).getD ((l.getD (k-1) stp0).a.toNat) 0)+(((bar).getD (k-1) 0)*da))) qc 5 ((l.getD (k-1) stp0).b.toNat) ((((bar).set ((l.getD (k-1) stp0).a.toNat) (((bar).getD ((l.getD (k-1) stp0).a.toNat) 0)+(((bar).getD (k-1) 0)*da))).getD ((l.getD (k-1) stp0).b.toNat) 0)+((((bar).set ((l.getD (k-1) stp0).a.toNat) (((bar).getD ((l.getD (k-1) stp0).a.toNat) 0)+(((bar).getD (k-1) 0)*da))).getD (k-1) 0)*db)) hs oM (fun _ hs=>?_)));have zA:(((bar).set ((l.getD (k-1) stp0).a.toNat) (((bar).getD ((l.getD (k-1) stp0).a.toNat) 0)+(((bar).getD (k-1) 0)*da))).set ((l.getD (k-1) stp0).b.toNat) ((((bar).set ((l.getD (k-1) stp0).a.toNat) (((bar).getD ((l.getD (k-1) stp0).a.toNat) 0)+(((bar).getD (k-1) 0)*da))).getD ((l.getD (k-1) stp0).b.toNat) 0)+((((bar).set ((l.getD (k-1) stp0).a.toNat) (((bar).getD ((l.getD (k-1) stp0).a.toNat) 0)+(((bar).getD (k-1) 0)*da))).getD (k-1) 0)*db))).length=((l).length):=by rw[List.length_set];exact zn
        replace hs:=hs.to [⟨zl,41,qc da⟩,⟨zm,41,qc db⟩,⟨zc,64,[iV ((l.getD (k-1) stp0).op),iV ((l.getD (k-1) stp0).a),iV ((l.getD (k-1) stp0).b),iV ((l.getD (k-1) stp0).n),.bool (ineg ((l.getD (k-1) stp0).q).num),uV (lo (iabs ((l.getD (k-1) stp0).q).num)),.string (hi (iabs ((l.getD (k-1) stp0).q).num)),uV (lo (qd ((l.getD (k-1) stp0).q))),.string (hi (qd ((l.getD (k-1) stp0).q)))]⟩,⟨za,41,(((bar).set ((l.getD (k-1) stp0).a.toNat) (((bar).getD ((l.getD (k-1) stp0).a.toNat) 0)+(((bar).getD (k-1) 0)*da))).set ((l.getD (k-1) stp0).b.toNat) ((((bar).set ((l.getD (k-1) stp0).a.toNat) (((bar).getD ((l.getD (k-1) stp0).a.toNat) 0)+(((bar).getD (k-1) 0)*da))).getD ((l.getD (k-1) stp0).b.toNat) 0)+((((bar).set ((l.getD (k-1) stp0).a.toNat) (((bar).getD ((l.getD (k-1) stp0).a.toNat) 0)+(((bar).getD (k-1) 0)*da))).getD (k-1) 0)*db))).flatMap qc⟩,⟨zb,41,(g).flatMap qc⟩,⟨b1,26,[nV n_,qS A ((l).length) c,qS O ((os).length) d]⟩] [];refine tN (cTo [(3,pB b1),(6,sZ),(7,qS (sB zb) n_ n_),(8,iV (terr true l at_ l.length)),(9,qS Av ((vlist true l at_).length) cv),(10,qS (sB za) ((l).length) ((l).length)),(13,iV ((k:Nat)-1))] ?_);refine kQ (lL hs [.m 76 13] (lI 77 (((k:Nat)-1)-1) ?_));refine lE (ik:=.i64) 13 (show (k:Int)-1-1=((k-1:Nat):Int)-1 by omega) (lD ?_);intro a_ ka;replace hs:=hs.drop 3 0;refine ⟨_,_,?_,⟨k-1,g,((bar).set ((l.getD (k-1) stp0).a.toNat) (((bar).getD ((l.getD (k-1) stp0).a.toNat) 0)+(((bar).getD (k-1) 0)*da))).set ((l.getD (k-1) stp0).b.toNat) ((((bar).set ((l.getD (k-1) stp0).a.toNat) (((bar).getD ((l.getD (k-1) stp0).a.toNat) 0)+(((bar).getD (k-1) 0)*da))).getD ((l.getD (k-1) stp0).b.toNat) 0)+((((bar).set ((l.getD (k-1) stp0).a.toNat) (((bar).getD ((l.getD (k-1) stp0).a.toNat) 0)+(((bar).getD (k-1) 0)*da))).getD (k-1) 0)*db)),zI,rfl,rfl,hs.to _ _,oM,hgl,zA,(hB1.two oM hopr oM oM oM (by rw[hda,hvl]) (by rw[hdb,hvl]) rfl),hT2.2.2.2⟩,ka.to _ kR⟩
        omega
       have zs:=eq_of_beq zi;refine lB 91 zi (lN (cIT (cQ (cR 13 [] mixed hs al_nil ?_))));obtain ⟨hx5,hx6⟩:=fk.nm oM;refine eV 0 92 (qS (sB zb) n_ n_) (eV 1 93 (qP zc 3) (eO 2 94 [(0,3,1)] (iV ((l.getD (k-1) stp0).n)) hs (eV 3 95 (qS (sB zb) n_ n_) (eV 4 96 (qP zc 3) (eO 5 97 [(0,3,1)] (iV ((l.getD (k-1) stp0).n)) hs (eX 6 98 (sB zb) n_ n_ 5 ((l.getD (k-1) stp0).n) ((l.getD (k-1) stp0).n.toNat) rfl (eQ 7 99 2 g qc 5 0 ((l.getD (k-1) stp0).n.toNat) (qv ((g).getD ((l.getD (k-1) stp0).n.toNat) 0)) hs oM (eV 8 100 (qS (sB za) ((l).length) ((l).length)) (eV 9 101 (iV ((k:Nat)-1)) (eX 10 102 (sB za) ((l).length) ((l).length) 5 ((k:Nat)-1) (k-1) rfl (eQ 11 103 1 bar qc 5 0 (k-1) (qv ((bar).getD (k-1) 0)) hs oM ?_)))))))))));have hq95:=LQ.add (hZ.lg ((l.getD (k-1) stp0).n.toNat)) (hZ.lb hw1k (k-1) oM);refine eC 12 104 hs (fun _ _ hs=>fAdd ((g).getD ((l.getD (k-1) stp0).n.toNat) 0) ((bar).getD (k-1) 0) (LQ.mono (hZ.lg ((l.getD (k-1) stp0).n.toNat)) oM) (LQ.mono (hZ.lb hw1k (k-1) oM) oM) _ _ hs.g hs.f.2.1) ?_;rintro _ _ _ _ _ hs rfl;refine eD0 hs (fun _ zJ hs=>tX 13 105 (sB zb) n_ n_ 5 ((l.getD (k-1) stp0).n) ((l.getD (k-1) stp0).n.toNat) rfl (tW 14 2 g qc 5 ((l.getD (k-1) stp0).n.toNat) (((g).getD ((l.getD (k-1) stp0).n.toNat) 0)+((bar).getD (k-1) 0)) hs oM (fun _ hs=>?_)));have zv:((g).set ((l.getD (k-1) stp0).n.toNat) (((g).getD ((l.getD (k-1) stp0).n.toNat) 0)+((bar).getD (k-1) 0))).length=n_:=by rw[List.length_set];exact hgl
       replace hs:=hs.to [⟨zc,64,[iV ((l.getD (k-1) stp0).op),iV ((l.getD (k-1) stp0).a),iV ((l.getD (k-1) stp0).b),iV ((l.getD (k-1) stp0).n),.bool (ineg ((l.getD (k-1) stp0).q).num),uV (lo (iabs ((l.getD (k-1) stp0).q).num)),.string (hi (iabs ((l.getD (k-1) stp0).q).num)),uV (lo (qd ((l.getD (k-1) stp0).q))),.string (hi (qd ((l.getD (k-1) stp0).q)))]⟩,⟨za,41,(bar).flatMap qc⟩,⟨zb,41,((g).set ((l.getD (k-1) stp0).n.toNat) (((g).getD ((l.getD (k-1) stp0).n.toNat) 0)+((bar).getD (k-1) 0))).flatMap qc⟩,⟨b1,26,[nV n_,qS A ((l).length) c,qS O ((os).length) d]⟩] [];refine tN (CG.exit ?_)
       show CG _ _ _ _ _ _ _ _
       refine kQ (lL hs [.m 76 13] (lI 77 (((k:Nat)-1)-1) ?_));refine lE (ik:=.i64) 13 (show (k:Int)-1-1=((k-1:Nat):Int)-1 by omega) (lD ?_);intro a_ ka;replace hs:=hs.drop 1 0;refine ⟨_,_,?_,⟨k-1,(g).set ((l.getD (k-1) stp0).n.toNat) (((g).getD ((l.getD (k-1) stp0).n.toNat) 0)+((bar).getD (k-1) 0)),bar,zJ,rfl,rfl,hs.to _ _,oM,zv,hbl,(hB1.name oM hopr oM oM oM),(hZ1.name hwk _)⟩,ka.to _ kR⟩
       omega
      have zr:=eq_of_beq zg;refine lB 88 zg (lN (cIT (CG.exit ?_)))
      show CG _ _ _ _ _ _ _ _
      refine kQ (lL hs [.m 76 13] (lI 77 (((k:Nat)-1)-1) ?_));refine lE (ik:=.i64) 13 (show (k:Int)-1-1=((k-1:Nat):Int)-1 by omega) (lD ?_);intro a_ ka;replace hs:=hs.drop 1 0;refine ⟨_,_,?_,⟨k-1,g,bar,zF,rfl,rfl,hs.to _ _,oM,hgl,hbl,(by first|exact hB1.skip (sgn0 oM)|exact hB1.num oM hopr oM oM),hZ1.skip⟩,ka.to _ kR⟩
      omega
     have zp:=oT ze;refine lB 53 ze (lN (cQ (cIT (cK (cQ (kZ (cSL (lL hs [.m 54 52] (lX 55 O ((os).length) d 1 (i:Nat) i ((hs.f.q.1).ok oM) ?_)))))))));refine lH 56 (iV (os.getD i 0)) hs ((hs.f.q.1).el i oM) (lL hs [.m 11 54,.m 12 56] (lN (cR 11 [] mixed hs al_nil ?_)));refine eV 0 57 (qS (sB za) ((l).length) ((l).length)) (eV 1 58 (iV (os.getD i 0)) (eV 2 59 (qS (sB za) ((l).length) ((l).length)) (eV 3 60 (iV (os.getD i 0)) (eX 4 61 (sB za) ((l).length) ((l).length) 5 (os.getD i 0) ((os.getD i 0).toNat) rfl (eQ 5 62 0 bar qc 5 0 ((os.getD i 0).toNat) (qv ((bar).getD ((os.getD i 0).toNat) 0)) hs oM (eV 6 63 (qS Y by_.length cY) (eV 7 64 (nV i) (eX 8 65 Y by_.length cY 5 (i:Nat) i ((hs.f.r.1).ok oM) (eH 9 66 (qv (by_.getD i 0)) hs ((hs.f.r.1).el i oM) ?_)))))))));have hq112:=LQ.add (hBs.lb hw1 hiC ((os.getD i 0).toNat) oM) (hby i);refine eC 10 67 hs (fun _ _ hs=>fAdd ((bar).getD ((os.getD i 0).toNat) 0) (by_.getD i 0) (LQ.mono (hBs.lb hw1 hiC ((os.getD i 0).toNat) oM) oM) (LQ.mono (hby i) oM) _ _ hs.g hs.f.2.1) ?_;rintro _ _ _ _ _ hs rfl;refine eD0 hs (fun _ zB hs=>tX 11 68 (sB za) ((l).length) ((l).length) 5 (os.getD i 0) ((os.getD i 0).toNat) rfl (tW 12 0 bar qc 5 ((os.getD i 0).toNat) (((bar).getD ((os.getD i 0).toNat) 0)+(by_.getD i 0)) hs oM (fun _ hs=>?_)));have zw:((bar).set ((os.getD i 0).toNat) (((bar).getD ((os.getD i 0).toNat) 0)+(by_.getD i 0))).length=((l).length):=by rw[List.length_set];exact hbl
     replace hs:=hs.to [⟨za,41,((bar).set ((os.getD i 0).toNat) (((bar).getD ((os.getD i 0).toNat) 0)+(by_.getD i 0))).flatMap qc⟩,⟨zb,41,(List.replicate n_ 0).flatMap qc⟩,⟨b1,26,[nV n_,qS A ((l).length) c,qS O ((os).length) d]⟩] [];refine tN (kQ (lIn 69 ((i:Nat)+1) (i+1) ?_));refine lL hs [.m 52 69] (lD ?_);intro a_ ka;refine ⟨_,_,?_,⟨i+1,(bar).set ((os.getD i 0).toNat) (((bar).getD ((os.getD i 0).toNat) 0)+(by_.getD i 0)),zB,rfl,rfl,hs.to _ _,oM,zw,(hBo.step oM oM hbl),(hBs.step oM (hW _ oM) (hby _))⟩,ka.to _ kR⟩
     omega
    have zo:=neOfBne zd;exact lB 40 zd (lN (cIT (cSL (lL hs [.m 41 8,.v 6 (sZ),.v 7 (sZ),.m 8 41] (lN (kX (hs.ret [] (.tuple #[sZ,sZ,iV (terr true l at_ l.length)]) (by obtain ⟨e1,e2,e3⟩:=back_e (inp:=(n_:Int)) (l:=l) (os:=os) (at_:=at_) (by_:=by_) hck oM oM oM;rw[e1,e2,e3];exact ⟨none,0,none,0,rfl,nR _,nR _,SlO.nil,SlO.nil,fun h_=>absurd h_ oM,fun h_=>absurd h_ oM⟩))))))))
   have phb8:=neOfBne hb8;exact lB 31 hb8 (lL hs [.v 32 qT] (lN (cIT (cSL (lL hs [.v 6 (sZ),.v 7 (sZ),.v 8 (iV 5)] (lN (kX (hs.ret [] (.tuple #[sZ,sZ,iV 5]) (by obtain ⟨e1,e2,e3⟩:=back_5 (inp:=(n_:Int)) (l:=l) (os:=os) (at_:=at_) (by_:=by_) oM oM;rw[e1,e2,e3];exact ⟨none,0,none,0,rfl,nR _,nR _,SlO.nil,SlO.nil,fun h_=>absurd h_ oM,fun h_=>absurd h_ oM⟩)))))))))
  have phb7:=neOfBne hb7;refine lB 24 hb7 (lL hs [.m 25 24] (lG 26 ?_));exact lG 27 (lG 28 (lG 29 (lG 30 (lG 31 (lL hs [.v 32 qT] (lN (cIT (cSL (lL hs [.v 6 (sZ),.v 7 (sZ),.v 8 (iV 5)] (lN (kX (hs.ret [] (.tuple #[sZ,sZ,iV 5]) (by obtain ⟨e1,e2,e3⟩:=back_5 (inp:=(n_:Int)) (l:=l) (os:=os) (at_:=at_) (by_:=by_) oM oM;rw[e1,e2,e3];exact ⟨none,0,none,0,rfl,nR _,nR _,SlO.nil,SlO.nil,fun h_=>absurd h_ oM,fun h_=>absurd h_ oM⟩)))))))))))))
 have phb6:=neOfBne hb6;exact lB 19 hb6 (lN (cIT (cSL (lL hs [.v 6 (sZ),.v 7 (sZ),.v 8 (iV 1)] (lN (kX (hs.ret [] (.tuple #[sZ,sZ,iV 1]) (by obtain ⟨e1,e2,e3⟩:=back_1 (inp:=(n_:Int)) (l:=l) (os:=os) (at_:=at_) (by_:=by_) oM;rw[e1,e2,e3];exact ⟨none,0,none,0,rfl,nR _,nR _,SlO.nil,SlO.nil,fun h_=>absurd h_ oM,fun h_=>absurd h_ oM⟩))))))))
theorem tBackM (inp:Int)(A:Option Addr)(c:Nat)(l:List Stp)(O:Option Addr)(d:Nat)(os:List Int)(at_:List Rat)(X:Option Addr)(cX:Nat)(by_:List Rat)(Y:Option Addr)(cY:Nat)(hl:l.length≤65536)(ho:os.length≤300)(hq:∀ i,LQ 1 (l.getD i stp0).q)(hneg:inp<0)(w:World)(h:Hp)(g:G w h)(hA:SlO 9 stc stp0 h A l)(hO:Si O os h)(hX:Sq X at_ h)(hY:Sq Y by_ h)(tb:Tab h):CR 31 #[.agg #[iV inp,.slice A ((l).length) c,.slice O ((os).length) d],.slice X at_.length cX,.slice Y by_.length cY] w h (fun v h1=>∃ A c B d,v=.tuple #[.slice A (backO inp l os at_ by_).length c,.slice B (backG inp l os at_ by_).length d,iV (backE inp l os at_ by_)]∧(backO inp l os at_ by_).length≤c∧(backG inp l os at_ by_).length≤d∧Sq A (backO inp l os at_ by_) h1∧Sq B (backG inp l os at_ by_) h1∧(backE inp l os at_ by_=0→∀ way,dotq (backG inp l os at_ by_) way (inp).toNat=tgt l os at_ by_ way)∧(backE inp l os at_ by_=0→h.size≤aB B)):=by
 have hs:=((((((sS g).aS hA).aS hO).aS hX).aS hY).aB tb);have hck:chkTp inp l os≠0:=by rw[chkTp_shape oM];decide
 refine go Tryz.func31 [(0,.agg #[iV inp,qS A ((l).length) c,qS O ((os).length) d]),(1,qS X at_.length cX),(2,qS Y by_.length cY)] rfl (cSL (lA 3 26 ([iV inp,qS A ((l).length) c,qS O ((os).length) d]) hs (fun b1 w2 h3 hs=>lL hs [.v 6 (sZ),.v 7 (sZ),.v 8 (iV 0)] (lN (cQ (cSL (lL hs [.o 17 (.agg #[iV inp,qS A ((l).length) c,qS O ((os).length) d]) 0 0 3] (lC 18 hs (tCheck inp A c l O d os oM oM (fun i _=>hq i) _ _ hs.g hs.f.q.1 hs.f.r.2.1) ?_))))))));rintro _ w4 h5 hs rfl;have hb6:((chkTp inp l os:Int) != (0:Int))=true:=bneT oM;have phb6:=neOfBne hb6;exact lB 19 hb6 (lN (cIT (cSL (lL hs [.v 6 (sZ),.v 7 (sZ),.v 8 (iV 1)] (lN (kX (hs.ret [] (.tuple #[sZ,sZ,iV 1]) (by obtain ⟨e1,e2,e3⟩:=back_1 (inp:=inp) (l:=l) (os:=os) (at_:=at_) (by_:=by_) hck;rw[e1,e2,e3];exact ⟨none,0,none,0,rfl,nR _,nR _,SlO.nil,SlO.nil,fun h_=>absurd h_ kD,fun h_=>absurd h_ kD⟩))))))))
theorem tBack (inp:Int)(A:Option Addr)(c:Nat)(l:List Stp)(O:Option Addr)(d:Nat)(os:List Int)(at_:List Rat)(X:Option Addr)(cX:Nat)(by_:List Rat)(Y:Option Addr)(cY:Nat)(wt sg:Nat→Nat)(W_:Nat)(hl:l.length≤65536)(ho:os.length≤300)(hat2:at_.length≤1000000)(hbt2:by_.length≤1000000)(hq:∀ i,LQ 1 (l.getD i stp0).q)(hby:∀ i,LQ 1 (by_.getD i 0))(hB:chkTp inp l os=0→(at_.length:Int)=inp→∀ k,k≤l.length→terr true l at_ k=0→∀ j,LQ 1000000 ((tvals l at_ k).getD j 0))(hwt:chkTp inp l os=0→Wt l wt)(hW:∀ j,j<l.length→wt j≤W_)(hSg:chkTp inp l os=0→(at_.length:Int)=inp→terr true l at_ l.length=0→∀ k,k<l.length→(l.getD k stp0).op≠2→LQ (sg k) (sla (l.getD k stp0).op (l.getD k stp0).n ((tvals l at_ l.length).getD (l.getD k stp0).a.toNat 0) ((tvals l at_ l.length).getD (l.getD k stp0).b.toNat 0))∧LQ (sg k) (slb (l.getD k stp0).op ((tvals l at_ l.length).getD (l.getD k stp0).a.toNat 0) ((tvals l at_ l.length).getD (l.getD k stp0).b.toNat 0)))(hC:chkTp inp l os=0→1+pot wt (fun _=>1) l.length+os.length*(2*W_)+rem_ wt sg l.length≤100000000)(w:World)(h:Hp)(g:G w h)(hA:SlO 9 stc stp0 h A l)(hO:Si O os h)(hX:Sq X at_ h)(hY:Sq Y by_ h)(tb:Tab h):CR 31 #[.agg #[iV inp,.slice A l.length c,.slice O os.length d],.slice X at_.length cX,.slice Y by_.length cY] w h (fun v h1=>∃ A c B d,v=.tuple #[.slice A (backO inp l os at_ by_).length c,.slice B (backG inp l os at_ by_).length d,iV (backE inp l os at_ by_)]∧(backO inp l os at_ by_).length≤c∧(backG inp l os at_ by_).length≤d∧Sq A (backO inp l os at_ by_) h1∧Sq B (backG inp l os at_ by_) h1∧(backE inp l os at_ by_=0→∀ way,dotq (backG inp l os at_ by_) way (inp).toNat=tgt l os at_ by_ way)∧(backE inp l os at_ by_=0→h.size≤aB B)):=by
  by_cases hs:0≤inp
  · obtain ⟨n,rfl⟩:=Int.eq_ofNat_of_zero_le hs
    exact tBackN n A c l O d os at_ X cX by_ Y cY wt sg W_ hl ho hat2 hbt2 hq hby hB hwt hW hSg hC w h g hA hO hX hY tb
  · exact tBackM inp A c l O d os at_ X cX by_ Y cY hl ho hq oM w h g hA hO hX hY tb
theorem oq_lq {ss:List OSt}(h:OSms ss)(i:Nat):LQ 1 ((ss.map OSt.stp).getD i stp0).q:=by
  by_cases e:i<ss.length
  · rw[stp_getD e];exact (h i e).q
  · rw[getD_outR (by rw[List.length_map];omega)];exact lq0 oM
theorem lq_nil {K:Nat}(hK:1≤K)(j:Nat):LQ K (([]:List Rat).getD j 0):=by rw[getD_outR (by simp)];exact lq0 hK
theorem lq_runL {sm:Bool}{inp:Int}{l:List Stp}{os:List Int}{at_:List Rat}{K:Nat}(hK:1≤K)(h:chkTp inp l os=0→∀ j,LQ K ((tvals l at_ l.length).getD j 0))(j:Nat):LQ K ((runL sm inp l os at_).getD j 0):=by
  unfold runL
  split
  · rename_i e
    by_cases hc:chkTp inp l os=0
    · exact lq_pick hK (h hc) j
    · unfold runE at e;rw[if_neg hc] at e;exact absurd e kD
  · exact lq_nil hK j
theorem run_len {sm:Bool}{inp:Int}{l:List Stp}{os:List Int}{at_:List Rat}:(runL sm inp l os at_).length≤os.length:=by
  unfold runL;split
  · unfold pickL;rw[List.length_map];exact Nat.le_refl _
  · exact Nat.zero_le _
def dmix (z:Nat):Nat :=
  let a:=(z ^^^ (z >>> 30))*13787848793156543929%18446744073709551616
  let b:=(a ^^^ (a >>> 27))*10723151780598845931%18446744073709551616
  b ^^^ (b >>> 31)
def dnx (s:Nat):Nat:=(s+11400714819323198485)%18446744073709551616
def dlast (n:Nat):Nat:=18446744073709551615-18446744073709551616%n
def drawF (n:Nat):Nat→Nat→Nat × Nat
  | 0,s=>(0,s)
  | k+1,s=>if dmix (dnx s)≤dlast n then (dmix (dnx s)%n,dnx s) else drawF n k (dnx s)
def dk (s:Nat):Nat:=(18446744073709551616-s)*17428512612931826493
def belowq (n s:Nat):Nat × Nat:=drawF n (dk s) s
def Hit (k s:Nat):Prop:=(s+k*11400714819323198485)%18446744073709551616=0∧0<k
theorem dmix_zero:dmix 0=0:=rfl
theorem dnx_lt (s:Nat):dnx s<18446744073709551616:=Nat.mod_lt _ kD
theorem hit_first {s:Nat}(hs:s<18446744073709551616):Hit (dk s) s:=by
  obtain ⟨u,hu⟩:∃ u,u=18446744073709551616-s:=⟨_,rfl⟩;have h1:0<u:=by omega
  have e:s=18446744073709551616-u:=by omega
  have hul:u≤18446744073709551616:=by omega
  refine ⟨?_,?_⟩
  · unfold dk
    rw[←hu,Nat.mul_assoc,show 17428512612931826493*11400714819323198485=1+18446744073709551616*10771413168148108919 from by decide,Nat.mul_add,Nat.mul_one];have e2:u*(18446744073709551616*10771413168148108919)=18446744073709551616*(u*10771413168148108919):=by rw[←Nat.mul_assoc,Nat.mul_comm u,Nat.mul_assoc]
    rw[e2,←Nat.add_assoc,show s+u=18446744073709551616*1 by omega,←Nat.mul_add,Nat.mul_mod_right]
  · unfold dk;rw[←hu];exact Nat.mul_pos h1 kD
theorem hit_next {k s:Nat}(h:Hit (k+1) s){n:Nat}(hn:¬dmix (dnx s)≤dlast n):Hit k (dnx s):=by
  obtain ⟨h1,_⟩:=h
  have e:(dnx s+k*11400714819323198485)%18446744073709551616=0:=by
    unfold dnx;rw[Nat.mod_add_mod,Nat.add_assoc,Nat.add_comm 11400714819323198485,←Nat.succ_mul];exact h1
  refine ⟨e,?_⟩
  rcases Nat.eq_zero_or_pos k with h0|h0
  · subst h0
    rw[Nat.zero_mul,Nat.add_zero,Nat.mod_eq_of_lt (dnx_lt s)] at e
    rw[e,dmix_zero] at hn;exact absurd (Nat.zero_le _) hn
  · exact h0
theorem dlast_p (n:Nat):18446744073709551615-(18446744073709551615%n+1)%n=dlast n:=by unfold dlast;rw[Nat.mod_add_mod]
theorem draw_yes {n k s:Nat}(h:dmix (dnx s)≤dlast n):drawF n (k+1) s=(dmix (dnx s)%n,dnx s):=if_pos h
theorem draw_no {n k s:Nat}(h:¬dmix (dnx s)≤dlast n):drawF n (k+1) s=drawF n k (dnx s):=if_neg h
theorem dmix_lt_ {x:Nat}(k:Nat)(h:x<18446744073709551616):x ^^^ (x/2^k)<18446744073709551616:=Nat.xor_lt_two_pow (n:=64) h (Nat.lt_of_le_of_lt (Nat.div_le_self _ _) h)
theorem dmix_eq (z:Nat):dmix z=((z ^^^ z/1073741824)*13787848793156543929%18446744073709551616 ^^^ (z ^^^ z/1073741824)*13787848793156543929%18446744073709551616/134217728)*10723151780598845931%18446744073709551616 ^^^
    ((z ^^^ z/1073741824)*13787848793156543929%18446744073709551616 ^^^ (z ^^^ z/1073741824)*13787848793156543929%18446744073709551616/134217728)*10723151780598845931%18446744073709551616/2147483648:=by
  unfold dmix
  simp only[Nat.shiftRight_eq_div_pow]
theorem dmix_lt (z:Nat):dmix z<18446744073709551616:=by
  unfold dmix
  simp only[Nat.shiftRight_eq_div_pow]
  exact dmix_lt_ 31 (Nat.mod_lt _ kD)
theorem drawF_lt {n:Nat}(hn:0<n):∀ k s,s<18446744073709551616→(drawF n k s).1<n∧(drawF n k s).2<18446744073709551616
  | 0,s,h=>⟨hn,h⟩
  | k+1,s,h=>by
    by_cases c:dmix (dnx s)≤dlast n
    · rw[draw_yes c];exact ⟨Nat.mod_lt _ hn,dnx_lt s⟩
    · rw[draw_no c];exact drawF_lt hn k _ (dnx_lt s)
theorem belowq_lt {n s:Nat}(hn:0<n)(h:s<18446744073709551616):(belowq n s).1<n∧(belowq n s).2<18446744073709551616:=drawF_lt hn _ _ h
section ops
variable {P:Program} {Γ:Env} {o:Oper}
theorem opXorN {t u:TypeId}{x y:Operand}{a b:Nat}(ho:o.op=.binOp .xor t x y u)(hx:ev Γ x=.int .u64 (a:Int))(hy:ev Γ y=.int .u64 (b:Int))(ha:a<18446744073709551616)(hb:b<18446744073709551616)(w:World) :
    (execOp (ev Γ) o).run P w=.ok (.value (.int .u64 ((a ^^^ b:Nat):Int))) w:=by
  unfold execOp;simp only[ho];rw[hx,hy]
  have e:bits .xor .u64 (a:Int) (b:Int)=((a ^^^ b:Nat):Int):=by
    unfold bits
    have h1:(BitVec.ofInt 64 (a:Int) ^^^ BitVec.ofInt 64 (b:Int)).toNat=a ^^^ b:=by
      rw[BitVec.toNat_xor]
      congr 1<;>(simp[BitVec.toNat_ofInt];omega)
    show IntKind.wrap .u64 (((BitVec.ofInt 64 (a:Int) ^^^ BitVec.ofInt 64 (b:Int)).toNat:Nat):Int)=_
    rw[h1];have:=Nat.xor_lt_two_pow (n:=64) ha hb;exact fitU64 oM oM
  simp[binOp,eqGuard,Result.andThen,intBits_xor,e]
end ops
theorem dNext (rbk s:Nat)(hs_:s<18446744073709551616)(w:World)(h:Hp)(g:G w h)(ho:Own w rbk 164 [mV s])(hj:h[rbk]?=some junk):Calls Tryz.prog 125 #[pB rbk] w (RetM rbk w h fun v w' _=>v=mV (dmix (dnx s))∧Own w' rbk 164 [mV (dnx s)]):=by
 have hmo:UpM [rbk] w h w h:=UpM.refl g;obtain ⟨wz,hz0_,hs⟩:=SS.at_ g ho hj;refine go Tryz.func125 [(0,pB rbk)] rfl (cSL (lL hs [.v 2 (uV 0)] (lN (cQ (cSL (lL hs [.m 4 0,.v 5 qF] (lN (cIF (cK (cSL (lL hs [.m 6 0,.v 7 (pB rbk),.v 8 (pB rbk),.o 9 (mV s) 0 0 1] (lV 10 (mV ((s+11400714819323198485)%18446744073709551616)) ?_ (hr:=rU (((s:Int)+(11400714819323198485:Int))) kR (wAU64 s 11400714819323198485))))))))))))));refine lL hs [.v 11 (pB rbk),.v 12 (pB rbk)] (lPu 0 0 ([mV ((s+11400714819323198485)%18446744073709551616)]) hs (fun w1 pu hs=>?_));replace hmo:=hmo.put pu (List.mem_singleton.2 rfl) hs.g;refine lNS (lL hs [.m 13 0,.v 14 (pB rbk),.v 15 (pB rbk),.o 16 (mV ((s+11400714819323198485)%18446744073709551616)) 0 0 1,.m 3 16] (lNS (lL hs [.m 17 3,.m 18 3] (lV 19 (mV (((s+11400714819323198485)%18446744073709551616)/1073741824)) ?_ (hr:=rint (n:=Int.fdiv (((s+11400714819323198485)%18446744073709551616:Nat):Int) 1073741824) kR (fdivNat _ 1073741824))))));refine lV 20 (mV (((s+11400714819323198485)%18446744073709551616) ^^^ (((s+11400714819323198485)%18446744073709551616)/1073741824:Nat))) ?_ (hr:=opXorN (t:=23) (u:=23) (x:=.tmp 17) (y:=.tmp 19) (a:=((s+11400714819323198485)%18446744073709551616)) (b:=(((s+11400714819323198485)%18446744073709551616)/1073741824:Nat)) kR kR kR (by first|exact Nat.mod_lt _ kD|exact Nat.lt_of_le_of_lt (Nat.div_le_self _ _) (Nat.mod_lt _ kD)) (by first|exact Nat.mod_lt _ kD|exact Nat.lt_of_le_of_lt (Nat.div_le_self _ _) (Nat.mod_lt _ kD)) _);refine lV 21 (mV (((((s+11400714819323198485)%18446744073709551616) ^^^ (((s+11400714819323198485)%18446744073709551616)/1073741824:Nat):Nat)*13787848793156543929)%18446744073709551616)) ?_ (hr:=rU ((((((s+11400714819323198485)%18446744073709551616) ^^^ (((s+11400714819323198485)%18446744073709551616)/1073741824:Nat):Nat):Int)*(13787848793156543929:Int))) kR (wMU64 (((s+11400714819323198485)%18446744073709551616) ^^^ (((s+11400714819323198485)%18446744073709551616)/1073741824:Nat):Nat) 13787848793156543929));refine lL hs [.m 3 21] (lNS (lL hs [.m 22 3,.m 23 3] (lV 24 (mV ((((((s+11400714819323198485)%18446744073709551616) ^^^ (((s+11400714819323198485)%18446744073709551616)/1073741824:Nat):Nat)*13787848793156543929)%18446744073709551616:Nat)/134217728)) ?_ (hr:=rint (n:=Int.fdiv ((((((s+11400714819323198485)%18446744073709551616) ^^^ (((s+11400714819323198485)%18446744073709551616)/1073741824:Nat):Nat)*13787848793156543929)%18446744073709551616:Nat):Int) 134217728) kR (fdivNat _ 134217728)))));refine lV 25 (mV ((((((s+11400714819323198485)%18446744073709551616) ^^^ (((s+11400714819323198485)%18446744073709551616)/1073741824:Nat):Nat)*13787848793156543929)%18446744073709551616:Nat) ^^^ ((((((s+11400714819323198485)%18446744073709551616) ^^^ (((s+11400714819323198485)%18446744073709551616)/1073741824:Nat):Nat)*13787848793156543929)%18446744073709551616:Nat)/134217728:Nat))) ?_ (hr:=opXorN (t:=23) (u:=23) (x:=.tmp 22) (y:=.tmp 24) (a:=(((((s+11400714819323198485)%18446744073709551616) ^^^ (((s+11400714819323198485)%18446744073709551616)/1073741824:Nat):Nat)*13787848793156543929)%18446744073709551616:Nat)) (b:=((((((s+11400714819323198485)%18446744073709551616) ^^^ (((s+11400714819323198485)%18446744073709551616)/1073741824:Nat):Nat)*13787848793156543929)%18446744073709551616:Nat)/134217728:Nat)) kR kR kR (by first|exact Nat.mod_lt _ kD|exact Nat.lt_of_le_of_lt (Nat.div_le_self _ _) (Nat.mod_lt _ kD)) (by first|exact Nat.mod_lt _ kD|exact Nat.lt_of_le_of_lt (Nat.div_le_self _ _) (Nat.mod_lt _ kD)) _);refine lV 26 (mV ((((((((s+11400714819323198485)%18446744073709551616) ^^^ (((s+11400714819323198485)%18446744073709551616)/1073741824:Nat):Nat)*13787848793156543929)%18446744073709551616:Nat) ^^^ ((((((s+11400714819323198485)%18446744073709551616) ^^^ (((s+11400714819323198485)%18446744073709551616)/1073741824:Nat):Nat)*13787848793156543929)%18446744073709551616:Nat)/134217728:Nat):Nat)*10723151780598845931)%18446744073709551616)) ?_ (hr:=rU (((((((((s+11400714819323198485)%18446744073709551616) ^^^ (((s+11400714819323198485)%18446744073709551616)/1073741824:Nat):Nat)*13787848793156543929)%18446744073709551616:Nat) ^^^ ((((((s+11400714819323198485)%18446744073709551616) ^^^ (((s+11400714819323198485)%18446744073709551616)/1073741824:Nat):Nat)*13787848793156543929)%18446744073709551616:Nat)/134217728:Nat):Nat):Int)*(10723151780598845931:Int))) kR (wMU64 ((((((s+11400714819323198485)%18446744073709551616) ^^^ (((s+11400714819323198485)%18446744073709551616)/1073741824:Nat):Nat)*13787848793156543929)%18446744073709551616:Nat) ^^^ ((((((s+11400714819323198485)%18446744073709551616) ^^^ (((s+11400714819323198485)%18446744073709551616)/1073741824:Nat):Nat)*13787848793156543929)%18446744073709551616:Nat)/134217728:Nat):Nat) 10723151780598845931));refine lL hs [.m 3 26] (lNS (lL hs [.m 27 3,.m 28 3] (lV 29 (mV (((((((((s+11400714819323198485)%18446744073709551616) ^^^ (((s+11400714819323198485)%18446744073709551616)/1073741824:Nat):Nat)*13787848793156543929)%18446744073709551616:Nat) ^^^ ((((((s+11400714819323198485)%18446744073709551616) ^^^ (((s+11400714819323198485)%18446744073709551616)/1073741824:Nat):Nat)*13787848793156543929)%18446744073709551616:Nat)/134217728:Nat):Nat)*10723151780598845931)%18446744073709551616:Nat)/2147483648)) ?_ (hr:=rint (n:=Int.fdiv (((((((((s+11400714819323198485)%18446744073709551616) ^^^ (((s+11400714819323198485)%18446744073709551616)/1073741824:Nat):Nat)*13787848793156543929)%18446744073709551616:Nat) ^^^ ((((((s+11400714819323198485)%18446744073709551616) ^^^ (((s+11400714819323198485)%18446744073709551616)/1073741824:Nat):Nat)*13787848793156543929)%18446744073709551616:Nat)/134217728:Nat):Nat)*10723151780598845931)%18446744073709551616:Nat):Int) 2147483648) kR (fdivNat _ 2147483648)))));refine lV 30 (mV (((((((((s+11400714819323198485)%18446744073709551616) ^^^ (((s+11400714819323198485)%18446744073709551616)/1073741824:Nat):Nat)*13787848793156543929)%18446744073709551616:Nat) ^^^ ((((((s+11400714819323198485)%18446744073709551616) ^^^ (((s+11400714819323198485)%18446744073709551616)/1073741824:Nat):Nat)*13787848793156543929)%18446744073709551616:Nat)/134217728:Nat):Nat)*10723151780598845931)%18446744073709551616:Nat) ^^^ (((((((((s+11400714819323198485)%18446744073709551616) ^^^ (((s+11400714819323198485)%18446744073709551616)/1073741824:Nat):Nat)*13787848793156543929)%18446744073709551616:Nat) ^^^ ((((((s+11400714819323198485)%18446744073709551616) ^^^ (((s+11400714819323198485)%18446744073709551616)/1073741824:Nat):Nat)*13787848793156543929)%18446744073709551616:Nat)/134217728:Nat):Nat)*10723151780598845931)%18446744073709551616:Nat)/2147483648:Nat))) ?_ (hr:=opXorN (t:=23) (u:=23) (x:=.tmp 27) (y:=.tmp 29) (a:=((((((((s+11400714819323198485)%18446744073709551616) ^^^ (((s+11400714819323198485)%18446744073709551616)/1073741824:Nat):Nat)*13787848793156543929)%18446744073709551616:Nat) ^^^ ((((((s+11400714819323198485)%18446744073709551616) ^^^ (((s+11400714819323198485)%18446744073709551616)/1073741824:Nat):Nat)*13787848793156543929)%18446744073709551616:Nat)/134217728:Nat):Nat)*10723151780598845931)%18446744073709551616:Nat)) (b:=(((((((((s+11400714819323198485)%18446744073709551616) ^^^ (((s+11400714819323198485)%18446744073709551616)/1073741824:Nat):Nat)*13787848793156543929)%18446744073709551616:Nat) ^^^ ((((((s+11400714819323198485)%18446744073709551616) ^^^ (((s+11400714819323198485)%18446744073709551616)/1073741824:Nat):Nat)*13787848793156543929)%18446744073709551616:Nat)/134217728:Nat):Nat)*10723151780598845931)%18446744073709551616:Nat)/2147483648:Nat)) kR kR kR (by first|exact Nat.mod_lt _ kD|exact Nat.lt_of_le_of_lt (Nat.div_le_self _ _) (Nat.mod_lt _ kD)) (by first|exact Nat.mod_lt _ kD|exact Nat.lt_of_le_of_lt (Nat.div_le_self _ _) (Nat.mod_lt _ kD)) _);exact lL hs [.m 2 30] (lN (kX (hs.retM hmo [] (mV (((((((((s+11400714819323198485)%18446744073709551616) ^^^ (((s+11400714819323198485)%18446744073709551616)/1073741824:Nat):Nat)*13787848793156543929)%18446744073709551616:Nat) ^^^ ((((((s+11400714819323198485)%18446744073709551616) ^^^ (((s+11400714819323198485)%18446744073709551616)/1073741824:Nat):Nat)*13787848793156543929)%18446744073709551616:Nat)/134217728:Nat):Nat)*10723151780598845931)%18446744073709551616:Nat) ^^^ (((((((((s+11400714819323198485)%18446744073709551616) ^^^ (((s+11400714819323198485)%18446744073709551616)/1073741824:Nat):Nat)*13787848793156543929)%18446744073709551616:Nat) ^^^ ((((((s+11400714819323198485)%18446744073709551616) ^^^ (((s+11400714819323198485)%18446744073709551616)/1073741824:Nat):Nat)*13787848793156543929)%18446744073709551616:Nat)/134217728:Nat):Nat)*10723151780598845931)%18446744073709551616:Nat)/2147483648:Nat))) ⟨congrArg (fun n:Nat=>Value.int .u64 (n:Int)) (dmix_eq (dnx s)).symm,hs.own 0⟩)))
theorem dBelow (rbk s n:Nat)(hs_:s<18446744073709551616)(hn0:0<n)(hn:n<9223372036854775808)(w:World)(h:Hp)(g:G w h)(ho:Own w rbk 164 [mV s])(hj:h[rbk]?=some junk):Calls Tryz.prog 96 #[pB rbk,nV n] w (RetM rbk w h fun v w' _=>v=nV ((belowq n s).1)∧Own w' rbk 164 [mV ((belowq n s).2)]):=by
 have hmo:UpM [rbk] w h w h:=UpM.refl g;obtain ⟨wz,hz0_,hs⟩:=SS.at_ g ho hj;have hr1:=Nat.mod_lt 18446744073709551615 hn0;have hr2:=Nat.mod_lt (18446744073709551615%n+1) hn0;have hr3:=Nat.mod_lt 18446744073709551616 hn0;refine go Tryz.func96 [(0,pB rbk),(1,nV n)] rfl (cSL (lL hs [.v 4 (iV 0)] (lN (cQ (cSL (lL hs [.m 8 1] ?_))))));have ⟨hb1,phb1⟩:=dF (p:=(n:Int)<(1:Int)) oM;refine lB 9 hb1 (lN (cIF (cK (cSL (lL hs [.m 10 1] (lV 11 (mV n) ?_ (hr:=rU ((n:Int)) kR (fitU64 oM oM))))))));refine lL hs [.m 5 11] (lNS (lL hs [.m 12 5] (lV 13 (mV (18446744073709551615%n)) ?_ (hr:=rint (opRem (t:=23) (u:=23) (x:=.const (uV 18446744073709551615)) (y:=.tmp 12) (k:=.u64) (a:=(18446744073709551615:Int)) (b:=(n:Int)) kR kR kR oM _) (tmodNat 18446744073709551615 n)))));refine lV 14 (mV ((18446744073709551615%n)+1)) ?_ (hr:=rU ((((18446744073709551615%n:Nat):Int)+(1:Int))) kR (fAU64 (18446744073709551615%n) 1 oM));refine lL hs [.m 15 5] (lV 16 (mV (((18446744073709551615%n)+1)%n)) ?_ (hr:=rint (opRem (t:=23) (u:=23) (x:=.tmp 14) (y:=.tmp 15) (k:=.u64) (a:=(((18446744073709551615%n)+1:Nat):Int)) (b:=(n:Int)) kR kR kR oM _) (tmodNat ((18446744073709551615%n)+1) n)));refine lV 17 (mV (dlast n)) ?_ (hr:=rint (rint (n:=IntKind.wrap .u64 ((18446744073709551615:Int)-((((18446744073709551615%n)+1)%n:Nat):Int))) kR (fSU64 18446744073709551615 (((18446744073709551615%n)+1)%n:Nat) oM oM)) (by rw[dlast_p]));refine lL hs [.m 6 17] (lN (kZ ?_));refine cTo _ (CG.loop (fun μ_ Γ w_=>∃ (k:Nat) (s2:Nat) (h_:Hp),μ_=k∧Γ=[(0,pB rbk),(5,mV n),(6,mV (dlast n))]∧SS wz hz0_ w_ h_ [⟨rbk,164,[mV s2]⟩] [] []∧Hit k s2∧drawF n k s2=belowq n s∧s2<18446744073709551616∧UpM [rbk] w h w_ h_) _ ⟨dk s,s,h,rfl,rfl,hs.to _ _,(hit_first hs_),rfl,hs_,hmo⟩ ?_);rintro _ _ w2 ⟨k,s2,h3,hm4,rfl,hs,hH,hD,hs2,hmo⟩;obtain ⟨m,rfl⟩:∃ m,k=m+1:=⟨k-1,by have:=hH.2;omega⟩;have hml:=Nat.mod_lt (dmix (dnx s2)) hn0;have hdl:=dmix_lt (dnx s2);refine kZ (cSL (lL hs [.m 18 0] (lCm 19 (dNext rbk s2 hs2 _ _ hs.g (hs.own 0) (hs.jk 0)) ?_)));rintro _ w5 h6 u7 ⟨rfl,hO⟩;replace hs:=(hs.stepM 0 u7 hO).to [⟨rbk,164,[mV (dnx s2)]⟩] [];replace hmo:=hmo.trans u7;refine lL hs [.m 7 19] (lNS (lL hs [.m 20 7,.m 21 6] ?_));cases hb8:(decide (((dmix (dnx s2):Nat):Int)≤((dlast n:Nat):Int)))
 ·
  have phb8:=oF hb8;refine lB 22 hb8 (lN (cIF (CG.skip ?_)));intro a_ ka;refine ⟨_,_,?_,⟨m,dnx s2,h6,rfl,rfl,hs.to _ _,(hit_next (n:=n) hH oM),(by rw[←draw_no (n:=n) (k:=m) (s:=s2) oM];exact hD),(dnx_lt _),hmo⟩,ka.to _ kR⟩
  omega
 have phb8:=oT hb8;refine lB 22 hb8 (lN (cIT (cSL (lL hs [.m 23 7,.m 24 5] (lV 25 (mV ((dmix (dnx s2))%n)) ?_ (hr:=rint (opRem (t:=23) (u:=23) (x:=.tmp 23) (y:=.tmp 24) (k:=.u64) (a:=((dmix (dnx s2):Nat):Int)) (b:=(n:Int)) kR kR kR oM _) (tmodNat (dmix (dnx s2)) n)))))));refine lV 26 (nV ((dmix (dnx s2))%n)) ?_ (hr:=rS ((((dmix (dnx s2))%n:Nat):Int)) kR (fitI64 oM oM));refine lL hs [.m 4 26] (lN (kX ?_));have hb_:=hD.symm.trans (draw_yes oM);exact hs.retM hmo [] (nV ((dmix (dnx s2))%n)) ⟨by rw[hb_],by rw[hb_];exact hs.own 0⟩
def fineD (ra ke:Rat)(sp ba bi:Int):Prop:=0<ra.num.sign∧cmpR ra ((16:Int):Rat)≤0∧0≤ke.num.sign∧cmpR ke ((1:Int):Rat)<0∧0≤sp∧sp≤200∧0≤ba∧ba≤300∧0≤bi∧bi≤256
instance (ra ke:Rat) (sp ba bi:Int):Decidable (fineD ra ke sp ba bi):=by unfold fineD;infer_instance
theorem dFine (ra ke:Rat)(sp ba bi:Int)(sd:Nat)(hra:LQ 100000000 ra)(hke:LQ 100000000 ke)(w:World)(h:Hp)(g:G w h):CV 24 #[.agg #[.bool (ineg ra.num),uV (lo (iabs ra.num)),.string (hi (iabs ra.num)),uV (lo (qd ra)),.string (hi (qd ra)),.bool (ineg ke.num),uV (lo (iabs ke.num)),.string (hi (iabs ke.num)),uV (lo (qd ke)),.string (hi (qd ke)),iV sp,iV ba,iV bi,mV sd]] w h (.bool (decide (fineD ra ke sp ba bi))):=by
 have hs:=sS g;refine go Tryz.func24 [(0,.agg #[.bool (ineg ra.num),uV (lo (iabs ra.num)),.string (hi (iabs ra.num)),uV (lo (qd ra)),.string (hi (qd ra)),.bool (ineg ke.num),uV (lo (iabs ke.num)),.string (hi (iabs ke.num)),uV (lo (qd ke)),.string (hi (qd ke)),iV sp,iV ba,iV bi,mV sd])] rfl (cSL (lA 1 52 ([.bool (ineg ra.num),uV (lo (iabs ra.num)),.string (hi (iabs ra.num)),uV (lo (qd ra)),.string (hi (qd ra)),.bool (ineg ke.num),uV (lo (iabs ke.num)),.string (hi (iabs ke.num)),uV (lo (qd ke)),.string (hi (qd ke)),iV sp,iV ba,iV bi,mV sd]) hs (fun b1 w2 h3 hs=>lL hs [.v 2 qF] (lN (cQ (cR 54 [] mixed hs al_nil ?_))))));refine eV 0 3 (pB b1) (eO 1 4 [(0,0,5)] (qv ra) hs (eC 2 5 hs (fun _ _ hs=>fSign ra (LQ.mono hra oM) _ _ hs.g) ?_));rintro _ _ _ w4 h5 hs rfl;cases hb6:(decide ((0:Int)<(ra.num.sign:Int)))
 ·
  have phb6:=oF hb6;refine eB 3 6 hb6 (eV 4 7 qF (eG 5 8 (eG 6 9 (eG 7 10 (eG 8 11 (eG 9 12 (eV 10 13 qF (eV 11 14 qF (eG 12 15 (eG 13 16 (eG 14 17 (eG 15 18 (eV 16 19 qF (eV 17 20 qF (eG 18 21 (eG 19 22 (eG 20 23 (eG 21 24 (eG 22 25 (eV 23 26 qF (eV 24 27 qF (eG 25 28 (eG 26 29 (eG 27 30 (eV 28 31 qF (eV 29 32 qF (eG 30 33 (eG 31 34 (eG 32 35 (eV 33 36 qF (eV 34 37 qF (eG 35 38 (eG 36 39 (eG 37 40 (eV 38 41 qF (eV 39 42 qF (eG 40 43 (eG 41 44 (eG 42 45 (eV 43 46 qF (eV 44 47 qF (eG 45 48 (eG 46 49 (eG 47 50 (eV 48 51 qF (eV 49 52 qF (eG 50 53 (eG 51 54 (eG 52 55 (eV 53 56 qF (eD0 hs (fun w7 h8 hs=>tV 54 2 qF (tN (cTo [(2,qF)] ?_))))))))))))))))))))))))))))))))))))))))))))))))))))));exact kX (hs.ret [] qF (congrArg Value.bool (decide_eq_false (by unfold fineD;omega)).symm))
 have phb6:=oT hb6;refine eB 3 6 hb6 (eV 4 7 qT (eV 5 8 (pB b1) (eO 6 9 [(0,0,5)] (qv ra) hs (eC 7 10 hs (fun _ _ hs=>fOf 16 oM oM _ _ hs.g) ?_))));rintro _ _ _ w9 _ hs rfl;refine eC 8 11 hs (fun _ _ hs=>fCmp ra ((16:Int):Rat) (LQ.mono hra oM) (LQ.mono (LQ.lit (z:=16) kD) oM) _ _ hs.g) ?_;rintro _ _ _ _ _ hs rfl;cases za:(decide ((cmpR ra ((16:Int):Rat):Int)≤(0:Int)))
 ·
  have zk:=oF za;refine eB 9 12 za (eV 10 13 qF (eV 11 14 qF (eG 12 15 (eG 13 16 (eG 14 17 (eG 15 18 (eV 16 19 qF (eV 17 20 qF (eG 18 21 (eG 19 22 (eG 20 23 (eG 21 24 (eG 22 25 (eV 23 26 qF (eV 24 27 qF (eG 25 28 (eG 26 29 (eG 27 30 (eV 28 31 qF (eV 29 32 qF (eG 30 33 (eG 31 34 (eG 32 35 (eV 33 36 qF (eV 34 37 qF (eG 35 38 (eG 36 39 (eG 37 40 (eV 38 41 qF (eV 39 42 qF (eG 40 43 (eG 41 44 (eG 42 45 (eV 43 46 qF (eV 44 47 qF (eG 45 48 (eG 46 49 (eG 47 50 (eV 48 51 qF (eV 49 52 qF (eG 50 53 (eG 51 54 (eG 52 55 (eV 53 56 qF (eD0 hs (fun _ _ hs=>tV 54 2 qF (tN (cTo [(2,qF)] ?_))))))))))))))))))))))))))))))))))))))))))))))));exact kX (hs.ret [] qF (congrArg Value.bool (decide_eq_false (by unfold fineD;omega)).symm))
 have zk:=oT za;refine eB 9 12 za (eV 10 13 qT (eV 11 14 qT (eV 12 15 (qP b1 5) (eO 13 16 [(0,5,5)] (qv ke) hs (eC 14 17 hs (fun _ _ hs=>fSign ke (LQ.mono hke oM) _ _ hs.g) ?_)))));rintro _ _ _ _ _ hs rfl;cases zb:(decide ((0:Int)≤(ke.num.sign:Int)))
 ·
  have zl:=oF zb;refine eB 15 18 zb (eV 16 19 qF (eV 17 20 qF (eG 18 21 (eG 19 22 (eG 20 23 (eG 21 24 (eG 22 25 (eV 23 26 qF (eV 24 27 qF (eG 25 28 (eG 26 29 (eG 27 30 (eV 28 31 qF (eV 29 32 qF (eG 30 33 (eG 31 34 (eG 32 35 (eV 33 36 qF (eV 34 37 qF (eG 35 38 (eG 36 39 (eG 37 40 (eV 38 41 qF (eV 39 42 qF (eG 40 43 (eG 41 44 (eG 42 45 (eV 43 46 qF (eV 44 47 qF (eG 45 48 (eG 46 49 (eG 47 50 (eV 48 51 qF (eV 49 52 qF (eG 50 53 (eG 51 54 (eG 52 55 (eV 53 56 qF (eD0 hs (fun _ _ hs=>tV 54 2 qF (tN (cTo [(2,qF)] ?_))))))))))))))))))))))))))))))))))))))))));exact kX (hs.ret [] qF (congrArg Value.bool (decide_eq_false (by unfold fineD;omega)).symm))
 have zl:=oT zb;refine eB 15 18 zb (eV 16 19 qT (eV 17 20 qT (eV 18 21 (qP b1 5) (eO 19 22 [(0,5,5)] (qv ke) hs (eC 20 23 hs (fun _ _ hs=>fOf 1 oM oM _ _ hs.g) ?_)))));rintro _ _ _ _ _ hs rfl;refine eC 21 24 hs (fun _ _ hs=>fCmp ke ((1:Int):Rat) (LQ.mono hke oM) (LQ.mono (LQ.lit (z:=1) kD) oM) _ _ hs.g) ?_;rintro _ _ _ _ _ hs rfl;cases zc:(decide ((cmpR ke ((1:Int):Rat):Int)<(0:Int)))
 ·
  have zm:=oF zc;refine eB 22 25 zc (eV 23 26 qF (eV 24 27 qF (eG 25 28 (eG 26 29 (eG 27 30 (eV 28 31 qF (eV 29 32 qF (eG 30 33 (eG 31 34 (eG 32 35 (eV 33 36 qF (eV 34 37 qF (eG 35 38 (eG 36 39 (eG 37 40 (eV 38 41 qF (eV 39 42 qF (eG 40 43 (eG 41 44 (eG 42 45 (eV 43 46 qF (eV 44 47 qF (eG 45 48 (eG 46 49 (eG 47 50 (eV 48 51 qF (eV 49 52 qF (eG 50 53 (eG 51 54 (eG 52 55 (eV 53 56 qF (eD0 hs (fun _ _ hs=>tV 54 2 qF (tN (cTo [(2,qF)] ?_)))))))))))))))))))))))))))))))))));exact kX (hs.ret [] qF (congrArg Value.bool (decide_eq_false (by unfold fineD;omega)).symm))
 have zm:=oT zc;refine eB 22 25 zc (eV 23 26 qT (eV 24 27 qT (eV 25 28 (qP b1 10) (eO 26 29 [(0,10,1)] (iV sp) hs ?_))));cases zd:(decide ((0:Int)≤(sp:Int)))
 ·
  have zn:=oF zd;refine eB 27 30 zd (eV 28 31 qF (eV 29 32 qF (eG 30 33 (eG 31 34 (eG 32 35 (eV 33 36 qF (eV 34 37 qF (eG 35 38 (eG 36 39 (eG 37 40 (eV 38 41 qF (eV 39 42 qF (eG 40 43 (eG 41 44 (eG 42 45 (eV 43 46 qF (eV 44 47 qF (eG 45 48 (eG 46 49 (eG 47 50 (eV 48 51 qF (eV 49 52 qF (eG 50 53 (eG 51 54 (eG 52 55 (eV 53 56 qF (eD0 hs (fun _ _ hs=>tV 54 2 qF (tN (cTo [(2,qF)] ?_))))))))))))))))))))))))))))));exact kX (hs.ret [] qF (congrArg Value.bool (decide_eq_false (by unfold fineD;omega)).symm))
 have zn:=oT zd;refine eB 27 30 zd (eV 28 31 qT (eV 29 32 qT (eV 30 33 (qP b1 10) (eO 31 34 [(0,10,1)] (iV sp) hs ?_))));cases ze:(decide ((sp:Int)≤(200:Int)))
 ·
  have zo:=oF ze;refine eB 32 35 ze (eV 33 36 qF (eV 34 37 qF (eG 35 38 (eG 36 39 (eG 37 40 (eV 38 41 qF (eV 39 42 qF (eG 40 43 (eG 41 44 (eG 42 45 (eV 43 46 qF (eV 44 47 qF (eG 45 48 (eG 46 49 (eG 47 50 (eV 48 51 qF (eV 49 52 qF (eG 50 53 (eG 51 54 (eG 52 55 (eV 53 56 qF (eD0 hs (fun _ _ hs=>tV 54 2 qF (tN (cTo [(2,qF)] ?_)))))))))))))))))))))))));exact kX (hs.ret [] qF (congrArg Value.bool (decide_eq_false (by unfold fineD;omega)).symm))
 have zo:=oT ze;refine eB 32 35 ze (eV 33 36 qT (eV 34 37 qT (eV 35 38 (qP b1 11) (eO 36 39 [(0,11,1)] (iV ba) hs ?_))));cases zf:(decide ((0:Int)≤(ba:Int)))
 ·
  have zp:=oF zf;refine eB 37 40 zf (eV 38 41 qF (eV 39 42 qF (eG 40 43 (eG 41 44 (eG 42 45 (eV 43 46 qF (eV 44 47 qF (eG 45 48 (eG 46 49 (eG 47 50 (eV 48 51 qF (eV 49 52 qF (eG 50 53 (eG 51 54 (eG 52 55 (eV 53 56 qF (eD0 hs (fun _ _ hs=>tV 54 2 qF (tN (cTo [(2,qF)] ?_))))))))))))))))))));exact kX (hs.ret [] qF (congrArg Value.bool (decide_eq_false (by unfold fineD;omega)).symm))
 have zp:=oT zf;refine eB 37 40 zf (eV 38 41 qT (eV 39 42 qT (eV 40 43 (qP b1 11) (eO 41 44 [(0,11,1)] (iV ba) hs ?_))));cases zg:(decide ((ba:Int)≤(300:Int)))
 ·
  have zq:=oF zg;refine eB 42 45 zg (eV 43 46 qF (eV 44 47 qF (eG 45 48 (eG 46 49 (eG 47 50 (eV 48 51 qF (eV 49 52 qF (eG 50 53 (eG 51 54 (eG 52 55 (eV 53 56 qF (eD0 hs (fun _ _ hs=>tV 54 2 qF (tN (cTo [(2,qF)] ?_)))))))))))))));exact kX (hs.ret [] qF (congrArg Value.bool (decide_eq_false (by unfold fineD;omega)).symm))
 have zq:=oT zg;refine eB 42 45 zg (eV 43 46 qT (eV 44 47 qT (eV 45 48 (qP b1 12) (eO 46 49 [(0,12,1)] (iV bi) hs ?_))));cases zi:(decide ((0:Int)≤(bi:Int)))
 ·
  have zr:=oF zi;refine eB 47 50 zi (eV 48 51 qF (eV 49 52 qF (eG 50 53 (eG 51 54 (eG 52 55 (eV 53 56 qF (eD0 hs (fun _ _ hs=>tV 54 2 qF (tN (cTo [(2,qF)] ?_))))))))));exact kX (hs.ret [] qF (congrArg Value.bool (decide_eq_false (by unfold fineD;omega)).symm))
 have zr:=oT zi;refine eB 47 50 zi (eV 48 51 qT (eV 49 52 qT (eV 50 53 (qP b1 12) (eO 51 54 [(0,12,1)] (iV bi) hs ?_))));cases zj:(decide ((bi:Int)≤(256:Int)))
 ·
  have zs:=oF zj;refine eB 52 55 zj (eV 53 56 qF (eD0 hs (fun _ _ hs=>tV 54 2 qF (tN (cTo [(2,qF)] ?_)))));exact kX (hs.ret [] qF (congrArg Value.bool (decide_eq_false (by unfold fineD;omega)).symm))
 have zs:=oT zj;refine eB 52 55 zj (eV 53 56 qT (eD0 hs (fun _ _ hs=>tV 54 2 qT (tN (cTo [(2,qT)] ?_)))));exact kX (hs.ret [] qT (congrArg Value.bool (decide_eq_true (by unfold fineD;omega)).symm))
structure Dif (M:List Nat) (w w0:World):Prop where
  mo:Mo M w w0
  sz:w0.heap.size=w.heap.size
theorem Dif.refl (M:List Nat)(w:World):Dif M w w:=⟨Mo.refl M w,rfl⟩
section frn
variable {w0 w w' wi:World} {h0 h h':Hp} {B:List Bx} {R:List Rw} {F:List (Hp→Prop)} {M:List Nat}
theorem own_ge {base:Nat}{ty:TypeId}{sz n:Nat}{v:Value}{cs:List Value}(o:w.ownsRow base ty sz v n cs){b:Nat}(hb:v.ownBlock=some b):base≤b:=by
  rcases o with ⟨_,⟨rfl,_⟩|⟨g,cap,cur,rfl,hbb,_⟩⟩
  · simp[Value.ownBlock] at hb
  · simp[Value.ownBlock] at hb;omega
theorem SS.frn (s:SS w0 h0 w h B R F)(hd:Dif M wi w0)(hM:∀ c∈M,h0[c]?=some junk)(u:UpM M w h w' h') :
    ∃ w0',Dif M wi w0'∧(∀ c,c<h0.size→w0'.heap[c]?=w'.heap[c]?)∧SS w0' h0 w' h' B R F:=by
  have hsz:w0.heap.size≤w'.heap.size:=Nat.le_trans s.st.up.ext.size u.mo.size;have hs0:=s.g0.size;have hlt:∀ c∈M,c<h0.size:=fun c hc=>lt_of_some (hM c hc)
  have hget:∀ c,c<w0.heap.size→(w'.heap.extract 0 w0.heap.size)[c]?=w'.heap[c]?:=fun c hc=>by
    rw[Array.getElem?_extract,if_pos oM];simp
  have hsame:∀ c,c<w0.heap.size→c ∉ M→w'.heap[c]?=w0.heap[c]?:=fun c hc hn=>(u.mo.blk c (Nat.lt_of_lt_of_le hc s.st.up.ext.size) hn).trans (Below.block s.st.up.ext c hc)
  have hx:(w'.heap.extract 0 w0.heap.size).size=w0.heap.size:=by simp;omega
  refine ⟨{ w0 with heap:=w'.heap.extract 0 w0.heap.size },⟨⟨hd.mo.os,hd.mo.tape,hd.mo.output,by show _≤(w'.heap.extract 0 w0.heap.size).size;rw[hx];exact hd.mo.size,fun c hc hn=>?_⟩,hx.trans hd.sz⟩,fun c hc=>hget c oM,⟨⟨hx.trans hs0,fun c=>?_⟩,⟨⟨⟨?_,?_,?_,?_,fun c hc=>?_⟩,s.st.up.gr.trans u.gr,u.g⟩,fun x hx'=>?_,fun x hx'=>?_,s.st.lo,s.st.nd⟩,fun r hr=>?_,s.ap,s.mo,s.f.gw s.mo u.gr.gw⟩⟩
  · have hc0:c<w0.heap.size:=Nat.lt_of_lt_of_le hc hd.mo.size
    show (w'.heap.extract 0 w0.heap.size)[c]?=_
    rw[hget c hc0,hsame c hc0 hn];exact hd.mo.blk c hc hn
  · show h0[c]?=(w'.heap.extract 0 w0.heap.size)[c]?∨_
    by_cases hm:c∈M
    · exact .inr (hM c hm)
    · by_cases hc:c<w0.heap.size
      · rw[hget c hc,hsame c hc hm];exact s.g0.blk c
      · rw[Array.getElem?_eq_none oM,Array.getElem?_eq_none (by rw[hx];omega)];exact .inl rfl
  · exact u.mo.os.trans s.st.up.ext.os
  · exact u.mo.tape.trans s.st.up.ext.tape
  · exact u.mo.output.trans s.st.up.ext.output
  · show (w'.heap.extract 0 w0.heap.size).size≤_;rw[hx];exact hsz
  · have hc':c<w0.heap.size:=by rw[←hx];exact hc
    exact (hget c hc').symm
  · have hlo:=s.st.lo x hx'
    show w'.heap[x.b]?=_
    rw[u.mo.blk x.b (s.st.own x hx').lt (fun hm=>by have:=hlt _ hm;omega)];exact s.st.own x hx'
  · rw[u.gr.blk _ (lt_of_some (s.st.jk x hx'))];exact s.st.jk x hx'
  · have r0:=s.ro r hr
    exact ⟨own_block r0.own (fun c hc=>u.mo.blk c (own_lt r0.own hc) (fun hm=>by have h1:=hlt _ hm;have h2:=own_ge r0.own hc;omega)),fun c hc=>(u.gr.blk c (r0.lt hc)).trans (r0.jk c hc),r0.ap⟩
theorem SS.upF (s:SS w0 h0 w h B R F)(hd:Dif M wi w0):UpM M wi h0 w h:=⟨hd.mo.trans (s.st.up.ext.mo M),s.st.up.gr,s.st.up.g⟩
theorem SS.fown (s:SS w0 h0 w h B R F){b:Nat}{t:TypeId}{vs:List Value}(o:Own w0 b t vs):Own w b t vs:=o.ext s.st.up.ext
theorem SS.fjk (s:SS w0 h0 w h B R F){b:Nat}(hj:h0[b]?=some junk):h[b]?=some junk:=(s.st.up.gr.blk _ (lt_of_some hj)).trans hj
theorem one_jk {b:Nat}(hj:h0[b]?=some junk):∀ c∈[b],h0[c]?=some junk:=fun c hc=>by rw[List.mem_singleton.1 hc];exact hj
end frn
section get
variable {P:Program} {n:Nat} {N R:Po} {X:Nat→Po} {ops:Array Oper} {k:Nat} {Γ:Env} {w:World} {h:Hp} {w0:World} {h0:Hp} {B:List Bx} {Rs:List Rw} {F:List (Hp→Prop)}
end get
section gete
variable {M:Ms} {P:Program} {n:Nat} {N R:Po} {X:Nat→Po} {ops:Array Oper} {k0:Nat} {hr:Hp} {AL:List Al} {L:Array Bool} {Γ:Env} {w:World} {h:Hp} {w0:World} {h0:Hp} {B:List Bx} {Rs:List Rw} {F:List (Hp→Prop)}
end gete
section ops
variable {P:Program} {Γ:Env} {o:Oper}
end ops
def ordG (dr:Nat→Nat→Nat × Nat):Nat→List Int→Nat→List Int × Nat
  | 0,l,s=>(l,s)
  | k+1,l,s=>ordG dr k ((l.set (k+1) (l.getD (dr (k+2) s).1 0)).set (dr (k+2) s).1 (l.getD (k+1) 0)) (dr (k+2) s).2
def orderG (dr:Nat→Nat→Nat × Nat)(n s:Nat):List Int × Nat:=ordG dr (n-1) ((List.range n).map fun i:Nat=>(i:Int)) s
theorem ord_step {dr:Nat→Nat→Nat × Nat}{k s:Nat}{l:List Int}(h:0<k):ordG dr k l s=ordG dr (k-1) ((l.set k (l.getD (dr (k+1) s).1 0)).set (dr (k+1) s).1 (l.getD k 0)) (dr (k+1) s).2:=by
  obtain ⟨m,rfl⟩:∃ m,k=m+1:=⟨k-1,by omega⟩
  rfl
theorem ord_fill {n:Nat}{l:List Int}(hl:l.length=n)(h:∀ i,i<n→l.getD i 0=(i:Int)):l=(List.range n).map fun i:Nat=>(i:Int):=by
  refine List.ext_getElem (by simp[hl]) fun i h1 h2=>?_
  have e:=h i oM;rw[List.getD_eq_getElem?_getD,List.getElem?_eq_getElem h1] at e
  rw[List.getElem_map,List.getElem_range];exact e
theorem getD_set_at {α:Type}{l:List α}{i:Nat}{x d:α}(h:i<l.length):(l.set i x).getD i d=x:=by
  rw[List.getD_eq_getElem?_getD,List.getElem?_set_self h];rfl
theorem getD_set_ne {α:Type}{l:List α}{i j:Nat}{x d:α}(h:i≠j):(l.set i x).getD j d=l.getD j d:=by
  rw[List.getD_eq_getElem?_getD,List.getElem?_set_ne h,←List.getD_eq_getElem?_getD]
theorem dDrawN (dr:Nat→Nat→Nat × Nat)(hdr:dr=belowq)(rbk n s:Nat)(hs_:s<18446744073709551616)(hn0:0<n)(hn:n<9223372036854775808)(w:World)(h:Hp)(g:G w h)(ho:Own w rbk 164 [mV s])(hj:h[rbk]?=some junk):Calls Tryz.prog 96 #[pB rbk,nV n] w (RetM rbk w h fun v w' _=>v=nV ((dr n s).1)∧Own w' rbk 164 [mV ((dr n s).2)]):=by
  subst hdr;exact dBelow rbk s n hs_ hn0 hn w h g ho hj
theorem dNew (s:Nat)(w:World)(h:Hp)(g:G w h):CR 55 #[mV s] w h (fun v h1=>∃ b,v=pB b∧h.size≤b∧h1[b]?=some (.cells [mV s].toArray 164 (0,0))):=by
 have hs:=sS g;refine go Tryz.func55 [(0,mV s)] rfl (cSL (lL hs [.v 2 (.pointer none)] (lNS (lL hs [.m 3 0,.v 4 (.agg #[mV s])] (lA 5 164 ([mV s]) hs (fun b1 w2 h3 hs=>lL hs [.m 2 5] (lN (kX ?_))))))));obtain ⟨hq,hs,sg_,lo_,bc_⟩:=hs.pub 0;exact hs.ret [] (pB b1) ⟨_,rfl,lo_,bc_⟩
theorem dOrder (dr:Nat→Nat→Nat × Nat)(hdr:dr=belowq)(rbk s n:Nat)(hs_:s<18446744073709551616)(hn0:0<n)(hn:n≤1000)(w:World)(h:Hp)(g:G w h)(ho:Own w rbk 164 [mV s])(hj:h[rbk]?=some junk):Calls Tryz.prog 56 #[pB rbk,nV n] w (RetM rbk w h fun v w' h1=>∃ (A:Option Addr) (c:Nat),v=.slice A (orderG dr n s).1.length c∧(orderG dr n s).1.length≤c∧Si A (orderG dr n s).1 h1∧Own w' rbk 164 [mV ((orderG dr n s).2)]):=by
 obtain ⟨wd,hdf,hO,hs⟩:∃ wd,Dif [rbk] w wd∧Own wd rbk 164 [mV s]∧SS wd h w h [] [] []:=⟨w,Dif.refl _ _,ho,sS g⟩;have hdl:∀ m s,0<m→s<18446744073709551616→(dr m s).1<m∧(dr m s).2<18446744073709551616:=fun m s h0 h=>hdr▸belowq_lt h0 h
 refine go Tryz.func56 [(0,pB rbk),(1,nV n)] rfl (cSL (lL hs [.v 4 (sZ)] (lN (cQ (cSL (lL hs [.m 10 1] ?_))))));have ⟨hb1,phb1⟩:=dF (p:=(n:Int)<(1:Int)) oM;refine lB 11 hb1 (lL hs [.m 12 11,.m 13 1] ?_);have ⟨hb2,phb2⟩:=dF (p:=(65536:Int)<(n:Int)) oM;refine lB 14 hb2 (lL hs [.v 15 qF] (lN (cIF (cK (cSL (lL hs [.m 16 1] (lK 17 3 n 1 8 (iV 0) i64c (0:Int) hs (fun b3 w4 h5 hs=>?_))))))));have hl6:(List.replicate n (0:Int)).length=n:=by simp
 refine lL hs [.m 5 17] (lN (cQ (cSL (lL hs [.m 18 5,.v 19 (nV n),.v 20 (iV 0)] (lN (kZ ?_))))));refine cTo _ (CG.loop (fun μ_ Γ w_=>∃ (k:Nat) (L:List Int) (h_:Hp),μ_=n-k∧Γ=[(0,pB rbk),(1,nV n),(4,sZ),(5,qS (sB b3) n n),(19,nV n),(20,nV k)]∧SS wd h w_ h_ [⟨b3,3,(L).flatMap i64c⟩] [] []∧k≤n∧L.length=n∧(∀ i,i<k→L.getD i 0=(i:Int))) _ ⟨0,List.replicate n (0:Int),h5,rfl,rfl,hs.to _ _,Nat.zero_le _,hl6,(fun i hi=>absurd hi (Nat.not_lt_zero i))⟩ ?_);rintro _ _ w7 ⟨k,L,h8,hm9,rfl,hs,hk,hlL,hF⟩;refine cSL ?_;cases za:(decide ((k:Int)<(n:Int)))
 ·
  have zc:=oF za;refine lB 21 za (lN (cQ (cIF (CG.exit ?_))))
  show CG _ _ _ _ _ _ _ _
  refine cSL (lL hs [.m 28 0,.v 29 (.func (.func 96) #[pB rbk] #[]),.m 7 29] (lN (cQ (cSL (lL hs [.m 30 1] (lIn 31 ((n:Nat)-1) (n-1) ?_))))));refine lL hs [.m 8 31] (lN (kZ ?_));refine cTo _ (CG.loop (fun μ_ Γ w_=>∃ (k:Nat) (L:List Int) (s1:Nat) (wd:World) (h_:Hp),μ_=k∧Γ=[(4,sZ),(5,qS (sB b3) n n),(7,.func (.func 96) #[pB rbk] #[]),(8,nV k)]∧SS wd h w_ h_ [⟨b3,3,(L).flatMap i64c⟩] [] []∧k≤n-1∧L.length=n∧ordG dr k L s1=orderG dr n s∧Dif [rbk] w wd∧Own wd rbk 164 [mV s1]∧s1<18446744073709551616) _ ⟨n-1,L,s,wd,h8,rfl,rfl,hs.to _ _,nR _,hlL,(by rw[ord_fill hlL (fun i hi=>hF i oM)];rfl),hdf,hO,hs_⟩ ?_);rintro _ _ _ ⟨k,L,s1,wd,_,hm13,rfl,hs,hk,hlL,hG,hdf,hO,hs1l⟩;refine cQ (cSL (lL hs [.m 32 8] ?_));cases zb:(decide ((1:Int)≤(k:Int)))
  ·
   have zd:=oF zb;refine lB 33 zb (lN (cIF (CG.exit ?_)))
   show CG _ _ _ _ _ _ _ _
   refine cSL (lL hs [.m 54 5,.m 4 54] (lN (kX ?_)));have hk0:k=0:=by omega
   subst hk0;have hG0:(L,s1)=orderG dr n s:=hG;obtain ⟨_,hs,sg16,lo17,bc18⟩:=hs.pub 0;replace hs:=(hs.to [] []).aS (SlO.of_flat (sz:=1) (f:=i64c) (d:=0) (b:=b3) (o:=0) (l:=L) (fun _=>rfl) sg16);exact hs.retM (hs.upF hdf) [] (qS (sB b3) n n) ⟨_,n,by rw[←hG0,hlL],by rw[←hG0,hlL];exact nR _,by rw[←hG0];exact hs.f.1,by rw[←hG0];exact hs.fown hO⟩
  have zd:=oT zb;refine lB 33 zb (lN (cIT (cK (cQ (kZ (cSL (lL hs [.m 36 7,.m 37 8] (lIn 38 ((k:Nat)+1) (k+1) ?_))))))));refine lCm 39 (dDrawN dr hdr rbk (k+1) s1 hs1l oM oM _ _ hs.g (hs.fown hO) (hs.fjk hj)) ?_;rintro _ _ _ u23 ⟨rfl,hox20⟩;obtain ⟨wd24,hd25,ze,hs⟩:=hs.frn hdf (one_jk hj) u23;have hO27:Own wd24 rbk 164 [mV ((dr (k+1) s1).2)]:=(ze _ (lt_of_some hj)).trans hox20;have hlx20:=(hdl (k+1) s1 oM hs1l).2;have hbx20:=(hdl (k+1) s1 oM hs1l).1;refine lL hs [.m 9 39] (lN (cR 12 [] mixed hs al_nil ?_));refine eV 0 40 (qS (sB b3) n n) (eV 1 41 (nV k) (eV 2 42 (qS (sB b3) n n) (eV 3 43 (nV ((dr (k+1) s1).1)) (eV 4 44 (qS (sB b3) n n) (eV 5 45 (nV ((dr (k+1) s1).1)) (eX 6 46 (sB b3) n n 1 ((dr (k+1) s1).1:Nat) ((dr (k+1) s1).1:Nat) rfl (eQ 7 47 0 L i64c 1 0 ((dr (k+1) s1).1:Nat) (iV ((L).getD ((dr (k+1) s1).1:Nat) 0)) hs oM (eV 8 48 (qS (sB b3) n n) (eV 9 49 (nV k) (eX 10 50 (sB b3) n n 1 (k:Nat) k rfl (eQ 11 51 0 L i64c 1 0 k (iV ((L).getD k 0)) hs oM (eD0 hs (fun _ zj hs=>tX 12 52 (sB b3) n n 1 (k:Nat) k rfl (tW 13 0 L i64c 1 k ((L).getD ((dr (k+1) s1).1:Nat) 0) hs oM (fun _ hs=>?_)))))))))))))));have zf:((L).set k ((L).getD ((dr (k+1) s1).1:Nat) 0)).length=n:=by rw[List.length_set];exact hlL
  replace hs:=hs.to [⟨b3,3,((L).set k ((L).getD ((dr (k+1) s1).1:Nat) 0)).flatMap i64c⟩] [];refine tX 14 53 (sB b3) n n 1 ((dr (k+1) s1).1:Nat) ((dr (k+1) s1).1:Nat) rfl (tW 15 0 ((L).set k ((L).getD ((dr (k+1) s1).1:Nat) 0)) i64c 1 ((dr (k+1) s1).1:Nat) ((L).getD k 0) hs oM (fun _ hs=>?_));have zg:(((L).set k ((L).getD ((dr (k+1) s1).1:Nat) 0)).set ((dr (k+1) s1).1:Nat) ((L).getD k 0)).length=n:=by rw[List.length_set];exact zf
  replace hs:=hs.to [⟨b3,3,(((L).set k ((L).getD ((dr (k+1) s1).1:Nat) 0)).set ((dr (k+1) s1).1:Nat) ((L).getD k 0)).flatMap i64c⟩] [];refine tN (kQ (lL hs [.m 34 8] (lIn 35 ((k:Nat)-1) (k-1) ?_)));refine lL hs [.m 8 35] (lD ?_);intro a_ ka;refine ⟨_,_,?_,⟨k-1,((L).set k ((L).getD ((dr (k+1) s1).1:Nat) 0)).set ((dr (k+1) s1).1:Nat) ((L).getD k 0),(dr (k+1) s1).2,wd24,zj,rfl,rfl,hs.to _ _,oM,zg,(by rw[←hG];exact (ord_step oM).symm),hd25,hO27,hlx20⟩,ka.to _ kR⟩
  omega
 have zc:=oT za;refine lB 21 za (lN (cQ (cIT (cK (cQ (kZ (cSL (lL hs [.m 22 20,.m 6 22] (lN (kQ (lL hs [.m 23 5,.m 24 6,.m 25 6] (lX 26 (sB b3) n n 1 (k:Nat) k rfl ?_))))))))))));refine lW 0 L i64c 1 k (k:Nat) hs oM (fun _ hs=>?_);have zi:((L).set k (k:Nat)).length=n:=by rw[List.length_set];exact hlL
 replace hs:=hs.to [⟨b3,3,((L).set k (k:Nat)).flatMap i64c⟩] [];refine lN (kQ (lIn 27 ((k:Nat)+1) (k+1) ?_));refine lL hs [.m 20 27] (lD ?_);intro a_ ka;refine ⟨_,_,?_,⟨k+1,(L).set k (k:Nat),h8,rfl,rfl,hs.to _ _,oM,zi,(fun i hi=>by by_cases e_:i=k;(subst e_;exact getD_set_at oM);rw[getD_set_ne (fun h_=>e_ h_.symm)];exact hF i oM)⟩,ka.to _ kR⟩
 omega
section sos
open Go.Maps Go.Sort Go.Shelf
def Tryz.sortedI_ren:Go.Shelf.Ren:=⟨fun|6=>57|8=>97|9=>98|11=>126|13=>128|12=>127|23=>156|24=>84|14=>147|15=>148|16=>149|17=>150|18=>151|19=>152|20=>153|21=>154|22=>155|25=>166|26=>167|27=>168|28=>169|29=>170|30=>171|31=>172|n=>n,fun|26=>3|28=>125|24=>22|0=>0|3=>3|37=>146|48=>145|50=>23|4=>4|40=>215|39=>214|45=>220|5=>5|9=>9|51=>229|55=>232|57=>235|58=>236|33=>166|n=>n,fun|n=>n⟩
theorem Tryz.sortedI:Go.Proofs.SlLaysZI.n6 Tryz.prog Tryz.sortedI_ren:={
  mixed:=by kernel_rfl
  f6:=⟨Tryz.f57.name,by decide,Tryz.func57.trans (congrArg some kR)⟩
  f8:=⟨Tryz.f97.name,by decide,Tryz.func97.trans (congrArg some kR)⟩
  f11:=⟨Tryz.f126.name,by decide,Tryz.func126.trans (congrArg some kR)⟩
  t0:=Tryz.underlying0
  a0:=Tryz.isAgg0
  z0:=Tryz.sizeOf0
  v0:=Tryz.zeroValue0
  t24:=Tryz.underlying22
  a24:=Tryz.isAgg22
  z24:=Tryz.sizeOf22
  v24:=Tryz.zeroValue22
  t26:=Tryz.underlying3
  a26:=Tryz.isAgg3
  z26:=Tryz.sizeOf3
  v26:=Tryz.zeroValue3
  t28:=Tryz.underlying125
  a28:=Tryz.isAgg125
  z28:=Tryz.sizeOf125
  v28:=Tryz.zeroValue125
  i26:=by kernel_rfl }
theorem sos_vals (n:Nat)(hn:1≤n)(l Bs n0 b off cap:Nat)(zs:List Int)(hreach:zs.length*8≤140737488351232)(hb:b<n0)(hBl:Bs<n0)(J:List Int→World→Prop)(Wz W:World)(hB:∀ pre W1,J pre W1→Below n0 Wz W1)
    (hY:∀ pre x W1,J pre W1→pre.length<zs.length→YieldAt Fence.wide (n-1) Tryz.prog l #[.int .i64 x] W1 fun e W'=>e=.returned (.bool true)∧J (pre++[x]) W')
    (hBs:Wz.cell? ⟨Bs,0,none⟩=some (.slice (some ⟨b,off,none⟩) zs.length cap))(hc:∀ j,j<zs.length→Wz.cell? ⟨b,off+j,none⟩=some (.int .i64 (zs[j]?.getD 0)))(h0:J [] W) :
    CallsIn Fence.wide n Tryz.prog 99 #[.func (.yield l) #[] #[],.pointer (some ⟨Bs,0,none⟩)] W fun e W'=>(∃ v,e=.returned v)∧J zs W':=by
  have hBw:W.cell? ⟨Bs,0,none⟩=some (.slice (some ⟨b,off,none⟩) zs.length cap):=((hB _ _ h0).cell (p:=⟨Bs,0,none⟩) hBl).trans hBs;obtain ⟨len,hlen⟩:∃ len,zs.length=len:=⟨_,rfl⟩;rw[hlen] at hBw hc hY hreach
  obtain ⟨f,hf⟩:∃ f:Nat→Int,∀ j,f j=zs[j]?.getD 0:=⟨_,fun _=>rfl⟩;have hcf:∀ j,j<len→Wz.cell? ⟨b,off+j,none⟩=some (.int .i64 (f j)):=fun j hj=>by rw[hf];exact hc j hj
  have htk:∀ k,k<len→zs.take k++[f k]=zs.take (k+1):=fun k hk=>by rw[hf,List.take_add_one,List.getElem?_eq_getElem oM];rfl
  have hlk:∀ k,k<len→(zs.take k).length<len:=fun k hk=>by rw[List.length_take];omega
  clear hc hf
  have hla:zs.take len=zs:=List.take_of_length_le oM
  clear hlen
  refine callsIn_of_wp Tryz.func99 rfl trivial ?_ rfl
  simp only[Tryz.ntmps99,List.size_toArray,List.length_cons,List.length_nil,Nat.reduceAdd,Nat.reduceSub,Array.replicate_succ,Array.replicate_zero,List.push_toArray,List.append_toArray,List.nil_append,List.cons_append]
  gi_wp2
  gi_loopw [7] (fun i wr=>∃ k:Nat,k≤len∧i=.int .i64 k∧J (zs.take k) wr)
    (fun i _=>len-(intOf i).toNat)
  case atStart=>exact ⟨0,Nat.zero_le _,rfl,h0⟩
  case round =>
    obtain ⟨k,hk,rfl,hJs⟩:=hrel;have hnx:=hB _ _ hJs
    by_cases hlt:k<len
    · have hcx':wr.cell? ⟨b,off+k,none⟩=some (.int .i64 (f k)):=(hnx.cell (p:=⟨b,off+k,none⟩) hb).trans (hcf k hlt)
      obtain ⟨fn,tmps,assign,body,hy,hR⟩:=hY _ (f k) wr hJs (hlk k hlt)
      gi_wp2
      refine hR.mono ?_;rintro e W3 ⟨rfl,hJ3⟩
      gi_wp2
      go_roundw
      case rel=>exact ⟨k+1,by omega,by simp,by rw[←htk k hlt];exact hJ3⟩
      case measure=>simp[intOf];omega
    · obtain rfl:k=len:=by omega
      gi_wp2
      go_end0
      exact ⟨⟨_,rfl⟩,by rw[hla] at hJs;exact hJs⟩
section app
variable {P:Program} {ρ:Go.Shelf.Ren}
theorem sos_append (L:SlLaysZI.n11 P ρ)(F:Fence)(n:Nat)(h11:F.fn (ρ.f 11))(hro:F.round=none)(hn:2≤n)(g:Nat)(lb:Array Value)(hFg:F.fn g)(eg:∀ args w,(callFunc g args).run P w=.ok (.enter g args) w)
    (zs:List Int)(hN:zs.length≤maxLen)(hNb:zs.length*8≤140737488355328)(w:World)
    (hseq:∀ (l:Nat) (J:List Int→World→Prop) (W:World),(∀ pre W1,J pre W1→Below w.heap.size w W1)→(∀ pre x W1,J pre W1→pre.length<zs.length→YieldAt F (n-1-1) P l #[encZ x] W1 fun e W'=>e=.returned (.bool true)∧J (pre++[x]) W')→J [] W →
      CallsIn F (n-1) P g (#[.func (.yield l) #[] #[]]++lb) W fun e W'=>(∃ v,e=.returned v)∧J zs W') :
    CallsIn F n P (ρ.f 11) #[.slice none 0 0,.func (.func g) #[] lb] w fun e w'=>∃ v:Value,e=.returned v∧w'.ownsRow w.heap.size (ρ.t 26) 1 v zs.length (zs.map encZ)∧Below w.heap.size w w':=by
  have h1:1≤n:=by omega
  have mixed:=L.mixed;have t0:=L.t0;have a0:=L.a0;have z0:=L.z0;have v0:=L.v0;have t24:=L.t24;have a24:=L.a24;have z24:=L.z24;have v24:=L.v24;have t26:=L.t26;have a26:=L.a26;have z26:=L.z26;have v26:=L.v26;have t28:=L.t28;have a28:=L.a28;have z28:=L.z28;have v28:=L.v28;have hne:ρ.t 24≠ρ.t 26:=fun e=>by have h:=L.t24;rw[e,L.t26] at h;cases h
  have u0:=run_underlying L.t0;have u24:=run_underlying L.t24;have u26:=run_underlying L.t26;have u28:=run_underlying L.t28;obtain ⟨_,_,FG⟩:=L.f11;refine callsIn_of_wp_marks FG rfl h11 ?_ hro
  simp only[SlBodyZ.n11_ntmps ρ,List.size_toArray,List.length_cons,List.length_nil,Nat.reduceAdd,Nat.reduceSub,Array.replicate_succ,Array.replicate_zero,List.push_toArray,List.append_toArray,List.nil_append,List.cons_append]
  gi_wp2
  refine wpIn_rangeFunc ?_;intro fn hfn;rw[hro];obtain ⟨W0,hW0⟩:∃ W0,w.alloc (.cells #[.slice none 0 0] (ρ.t 24))=W0:=⟨_,rfl⟩;have hs0:W0.heap.size=w.heap.size+1:=by rw[←hW0];simp
  have hv0:W0.heap[w.heap.size]?=some (.cells #[.slice none 0 0] (ρ.t 24) (0,0)):=by rw[←hW0];exact World.alloc_heap_new w _
  have hb0:Below w.heap.size w W0:=by rw[←hW0];exact (Below.refl _ w).alloc (Nat.le_refl _) _
  rw[hW0];obtain ⟨W1,hW1⟩:∃ W1,(W0.alloc (.deferred (some []))).alloc (.loop (AnyZI.apRec ρ fn (.func (.func g) #[] lb) w.heap.size W0.heap.size .ready none))=W1:=⟨_,rfl⟩
  have hold:∀ k,k<W0.heap.size→W1.heap[k]?=W0.heap[k]?:=fun k hk=>by
    rw[←hW1];exact (Below.heap_alloc _ _ k (by simp;omega)).trans (Below.heap_alloc _ _ k hk)
  have hb1:Below w.heap.size w W1:=by rw[←hW1];exact (hb0.alloc hb0.size _).alloc (by have:=hb0.size;simp;omega) _
  have hs1:W1.heap.size=W0.heap.size+2:=by rw[←hW1];simp
  have hM:AnyZI.ApAt ρ w fn (.func (.func g) #[] lb) w.heap.size (W0.heap.size+1) W0.heap.size [] W1 :=
    ⟨⟨_,(hold w.heap.size oM).trans hv0,⟨rfl,.inl ⟨rfl,rfl⟩⟩,by simp⟩,
     by rw[←hW1];have:=World.alloc_heap_new (W0.alloc (.deferred (some []))) (.loop (AnyZI.apRec ρ fn (.func (.func g) #[] lb) w.heap.size W0.heap.size .ready none));rwa [World.size_alloc] at this,
     by rw[←hW1];exact (Below.heap_alloc _ _ _ (by simp)).trans (World.alloc_heap_new W0 _),hb1⟩
  refine ⟨W0.heap.size+1,[{ target:=.collected W0.heap.size,args:=#[] }],W1,{ target:=.fn (.func g) lb,args:=#[.func (.yield (W0.heap.size+1)) #[] #[]] },W1,g,
    #[.func (.yield (W0.heap.size+1)) #[] #[]]++lb,W1,?_,?_,?_,?_,fun _=>h1,?_⟩
  · rw[←hW1];exact run_enterLoop_outer _ _ _ _ _
  · simp[resolve,go_sem]
  · intro f' hf';simp[Target.leads] at hf';subst hf';exact hFg
  · simp[invoke,go_sem,eg]
  · refine (hseq (W0.heap.size+1) (AnyZI.ApAt ρ w fn (.func (.func g) #[] lb) w.heap.size (W0.heap.size+1) W0.heap.size) W1 (fun _ _ hJ=>hJ.below)
      (fun pre x W hJ hl=>by
        obtain ⟨a,b,c,d,hy,hR⟩:=AnyZI.apYield { L with } F (n-1-1) w fn hfn _ w.heap.size (W0.heap.size+1) W0.heap.size oM oM oM (Nat.le_refl _) oM zs.length hN hNb pre x W hJ hl;exact ⟨a,b,c,d,hy,hR.mono fun e W' h=>⟨h.1,h.2.1⟩⟩) hM).mono ?_
    rintro e W2 ⟨⟨v0,rfl⟩,h2⟩;obtain ⟨v,hv,hrow,-⟩:=h2.box;have hend:=run_endLoop (P:=P) h2.L (by simp[AnyZI.apRec]);obtain ⟨W3,hW3⟩:∃ W3,W2.putObj (W0.heap.size+1) (.loop { AnyZI.apRec ρ fn (.func (.func g) #[] lb) w.heap.size W0.heap.size .ready none with state:=.exhausted })=W3:=⟨_,rfl⟩;rw[hW3] at hend
    have hg3:W2.grownBy W3 (some (W0.heap.size+1)):=by rw[←hW3];exact grownBy_putObj_a _ _ _
    have hv3:W3.heap[w.heap.size]?=some (.cells #[v] (ρ.t 24) (0,0)):=by rw[←hW3];exact (World.putObj_heap_other oM).trans hv
    have hK3:W3.heap[W0.heap.size]?=some (.deferred (some [])):=by rw[←hW3];exact (World.putObj_heap_other oM).trans h2.K
    have hrow3:=hrow.kept hg3 (ownsRow_ne_a hrow h2.L (fun cur e=>by first|cases e|exact hne (Obj.cells.inj e).2.1));have hb3:Below w.heap.size w W3:=h2.below.grown hg3 h2.below.size (fun k e=>by cases e;omega);obtain ⟨hc3,hf3⟩:=cell_of_box_a hv3
    clear hW3
    refine ⟨none,W3,hend,?_⟩
    gi_wp2
    rw[←hs0];refine ⟨by simp,.inl ⟨_,_,rfl,run_takeDeferred hK3,?_⟩⟩;exact ⟨_,results_tmp rfl _ _ _,v,rfl,hrow3.kept (grownBy_putObj_a _ _ _) (ownsRow_ne_a hrow3 hK3 (fun cur e=>by first|cases e|exact hne (Obj.cells.inj e).2.1)),hb3.grown (grownBy_putObj_a _ _ _) hb3.size (fun k e=>by cases e;omega)⟩
def SeqZ (P:Program)(F:Fence)(n:Nat)(g:Nat)(lb:Array Value)(zs:List Int)(w:World):Prop :=
  ∀ (l:Nat) (J:List Int→World→Prop) (W:World),(∀ pre W1,J pre W1→Below w.heap.size w W1)→(∀ pre x W1,J pre W1→pre.length<zs.length→YieldAt F (n-1) P l #[encZ x] W1 fun e W'=>e=.returned (.bool true)∧J (pre++[x]) W')→J [] W →
      CallsIn F n P g (#[.func (.yield l) #[] #[]]++lb) W fun e W'=>(∃ v,e=.returned v)∧J zs W'
theorem sos_collect (L:SlLaysZI.n8 P ρ)(F:Fence)(n:Nat)(h8:F.fn (ρ.f 8))(h11:F.fn (ρ.f 11))(hro:F.round=none)(hn:3≤n)(g:Nat)(lb:Array Value)(hFg:F.fn g)(eg:∀ args w,(callFunc g args).run P w=.ok (.enter g args) w)
    (zs:List Int)(hN:zs.length≤maxLen)(hNb:zs.length*8≤140737488355328)(w:World)(hseq:SeqZ P F (n-1-1) g lb zs w) :
    CallsIn F n P (ρ.f 8) #[.func (.func g) #[] lb] w fun e w'=>∃ v:Value,e=.returned v∧w'.ownsRow w.heap.size (ρ.t 26) 1 v zs.length (zs.map encZ)∧Below w.heap.size w w':=by
  have h1:1≤n:=by omega
  have e11:∀ args w,(callFunc (ρ.f 11) args).run P w=.ok (.enter (ρ.f 11) args) w:=L.f11.enters rfl;have mixed:=L.mixed;have t0:=L.t0;have a0:=L.a0;have z0:=L.z0;have v0:=L.v0;have t24:=L.t24;have a24:=L.a24;have z24:=L.z24;have v24:=L.v24;have t26:=L.t26;have a26:=L.a26;have z26:=L.z26;have v26:=L.v26;have t28:=L.t28;have a28:=L.a28;have z28:=L.z28;have v28:=L.v28;have u0:=run_underlying L.t0;have u24:=run_underlying L.t24;have u26:=run_underlying L.t26;have u28:=run_underlying L.t28;obtain ⟨_,_,FG⟩:=L.f8;refine callsIn_of_wp FG rfl h8 ?_ hro
  simp only[SlBodyZ.n8_ntmps ρ,List.size_toArray,List.length_cons,List.length_nil,Nat.reduceAdd,Nat.reduceSub,Array.replicate_succ,Array.replicate_zero,List.push_toArray,List.append_toArray,List.nil_append,List.cons_append]
  gi_wp2_with (gi_at_fn (ρ.f 11);refine (sos_append { L with } F (n-1) h11 hro oM g lb hFg eg zs hN hNb _ hseq).mono ?_;rintro e w' ⟨v,rfl,hrow,hb⟩)
  go_ret
  exact ⟨v,rfl,hrow,hb⟩
theorem sos_sorted (L:SlLaysZI.n6 P ρ)(F:Fence)(n:Nat)(h6:F.fn (ρ.f 6))(h8:F.fn (ρ.f 8))(h9:F.fn (ρ.f 9))(h11:F.fn (ρ.f 11))(hro:F.round=none)(hn:4≤n)(hsort:AnyZI.SortsIn P ρ F (n-1))(e9:∀ args w,(callFunc (ρ.f 9) args).run P w=.ok (.enter (ρ.f 9) args) w)
    (g:Nat)(lb:Array Value)(hFg:F.fn g)(eg:∀ args w,(callFunc g args).run P w=.ok (.enter g args) w)
    (zs:List Int)(hN:zs.length≤1000000)(w:World)(hseq:SeqZ P F (n-1-1-1) g lb zs w) :
    CallsIn F n P (ρ.f 6) #[.func (.func g) #[] lb] w fun e w'=>∃ v:Value,e=.returned v ∧
      w'.ownsRow w.heap.size (ρ.t 26) 1 v zs.length ((zs.mergeSort (fun x y=>decide (x≤y))).map encZ)∧Below w.heap.size w w':=by
  have h1:1≤n:=by omega
  have e8:∀ args w,(callFunc (ρ.f 8) args).run P w=.ok (.enter (ρ.f 8) args) w:=L.f8.enters rfl;have mixed:=L.mixed;have t0:=L.t0;have a0:=L.a0;have z0:=L.z0;have v0:=L.v0;have t24:=L.t24;have a24:=L.a24;have z24:=L.z24;have v24:=L.v24;have t26:=L.t26;have a26:=L.a26;have z26:=L.z26;have v26:=L.v26;have t28:=L.t28;have a28:=L.a28;have z28:=L.z28;have v28:=L.v28;have u0:=run_underlying L.t0;have u24:=run_underlying L.t24;have u26:=run_underlying L.t26;have u28:=run_underlying L.t28;obtain ⟨_,_,FG⟩:=L.f6;refine callsIn_of_wp FG rfl h6 ?_ hro
  simp only[SlBodyZ.n6_ntmps ρ,List.size_toArray,List.length_cons,List.length_nil,Nat.reduceAdd,Nat.reduceSub,Array.replicate_succ,Array.replicate_zero,List.push_toArray,List.append_toArray,List.nil_append,List.cons_append]
  gi_wp2_with (gi_at_fn (ρ.f 8);refine (sos_collect { L with } F (n-1) h8 h11 hro oM g lb hFg eg zs (Nat.le_trans hN kD) oM _ hseq).mono ?_;rintro e W ⟨v,rfl,hrow,hb⟩)
  rcases hrow.2 with ⟨rfl,hz⟩|⟨gb,cap,cur,rfl,hbase,hgb,r1,r2,r3,r4⟩
  · have hss:zs=[]:=List.eq_nil_of_length_eq_zero hz
    subst hss
    gi_wp2_with (gi_at_fn (ρ.f 9);refine (hsort.2 none 0 W).mono ?_;rintro e w' ⟨rfl,rfl⟩)
    go_ret
    exact ⟨.slice none 0 0,rfl,by simpa using hrow,hb⟩
  · have hH:Holds encZ W gb 0 zs.toArray:=holds_of_block_i hgb (by simpa using r4)
    have hgl:gb<W.heap.size:=(Array.getElem?_eq_some_iff.1 hgb).1;have hsz:zs.length<4611686018427387904:=by omega
    have cS:=hsort.1 gb 0 cap zs W hH hgl hsz
    gi_wp2_with (gi_at_fn (ρ.f 9);refine cS.mono ?_;rintro e w' ⟨rfl,nn,os,rfl⟩)
    go_ret
    exact ⟨_,rfl,ownsRow_sorted_i (by simp) hbase hgb r1 r2 r3,hb.grown (grownBy_sorted_i _) hb.size (fun j hj=>by cases hj;exact hbase)⟩
end app
theorem sos_sorts (m:Nat):AnyZI.SortsIn Tryz.prog Tryz.sortedI_ren Fence.wide m :=
  ⟨fun blk off cap ss W hH hblk hsz=>callsIn_wide.2 (Tryz.slices_Sort_int blk off cap ss W hH hblk hsz),fun p cap W=>callsIn_wide.2 (Tryz.slices_Sort_int_none p cap W)⟩
theorem lift_new {w w':World}{h:Hp}(g:G w h)(x:Ext w w'):∃ h',Up w h w' h'∧∀ b,h.size≤b→h'[b]?=w'.heap[b]?:=by
  have hs:=x.size;have e0:=g.size
  have key:∀ b,h.size≤b→(h++w'.heap.extract h.size w'.heap.size)[b]?=w'.heap[b]?:=fun b hb=>by
    rw[Array.getElem?_append_right hb,Array.getElem?_extract]
    by_cases hl:b<w'.heap.size
    · rw[if_pos oM];congr 1;omega
    · rw[if_neg oM,Array.getElem?_eq_none oM]
  refine ⟨h++w'.heap.extract h.size w'.heap.size,⟨x,⟨by simp,fun b hb=>Array.getElem?_append_left hb⟩,⟨by simp;omega,fun b=>?_⟩⟩,key⟩
  rcases Nat.lt_or_ge b h.size with hb|hb
  · rw[Array.getElem?_append_left hb]
    have e:=Below.block x b oM
    rcases g.blk b with h1|h1
    · exact .inl (h1.trans e.symm)
    · exact .inr h1
  · exact .inl (key b hb)
theorem hcell_lt {h:Hp}{b i:Nat}{v:Value}(e:hcell h b i=some v):b<h.size:=by
  rcases Nat.lt_or_ge b h.size with h1|h1
  · exact h1
  · unfold hcell at e
    rw[Array.getElem?_eq_none h1] at e
    cases e
theorem cSorted (b:Nat)(A:Option Addr)(c:Nat)(zs:List Int)(hz0:0<zs.length)(hl:zs.length≤1000000)(w:World)(h:Hp)(g:G w h)(hb:Seg h b 0 [.slice A zs.length c])(hA:Si A zs h):CR 57 #[.func (.func 99) #[] #[pB b]] w h (fun v h1=>∃ (A:Option Addr) (c:Nat),v=.slice A zs.length c∧zs.length≤c∧Si A (zs.mergeSort fun x y=>decide (x≤y)) h1):=by
  have e0:=g.size;have hb0:hcell h b 0=some (qS A zs.length c):=hb 0 _ rfl
  have hcl:∀ j,j<zs.length→hcell h (aB A) (aO A+j)=some (iV (zs[j]?.getD 0)):=fun j hj=>by
    have e:=hA.el j hj 0 (iV (zs.getD j 0)) rfl;rw[Nat.mul_one,Nat.add_zero,List.getD_eq_getElem?_getD] at e
    exact e
  have hbl:=hcell_lt hb0;have hal:=hcell_lt (hcl 0 hz0);have hBs:=hcell_w g hb0;rw[hA.ok hz0] at hBs
  have hseq:SeqZ Tryz.prog Fence.wide 3 99 #[pB b] zs w:=fun l J W hB hY h0 =>
    sos_vals 3 kD l b w.heap.size (aB A) (aO A) c zs oM oM oM J w W hB hY hBs (fun j hj=>hcell_w g (hcl j hj)) h0
  have cS:=sos_sorted Tryz.sortedI Fence.wide 6 trivial trivial trivial trivial rfl kD (sos_sorts _) (enters_of Tryz.func98 kR rfl) 99 #[pB b] trivial (enters_of Tryz.func99 kR rfl) zs hl w hseq
  change CallsIn _ _ Tryz.prog 57 _ _ _ at cS
  refine (callsIn_wide.1 cS).mono ?_;rintro e w' ⟨v,rfl,⟨-,⟨-,hz⟩|⟨gb,cap,cur,rfl,hbase,hgb,r1,-,-,r4⟩⟩,hx⟩
  · omega
  · obtain ⟨h',u,key⟩:=lift_new g hx
    refine ⟨_,h',rfl,u,sB gb,cap,rfl,r1,SlO.of_flat (sz:=1) (f:=i64c) (d:=0) (b:=gb) (o:=0) (fun _=>rfl) fun i v hv=>?_⟩
    have hf:∀ l:List Int,l.flatMap i64c=l.map encZ:=fun l=>by
      induction l with
      | nil=>rfl
      | cons x l ih=>rw[List.flatMap_cons,ih];rfl
    rw[hf,←r4,Nat.mul_one] at hv
    have hv2:cur.toList[i]?=some v:=by
      rw[List.getElem?_take] at hv
      split at hv
      · exact hv
      · cases hv
    unfold hcell
    rw[key gb oM,hgb,Nat.zero_add]
    show cur[i]?=some v
    rw[←Array.getElem?_toList];exact hv2
end sos
def rngI (m:Nat):List Int:=(List.range m).map fun i:Nat=>(i:Int)
def ordS (dr:Nat→Nat→Nat × Nat)(m sd:Nat):Nat→List Int × Nat
  | 0=>([],sd)
  | j+1=>orderG dr m (ordS dr m sd j).2
def batL (dr:Nat→Nat→Nat × Nat)(ba sd m k:Nat):List Int:=if ba=0∨m≤ba then rngI m else (((ordS dr m sd (k+1)).1).take ba).mergeSort fun x y=>decide (x≤y)
theorem batL_all {dr:Nat→Nat→Nat × Nat}{ba sd m k:Nat}(h:ba=0∨m≤ba):batL dr ba sd m k=rngI m:=if_pos h
theorem batL_some {dr:Nat→Nat→Nat × Nat}{ba sd m k:Nat}(h:¬(ba=0∨m≤ba)):batL dr ba sd m k=(((ordS dr m sd (k+1)).1).take ba).mergeSort fun x y=>decide (x≤y):=if_neg h
def fltL (l:List Int)(ba:Nat):Nat→List Int
  | 0=>[]
  | i+1=>if ba=0∨l.idxOf (i:Int)<ba then fltL l ba i++[(i:Int)] else fltL l ba i
theorem fltL_succ (l:List Int)(ba i:Nat):fltL l ba (i+1)=if ba=0∨l.idxOf (i:Int)<ba then fltL l ba i++[(i:Int)] else fltL l ba i:=rfl
theorem fltL_len (l:List Int)(ba:Nat):∀ i,(fltL l ba i).length≤i
  | 0=>Nat.le_refl _
  | i+1=>by
    have h:=fltL_len l ba i;rw[fltL_succ]
    split
    · rw[List.length_append];exact Nat.succ_le_succ h
    · exact Nat.le_succ_of_le h
theorem rngI_len (m:Nat):(rngI m).length=m:=by simp[rngI]
theorem set_swap_perm {l:List Int}{a b:Nat}(ha:a<l.length)(hb:b<l.length):((l.set a (l.getD b 0)).set b (l.getD a 0)).Perm l:=by
  have e1:l.getD b 0=l[b]:=by rw[List.getD_eq_getElem?_getD,List.getElem?_eq_getElem hb];rfl
  have e2:l.getD a 0=l[a]:=by rw[List.getD_eq_getElem?_getD,List.getElem?_eq_getElem ha];rfl
  rw[e1,e2];exact List.set_set_perm ha hb
theorem ordG_perm {dr:Nat→Nat→Nat × Nat}(hdr:dr=belowq):∀ (k:Nat) (l:List Int) (s:Nat),s<18446744073709551616→k<l.length→(ordG dr k l s).1.Perm l∧(ordG dr k l s).2<18446744073709551616
  | 0,l,s,hs,_=>⟨List.Perm.refl _,hs⟩
  | k+1,l,s,hs,hk=>by
    have hb:(dr (k+2) s).1<k+2∧(dr (k+2) s).2<18446744073709551616:=by rw[hdr];exact belowq_lt oM hs
    obtain ⟨h1,h2⟩:=ordG_perm hdr k ((l.set (k+1) (l.getD (dr (k+2) s).1 0)).set (dr (k+2) s).1 (l.getD (k+1) 0)) (dr (k+2) s).2 hb.2 (by rw[List.length_set,List.length_set];omega);exact ⟨h1.trans (set_swap_perm hk oM),h2⟩
theorem orderG_perm {dr:Nat→Nat→Nat × Nat}(hdr:dr=belowq){m s:Nat}(hm:0<m)(hs:s<18446744073709551616):(orderG dr m s).1.Perm (rngI m)∧(orderG dr m s).2<18446744073709551616:=ordG_perm hdr (m-1) (rngI m) s hs (by rw[rngI_len];omega)
theorem ordS_lt {dr:Nat→Nat→Nat × Nat}(hdr:dr=belowq){m sd:Nat}(hs:sd<18446744073709551616)(hm:0<m):∀ j,(ordS dr m sd j).2<18446744073709551616
  | 0=>hs
  | j+1=>(orderG_perm hdr hm (ordS_lt hdr hs hm j)).2
theorem ordS_perm {dr:Nat→Nat→Nat × Nat}(hdr:dr=belowq){m sd:Nat}(hs:sd<18446744073709551616)(hm:0<m)(j:Nat):(ordS dr m sd (j+1)).1.Perm (rngI m):=(orderG_perm hdr hm (ordS_lt hdr hs hm j)).1
theorem ordS_len {dr:Nat→Nat→Nat × Nat}(hdr:dr=belowq){m sd:Nat}(hs:sd<18446744073709551616)(hm:0<m)(j:Nat):(ordS dr m sd (j+1)).1.length=m:=(ordS_perm hdr hs hm j).length_eq.trans (rngI_len m)
theorem slo_take {h:Hp}{A:Option Addr}{l:List Int}{b:Nat}(s:SlO 1 i64c 0 h A l):SlO 1 i64c 0 h A (l.take b):=by
  refine ⟨fun h0=>s.ok (by rw[List.length_take] at h0;omega),fun k hk=>?_⟩;rw[List.length_take] at hk
  have e:(l.take b).getD k 0=l.getD k 0:=by rw[List.getD_eq_getElem?_getD,List.getElem?_take,if_pos oM,←List.getD_eq_getElem?_getD]
  rw[e];exact s.el k oM
theorem dFineT (ra ke:Rat)(sp ba bi:Int)(sd:Nat)(hra:LQ 100000000 ra)(hke:LQ 100000000 ke)(hF:fineD ra ke sp ba bi)(w:World)(h:Hp)(g:G w h):CV 24 #[.agg #[.bool (ineg ra.num),uV (lo (iabs ra.num)),.string (hi (iabs ra.num)),uV (lo (qd ra)),.string (hi (qd ra)),.bool (ineg ke.num),uV (lo (iabs ke.num)),.string (hi (iabs ke.num)),uV (lo (qd ke)),.string (hi (qd ke)),iV sp,iV ba,iV bi,mV sd]] w h (.bool true):=by
  have x:=dFine ra ke sp ba bi sd hra hke w h g;rw[decide_eq_true hF] at x
  exact x
theorem dValues (A:Option Addr)(n c:Nat)(w:World)(h:Hp)(g:G w h):CR 58 #[.slice A n c] w h (fun v h1=>∃ b,v=.func (.func 99) #[] #[pB b]∧Seg h1 b 0 [.slice A n c]):=by
 have hs:=sS g;refine go Tryz.func58 [(0,qS A n c)] rfl (cSL (lA 1 22 ([qS A n c]) hs (fun b1 w2 h3 hs=>lL hs [.v 2 .nilFunc] (lNS (lL hs [.v 3 (.func (.func 99) #[] #[pB b1]),.m 2 3] (lN (kX ?_)))))));obtain ⟨hq,hs,sg_,lo_,bc_⟩:=hs.pub 0;exact hs.ret [] (.func (.func 99) #[] #[pB b1]) ⟨_,rfl,sg_⟩
theorem dSomeF (ra ke:Rat)(sp bi:Int)(ba sd m k:Nat)(hra:LQ 100000000 ra)(hke:LQ 100000000 ke)(dr:Nat→Nat→Nat × Nat)(hdr:dr=belowq)(hsd:sd<18446744073709551616)(hF:fineD ra ke sp (ba:Nat) bi)(hm0:0<m)(hm:m≤300)(hk:k≤200)(w:World)(h:Hp)(g:G w h):CR 29 #[.agg #[.bool (ineg ra.num),uV (lo (iabs ra.num)),.string (hi (iabs ra.num)),uV (lo (qd ra)),.string (hi (qd ra)),.bool (ineg ke.num),uV (lo (iabs ke.num)),.string (hi (iabs ke.num)),uV (lo (qd ke)),.string (hi (qd ke)),iV sp,nV ba,iV bi,mV sd],nV m,nV k] w h (fun v h1=>∃ A c,v=.slice A (batL dr ba sd m k).length c∧(batL dr ba sd m k).length≤c∧Si A (batL dr ba sd m k) h1):=by
 have hs:=sS g;have hF2:=hF
 unfold fineD at hF2
 refine go Tryz.func29 [(0,.agg #[.bool (ineg ra.num),uV (lo (iabs ra.num)),.string (hi (iabs ra.num)),uV (lo (qd ra)),.string (hi (qd ra)),.bool (ineg ke.num),uV (lo (iabs ke.num)),.string (hi (iabs ke.num)),uV (lo (qd ke)),.string (hi (qd ke)),iV sp,nV ba,iV bi,mV sd]),(1,nV m),(2,nV k)] rfl (cSL (lA 3 52 ([.bool (ineg ra.num),uV (lo (iabs ra.num)),.string (hi (iabs ra.num)),uV (lo (qd ra)),.string (hi (qd ra)),.bool (ineg ke.num),uV (lo (iabs ke.num)),.string (hi (iabs ke.num)),uV (lo (qd ke)),.string (hi (qd ke)),iV sp,nV ba,iV bi,mV sd]) hs (fun b1 w2 h3 hs=>lL hs [.v 6 (sZ)] (lN (cQ (cSL (lL hs [.m 11 1] ?_)))))));have ⟨hb4,phb4⟩:=dF (p:=(m:Int)<(1:Int)) oM;refine lB 12 hb4 (lL hs [.m 13 12,.m 14 1] ?_);have ⟨hb5,phb5⟩:=dF (p:=(300:Int)<(m:Int)) oM;refine lB 15 hb5 (lL hs [.v 16 qF,.m 17 16,.m 18 2] ?_);have ⟨hb6,phb6⟩:=dF (p:=(k:Int)<(0:Int)) oM;refine lB 19 hb6 (lL hs [.v 20 qF,.m 21 20,.m 22 2] ?_);have ⟨hb7,phb7⟩:=dF (p:=(200:Int)<(k:Int)) oM;refine lB 23 hb7 (lL hs [.v 24 qF,.m 25 24,.o 26 (.agg #[.bool (ineg ra.num),uV (lo (iabs ra.num)),.string (hi (iabs ra.num)),uV (lo (qd ra)),.string (hi (qd ra)),.bool (ineg ke.num),uV (lo (iabs ke.num)),.string (hi (iabs ke.num)),uV (lo (qd ke)),.string (hi (qd ke)),iV sp,nV ba,iV bi,mV sd]) 0 0 14] (lC 27 hs (dFineT ra ke sp (ba:Nat) bi sd hra hke hF _ _ hs.g) ?_));rintro _ w8 h9 hs rfl;refine lL hs [.v 28 qF,.v 29 qF] (lN (cIF (cK (cQ (cSL (lL hs [.v 30 (qP b1 11),.o 31 (nV ba) 0 11 1] ?_))))));cases zc:((ba:Int) == (0:Int))
 ·
  have zi:=neOfBeq zc;refine lB 32 zc (lL hs [.m 33 32,.v 34 (qP b1 11),.o 35 (nV ba) 0 11 1,.m 36 1] ?_);cases zd:(decide ((m:Int)≤(ba:Int)))
  ·
   have zj:=oF zd;refine lB 37 zd (lL hs [.v 38 qF] (lN (cIF (cK (cSL (lL hs [.v 52 (qP b1 13),.o 53 (mV sd) 0 13 1] (lCu 54 (dNew sd _ _ hs.g) ?_)))))));rintro _ _ _ u14 ⟨bd,rfl,lod,bcd⟩;obtain ⟨_,hs,-,-⟩:=hs.take u14 lod bcd;replace hs:=hs.to [⟨bd,164,[mV ((ordS dr m sd 0).2)]⟩,⟨b1,52,[.bool (ineg ra.num),uV (lo (iabs ra.num)),.string (hi (iabs ra.num)),uV (lo (qd ra)),.string (hi (qd ra)),.bool (ineg ke.num),uV (lo (iabs ke.num)),.string (hi (iabs ke.num)),uV (lo (qd ke)),.string (hi (qd ke)),iV sp,nV ba,iV bi,mV sd]⟩] [];refine lL hs [.m 9 54] (lNS (lL hs [.m 55 9,.m 56 1] (lCm 57 (dOrder dr hdr bd ((ordS dr m sd 0).2) m (ordS_lt hdr hsd hm0 0) hm0 oM _ _ hs.g (hs.own 0) (hs.jk 0)) ?_)));rintro _ _ zr u19 ⟨Aq16,cq16,rfl,hcq16,hAq16,hOq16⟩;replace hs:=(hs.stepM 0 u19 hOq16).to [⟨bd,164,[mV ((ordS dr m sd (0+1)).2)]⟩,⟨b1,52,[.bool (ineg ra.num),uV (lo (iabs ra.num)),.string (hi (iabs ra.num)),uV (lo (qd ra)),.string (hi (qd ra)),.bool (ineg ke.num),uV (lo (iabs ke.num)),.string (hi (iabs ke.num)),uV (lo (qd ke)),.string (hi (qd ke)),iV sp,nV ba,iV bi,mV sd]⟩] [];replace hs:=hs.aS hAq16;refine lL hs [.m 10 57] (lN (cTo [(1,nV m),(2,nV k),(3,pB b1),(6,sZ),(9,pB bd),(10,qS Aq16 ((ordS dr m sd (0+1)).1.length) cq16)] ?_));refine cQ (cSL (lL hs [.m 58 2,.v 59 (iV 0)] (lN (kZ ?_))));replace hs:=hs.aS hs.f.1;refine cTo _ (CG.loop (fun μ_ Γ w_=>∃ (j:Nat) (Aj:Option Addr) (cj:Nat) (h_:Hp),μ_=k-j∧Γ=[(1,nV m),(3,pB b1),(6,sZ),(9,pB bd),(58,nV k),(59,nV j),(10,qS Aj ((ordS dr m sd (j+1)).1.length) cj)]∧SS w h w_ h_ [⟨bd,164,[mV ((ordS dr m sd (j+1)).2)]⟩,⟨b1,52,[.bool (ineg ra.num),uV (lo (iabs ra.num)),.string (hi (iabs ra.num)),uV (lo (qd ra)),.string (hi (qd ra)),.bool (ineg ke.num),uV (lo (iabs ke.num)),.string (hi (iabs ke.num)),uV (lo (qd ke)),.string (hi (qd ke)),iV sp,nV ba,iV bi,mV sd]⟩] [] [Si Aj (ordS dr m sd (j+1)).1,Si Aq16 (ordS dr m sd (0+1)).1]∧j≤k∧(ordS dr m sd (j+1)).1.length≤cj) _ ⟨0,Aq16,cq16,zr,rfl,rfl,hs.to _ _,Nat.zero_le _,hcq16⟩ ?_);rintro _ _ _ ⟨j,Aj,cj,_,hm22,rfl,hs,hj,hcj⟩;refine cSL ?_;cases ze:(decide ((j:Int)<(k:Int)))
   ·
    have zk:=oF ze;refine lB 60 ze (lN (cQ (cIF (CG.exit ?_))))
    show CG _ _ _ _ _ _ _ _
    refine cSL (lL hs [.m 65 10,.v 66 (qP b1 11)] ?_);have hlo:=ordS_len hdr hsd hm0 j;have hlt:((ordS dr m sd (j+1)).1.take ba).length=ba:=by rw[List.length_take];omega
    refine lL hs [.o 67 (nV ba) 1 11 1] (lT 68 Aj ((ordS dr m sd (j+1)).1.length) cj 1 (ba:Nat) ba ?_);refine lC 69 hs (dValues Aj ba cj _ _ hs.g) ?_;rintro _ _ _ hs ⟨bv,rfl,hbv⟩;replace hs:=(hs.a_Seg hbv);refine lC 70 hs (cSorted bv Aj cj ((ordS dr m sd (j+1)).1.take ba) (by rw[hlt];omega) (by rw[hlt];omega) _ _ hs.g (by rw[hlt];exact hs.f.1) (slo_take hs.f.2.1)) ?_;rintro _ _ _ hs ⟨As,cs,rfl,hcs,hAs⟩;replace hs:=hs.aS hAs;exact lL hs [.m 6 70] (lN (kX (hs.ret [] (qS As (((ordS dr m sd (j+1)).1.take ba).length) cs) (by rw[batL_some oM,show k+1=j+1 by omega];exact ⟨_,_,by rw[List.length_mergeSort],by rw[List.length_mergeSort];exact hcs,hs.f.1⟩))))
   have zk:=oT ze;refine lB 60 ze (lN (cQ (cIT (cK (cQ (kZ (kQ (lL hs [.m 61 9,.m 62 1] (lCm 63 (dOrder dr hdr bd ((ordS dr m sd (j+1)).2:Nat) m (ordS_lt hdr hsd hm0 (j+1)) hm0 oM _ _ hs.g (hs.own 0) (hs.jk 0)) ?_)))))))));rintro _ _ zs u31 ⟨Aq28,cq28,rfl,hcq28,hAq28,hOq28⟩;replace hs:=(hs.stepM 0 u31 hOq28).to [⟨bd,164,[mV ((ordS dr m sd ((j+1)+1)).2)]⟩,⟨b1,52,[.bool (ineg ra.num),uV (lo (iabs ra.num)),.string (hi (iabs ra.num)),uV (lo (qd ra)),.string (hi (qd ra)),.bool (ineg ke.num),uV (lo (iabs ke.num)),.string (hi (iabs ke.num)),uV (lo (qd ke)),.string (hi (qd ke)),iV sp,nV ba,iV bi,mV sd]⟩] [];replace hs:=hs.aS hAq28;refine lL hs [.m 10 63] (lN (kQ (lIn 64 ((j:Nat)+1) (j+1) ?_)));refine lL hs [.m 59 64] (lD ?_);intro a_ ka;replace hs:=(hs.tl.tl.aS hs.f.1);refine ⟨_,_,?_,⟨j+1,Aq28,cq28,zs,rfl,rfl,hs.to _ _,oM,hcq28⟩,ka.to _ kR⟩
   omega
  have zj:=oT zd;refine lB 37 zd (lL hs [.v 38 qT] (lN (cIT (cSL (lL hs [.m 39 1] (lK 40 3 m 1 8 (iV 0) i64c (0:Int) hs (fun za _ zt hs=>?_)))))));have zn:(List.replicate m (0:Int)).length=m:=by simp
  refine lL hs [.m 7 40] (lN (cQ (cSL (lL hs [.m 41 7,.v 42 (nV m),.v 43 (iV 0)] (lN (kZ ?_))))));refine cTo _ (CG.loop (fun μ_ Γ w_=>∃ (j:Nat) (L:List Int) (h_:Hp),μ_=m-j∧Γ=[(1,nV m),(2,nV k),(3,pB b1),(6,sZ),(7,qS (sB za) m m),(42,nV m),(43,nV j)]∧SS w h w_ h_ [⟨za,3,(L).flatMap i64c⟩,⟨b1,52,[.bool (ineg ra.num),uV (lo (iabs ra.num)),.string (hi (iabs ra.num)),uV (lo (qd ra)),.string (hi (qd ra)),.bool (ineg ke.num),uV (lo (iabs ke.num)),.string (hi (iabs ke.num)),uV (lo (qd ke)),.string (hi (qd ke)),iV sp,nV ba,iV bi,mV sd]⟩] [] []∧j≤m∧L.length=m∧(∀ i_,i_<j→L.getD i_ 0=(i_:Int))) _ ⟨0,List.replicate m (0:Int),zt,rfl,rfl,hs.to _ _,Nat.zero_le _,zn,(fun i_ hi=>absurd hi (Nat.not_lt_zero i_))⟩ ?_);rintro _ _ _ ⟨j,L,zu,hm41,rfl,hs,hj,hlL,hFl⟩;refine cSL ?_;cases zf:(decide ((j:Int)<(m:Int)))
  ·
   have zl:=oF zf;refine lB 44 zf (lN (cQ (cIF (CG.exit ?_))))
   show CG _ _ _ _ _ _ _ _
   refine cSL (lL hs [.m 51 7,.m 6 51] (lN (kX ?_)));have hjm:j=m:=by omega
   have hLf:L=rngI m:=ord_fill hlL (fun i_ hi=>hFl i_ oM);obtain ⟨_,hs,sg44,lo45,bc46⟩:=hs.pub 0;replace hs:=(hs.to [⟨b1,52,[.bool (ineg ra.num),uV (lo (iabs ra.num)),.string (hi (iabs ra.num)),uV (lo (qd ra)),.string (hi (qd ra)),.bool (ineg ke.num),uV (lo (iabs ke.num)),.string (hi (iabs ke.num)),uV (lo (qd ke)),.string (hi (qd ke)),iV sp,nV ba,iV bi,mV sd]⟩] []).aS (SlO.of_flat (sz:=1) (f:=i64c) (d:=0) (b:=za) (o:=0) (l:=L) (fun _=>rfl) sg44);exact hs.ret [] (qS (sB za) m m) (by rw[batL_all oM,←hLf];exact ⟨_,_,by rw[hlL],by rw[hlL];exact nR _,hs.f.1⟩)
  have zl:=oT zf;refine lB 44 zf (lN (cQ (cIT (cK (cQ (kZ (cSL (lL hs [.m 45 43,.m 8 45] (lN (kQ (lL hs [.m 46 7,.m 47 8,.m 48 8] (lX 49 (sB za) m m 1 (j:Nat) j rfl ?_))))))))))));refine lW 0 L i64c 1 j (j:Nat) hs oM (fun _ hs=>?_);have zo:((L).set j (j:Nat)).length=m:=by rw[List.length_set];exact hlL
  replace hs:=hs.to [⟨za,3,((L).set j (j:Nat)).flatMap i64c⟩,⟨b1,52,[.bool (ineg ra.num),uV (lo (iabs ra.num)),.string (hi (iabs ra.num)),uV (lo (qd ra)),.string (hi (qd ra)),.bool (ineg ke.num),uV (lo (iabs ke.num)),.string (hi (iabs ke.num)),uV (lo (qd ke)),.string (hi (qd ke)),iV sp,nV ba,iV bi,mV sd]⟩] [];refine lN (kQ (lIn 50 ((j:Nat)+1) (j+1) ?_));refine lL hs [.m 43 50] (lD ?_);intro a_ ka;refine ⟨_,_,?_,⟨j+1,(L).set j (j:Nat),zu,rfl,rfl,hs.to _ _,oM,zo,(fun i_ hi=>by by_cases e_:i_=j;(subst e_;exact getD_set_at oM);rw[getD_set_ne (fun h_=>e_ h_.symm)];exact hFl i_ oM)⟩,ka.to _ kR⟩
  omega
 have zi:=eq_of_beq zc;refine lB 32 zc (lL hs [.m 33 32] (lG 34 ?_));refine lG 35 (lG 36 (lG 37 (lL hs [.v 38 qT] (lN (cIT (cSL (lL hs [.m 39 1] (lK 40 3 m 1 8 (iV 0) i64c (0:Int) hs (fun zb _ zv hs=>?_)))))))));have zp:(List.replicate m (0:Int)).length=m:=by simp
 refine lL hs [.m 7 40] (lN (cQ (cSL (lL hs [.m 41 7,.v 42 (nV m),.v 43 (iV 0)] (lN (kZ ?_))))));refine cTo _ (CG.loop (fun μ_ Γ w_=>∃ (j:Nat) (L:List Int) (h_:Hp),μ_=m-j∧Γ=[(1,nV m),(2,nV k),(3,pB b1),(6,sZ),(7,qS (sB zb) m m),(42,nV m),(43,nV j)]∧SS w h w_ h_ [⟨zb,3,(L).flatMap i64c⟩,⟨b1,52,[.bool (ineg ra.num),uV (lo (iabs ra.num)),.string (hi (iabs ra.num)),uV (lo (qd ra)),.string (hi (qd ra)),.bool (ineg ke.num),uV (lo (iabs ke.num)),.string (hi (iabs ke.num)),uV (lo (qd ke)),.string (hi (qd ke)),iV sp,nV ba,iV bi,mV sd]⟩] [] []∧j≤m∧L.length=m∧(∀ i_,i_<j→L.getD i_ 0=(i_:Int))) _ ⟨0,List.replicate m (0:Int),zv,rfl,rfl,hs.to _ _,Nat.zero_le _,zp,(fun i_ hi=>absurd hi (Nat.not_lt_zero i_))⟩ ?_);rintro _ _ _ ⟨j,L,zw,hm59,rfl,hs,hj,hlL,hFl⟩;refine cSL ?_;cases zg:(decide ((j:Int)<(m:Int)))
 ·
  have zm:=oF zg;refine lB 44 zg (lN (cQ (cIF (CG.exit ?_))))
  show CG _ _ _ _ _ _ _ _
  refine cSL (lL hs [.m 51 7,.m 6 51] (lN (kX ?_)));have hjm:j=m:=by omega
  have hLf:L=rngI m:=ord_fill hlL (fun i_ hi=>hFl i_ oM);obtain ⟨_,hs,sg62,lo63,bc64⟩:=hs.pub 0;replace hs:=(hs.to [⟨b1,52,[.bool (ineg ra.num),uV (lo (iabs ra.num)),.string (hi (iabs ra.num)),uV (lo (qd ra)),.string (hi (qd ra)),.bool (ineg ke.num),uV (lo (iabs ke.num)),.string (hi (iabs ke.num)),uV (lo (qd ke)),.string (hi (qd ke)),iV sp,nV ba,iV bi,mV sd]⟩] []).aS (SlO.of_flat (sz:=1) (f:=i64c) (d:=0) (b:=zb) (o:=0) (l:=L) (fun _=>rfl) sg62);exact hs.ret [] (qS (sB zb) m m) (by rw[batL_all oM,←hLf];exact ⟨_,_,by rw[hlL],by rw[hlL];exact nR _,hs.f.1⟩)
 have zm:=oT zg;refine lB 44 zg (lN (cQ (cIT (cK (cQ (kZ (cSL (lL hs [.m 45 43,.m 8 45] (lN (kQ (lL hs [.m 46 7,.m 47 8,.m 48 8] (lX 49 (sB zb) m m 1 (j:Nat) j rfl ?_))))))))))));refine lW 0 L i64c 1 j (j:Nat) hs oM (fun _ hs=>?_);have zq:((L).set j (j:Nat)).length=m:=by rw[List.length_set];exact hlL
 replace hs:=hs.to [⟨zb,3,((L).set j (j:Nat)).flatMap i64c⟩,⟨b1,52,[.bool (ineg ra.num),uV (lo (iabs ra.num)),.string (hi (iabs ra.num)),uV (lo (qd ra)),.string (hi (qd ra)),.bool (ineg ke.num),uV (lo (iabs ke.num)),.string (hi (iabs ke.num)),uV (lo (qd ke)),.string (hi (qd ke)),iV sp,nV ba,iV bi,mV sd]⟩] [];refine lN (kQ (lIn 50 ((j:Nat)+1) (j+1) ?_));refine lL hs [.m 43 50] (lD ?_);intro a_ ka;refine ⟨_,_,?_,⟨j+1,(L).set j (j:Nat),zw,rfl,rfl,hs.to _ _,oM,zq,(fun i_ hi=>by by_cases e_:i_=j;(subst e_;exact getD_set_at oM);rw[getD_set_ne (fun h_=>e_ h_.symm)];exact hFl i_ oM)⟩,ka.to _ kR⟩
 omega
def sig (f:Nat→Rat):Nat→Rat
  | 0=>0
  | n+1=>sig f n+f n
theorem sig_congr {f g:Nat→Rat}:∀ {n:Nat},(∀ i,i<n→f i=g i)→sig f n=sig g n
  | 0,_=>rfl
  | n+1,h=>by
    show sig f n+f n=sig g n+g n
    rw[sig_congr (fun i hi=>h i oM),h n oM]
theorem sig_lin (f g:Nat→Rat)(c:Rat):∀ n,sig (fun i=>f i+c*g i) n=sig f n+c*sig g n
  | 0=>by show (0:Rat)=0+c*0;grind
  | n+1=>by
    show sig _ n+(f n+c*g n)=(sig f n+f n)+c*(sig g n+g n)
    rw[sig_lin f g c n];grind
theorem sig_zero {f:Nat→Rat}:∀ {n:Nat},(∀ i,i<n→f i=0)→sig f n=0
  | 0,_=>rfl
  | n+1,h=>by
    show sig f n+f n=0
    rw[sig_zero (fun i hi=>h i oM),h n oM];grind
theorem sig_mul (c:Rat)(f:Nat→Rat):∀ n,sig (fun i=>c*f i) n=c*sig f n
  | 0=>by show (0:Rat)=c*0;grind
  | n+1=>by
    show sig _ n+c*f n=c*(sig f n+f n)
    rw[sig_mul c f n];grind
theorem sig_add (f g:Nat→Rat):∀ n,sig (fun i=>f i+g i) n=sig f n+sig g n
  | 0=>by show (0:Rat)=0+0;grind
  | n+1=>by
    show sig _ n+(f n+g n)=(sig f n+f n)+(sig g n+g n)
    rw[sig_add f g n];grind
theorem sig_swap (f:Nat→Nat→Rat)(m:Nat):∀ n,sig (fun i=>sig (fun j=>f i j) m) n=sig (fun j=>sig (fun i=>f i j) n) m
  | 0=>by
    show (0:Rat)=sig (fun _=>0) m
    rw[sig_zero (f:=fun _=>0) (fun i _=>rfl)]
  | n+1=>by
    show sig _ n+sig (fun j=>f n j) m=sig (fun j=>sig (fun i=>f i j) n+f n j) m
    rw[sig_swap f m n,sig_add]
theorem sig_le {f g:Nat→Rat}:∀ {n:Nat},(∀ i,i<n→f i≤g i)→sig f n≤sig g n
  | 0,_=>Rat.le_refl
  | n+1,h=>by
    have h1:=sig_le (fun i hi=>h i oM:∀ i,i<n→f i≤g i);have h2:=h n oM
    show sig f n+f n≤sig g n+g n
    grind
theorem sq_nn (a:Rat):0≤a*a:=by
  rcases Rat.le_total (a:=0) (b:=a) with h|h
  · exact Rat.mul_nonneg h h
  · have h2:0 ≤ -a:=by grind
    have:=Rat.mul_nonneg h2 h2
    grind
theorem sig_nn {f:Nat→Rat}:∀ {n:Nat},(∀ i,i<n→0≤f i)→0≤sig f n
  | 0,_=>Rat.le_refl
  | n+1,h=>by
    have h1:=sig_nn (fun i hi=>h i oM:∀ i,i<n→0≤f i);have h2:=h n oM
    show 0≤sig f n+f n
    grind
theorem sig_one (n:Nat):sig (fun _=>1) n=((n:Nat):Rat):=by
  induction n with
  | zero=>rfl
  | succ n ih=>show sig _ n+1=_;rw[ih];simp
theorem sig_pick {n j:Nat}(f:Nat→Rat)(hj:j<n):sig (fun i=>(if i=j then 1 else 0)*f i) n=f j:=by
  induction n with
  | zero=>omega
  | succ n ih =>
    show sig _ n+(if n=j then 1 else 0)*f n=f j
    by_cases e:n=j
    · subst e
      rw[if_pos rfl,sig_zero (fun i hi=>by rw[if_neg oM];grind)];grind
    · rw[if_neg e,ih oM];grind
def dt (n:Nat)(u v:Nat→Rat):Rat:=sig (fun i=>u i*v i) n
theorem dt_comm (n:Nat)(u v:Nat→Rat):dt n u v=dt n v u:=sig_congr (fun i _=>Rat.mul_comm _ _)
theorem dt_lin (n:Nat)(u w v:Nat→Rat)(c:Rat):dt n (fun i=>u i+c*w i) v=dt n u v+c*dt n w v:=by
  unfold dt
  rw[←sig_lin];exact sig_congr (fun i _=>by grind)
theorem dt_nn (n:Nat)(v:Nat→Rat):0≤dt n v v:=sig_nn (fun i _=>sq_nn (v i))
theorem dt_congr {n:Nat}{u u' v v':Nat→Rat}(h:∀ i,i<n→u i=u' i)(h2:∀ i,i<n→v i=v' i):dt n u v=dt n u' v':=sig_congr (fun i hi=>by rw[h i hi,h2 i hi])
def rest_ (v:Nat→Nat→Rat)(n j:Nat):Nat→Nat→Rat
  | 0=>fun i=>if i=j then 1 else 0
  | m+1=>fun i=>rest_ v n j m i+(-(v m j/dt n (v m) (v m)))*v m i
section
variable {v:Nat→Nat→Rat} {n m:Nat} (ho:∀ i,i<m→∀ k,k<i→dt n (v i) (v k)=0) (hz:∀ i,i<m→dt n (v i) (v i)≠0)
include ho hz
omit hz in
theorem rest_dt {j:Nat}(hj:j<n):∀ k,k≤m→∀ i,k≤i→i<m→dt n (rest_ v n j k) (v i)=v i j
  | 0,_,i,_,hi=>sig_pick (v i) hj
  | k+1,hk,i,hki,hi=>by
    show dt n (fun i=>rest_ v n j k i+(-(v k j/dt n (v k) (v k)))*v k i) (v i)=_
    rw[dt_lin,rest_dt hj k oM i oM hi,dt_comm n (v k) (v i),ho i hi k oM];grind
theorem rest_sq {j:Nat}(hj:j<n):∀ k,k≤m→dt n (rest_ v n j k) (rest_ v n j k)=1-sig (fun i=>v i j*v i j/dt n (v i) (v i)) k
  | 0,_=>by
    show sig (fun i=>(if i=j then 1 else 0)*(if i=j then 1 else 0)) n=1-0
    rw[sig_pick (fun i=>if i=j then 1 else 0) hj,if_pos rfl];grind
  | k+1,hk=>by
    have h1:=rest_sq hj k oM;have h2:=rest_dt ho hj k oM k (Nat.le_refl _) oM;have h3:=hz k oM
    show dt n (fun i=>rest_ v n j k i+(-(v k j/dt n (v k) (v k)))*v k i) (fun i=>rest_ v n j k i+(-(v k j/dt n (v k) (v k)))*v k i)=1-(sig _ k+v k j*v k j/dt n (v k) (v k))
    have e1:dt n (rest_ v n j k) (fun i=>rest_ v n j k i+(-(v k j/dt n (v k) (v k)))*v k i)=dt n (rest_ v n j k) (rest_ v n j k)+(-(v k j/dt n (v k) (v k)))*v k j:=by rw[dt_comm,dt_lin,dt_comm n (v k) (rest_ v n j k),h2]
    have e2:dt n (v k) (fun i=>rest_ v n j k i+(-(v k j/dt n (v k) (v k)))*v k i)=v k j+(-(v k j/dt n (v k) (v k)))*dt n (v k) (v k):=by rw[dt_comm,dt_lin,h2]
    rw[dt_lin,e1,e2,h1]
    grind
theorem orth_le:m≤n:=by
  have h1:∀ j,j<n→sig (fun i=>v i j*v i j/dt n (v i) (v i)) m≤1:=fun j hj=>by
    have h2:=rest_sq ho hz hj m (Nat.le_refl _);have h3:=dt_nn n (rest_ v n j m);rw[h2] at h3
    grind
  have h2:=sig_le (n:=n) (g:=fun _=>1) h1;rw[sig_one,←sig_swap (fun i j=>v i j*v i j/dt n (v i) (v i)) n m] at h2
  rw[sig_congr (g:=fun _=>1) (fun i hi=>?_),sig_one] at h2
  · rw[←Rat.intCast_natCast,←Rat.intCast_natCast] at h2
    have h3:((m:Int):Rat)≤((n:Int):Rat):=h2;have:=Rat.intCast_le_intCast.1 h3
    omega
  · have h3:=hz i hi
    rw[sig_congr (g:=fun j=>(1/dt n (v i) (v i))*(v i j*v i j)) (fun j _=>by grind),sig_mul]
    show 1/dt n (v i) (v i)*dt n (v i) (v i)=1
    grind
end
def mv (n:Nat)(A:Nat→Nat→Rat)(x:Nat→Rat):Nat→Rat:=fun i=>sig (fun j=>A i j*x j) n
theorem mv_lin (n:Nat)(A:Nat→Nat→Rat)(u w:Nat→Rat)(c:Rat)(i:Nat):mv n A (fun j=>u j+c*w j) i=mv n A u i+c*mv n A w i:=by
  unfold mv
  rw[←sig_lin];exact sig_congr (fun j _=>by grind)
theorem mv_sym {n:Nat}{A:Nat→Nat→Rat}(hA:∀ i,i<n→∀ j,j<n→A i j=A j i)(u v:Nat→Rat):dt n u (mv n A v)=dt n v (mv n A u):=by
  unfold dt mv
  rw[sig_congr (g:=fun i=>sig (fun j=>u i*(A i j*v j)) n) (fun i _=>(sig_mul _ _ _).symm),sig_swap,
    sig_congr (f:=fun i=>v i*sig (fun j=>A i j*u j) n) (g:=fun i=>sig (fun j=>v i*(A i j*u j)) n) (fun i _=>(sig_mul _ _ _).symm)]
  exact sig_congr (fun j hj=>sig_congr (fun i hi=>by rw[hA i hi j hj];grind))
structure Cst where
  x:Nat→Rat
  r:Nat→Rat
  w:Nat→Rat
section
variable (n:Nat) (A:Nat→Nat→Rat) (b:Nat→Rat)
def cgK (s:Cst):Rat:=dt n s.r s.r/dt n s.w (mv n A s.w)
def cgX (s:Cst):Nat→Rat:=fun i=>s.x i+s.w i*cgK n A s
def cgR (x:Nat→Rat):Nat→Rat:=fun i=>b i+mv n A x i*((-1:Int):Rat)
def cgN (s:Cst):Cst:=⟨cgX n A s,cgR n A b (cgX n A s),fun i=>cgR n A b (cgX n A s) i+s.w i*(dt n (cgR n A b (cgX n A s)) (cgR n A b (cgX n A s))/dt n s.r s.r)⟩
def cg (x:Nat→Rat):Nat→Cst
  | 0=>⟨x,cgR n A b x,cgR n A b x⟩
  | t+1=>cgN n A b (cg x t)
end
section
variable {n:Nat} {A:Nat→Nat→Rat} {b x:Nat→Rat}
theorem cg_r (t:Nat):(cg n A b x t).r=cgR n A b (cg n A b x t).x:=by cases t<;>rfl
theorem cg_rec (t i:Nat):(cg n A b x (t+1)).r i=(cg n A b x t).r i+(-cgK n A (cg n A b x t))*mv n A (cg n A b x t).w i:=by
  rw[cg_r (t+1),cg_r t]
  show b i+mv n A (fun j=>(cg n A b x t).x j+(cg n A b x t).w j*cgK n A (cg n A b x t)) i*((-1:Int):Rat)=_
  have e:mv n A (fun j=>(cg n A b x t).x j+(cg n A b x t).w j*cgK n A (cg n A b x t)) i=mv n A (cg n A b x t).x i+cgK n A (cg n A b x t)*mv n A (cg n A b x t).w i:=by
    rw[←mv_lin];unfold mv;exact sig_congr (fun j _=>by grind)
  rw[e]
  unfold cgR
  rw[show ((-1:Int):Rat) = -1 from rfl]
  grind
def Goes (n:Nat)(A:Nat→Nat→Rat)(b x:Nat→Rat)(t:Nat):Prop:=dt n (cg n A b x t).r (cg n A b x t).r≠0∧dt n (cg n A b x t).w (mv n A (cg n A b x t).w)≠0
structure Orth (n:Nat) (A:Nat→Nat→Rat) (b x:Nat→Rat) (t:Nat):Prop where
  rr:∀ j,j≤t→∀ i,i<j→dt n (cg n A b x j).r (cg n A b x i).r=0
  ww:∀ j,j≤t→∀ i,i<j→dt n (cg n A b x j).w (mv n A (cg n A b x i).w)=0
  rw_:∀ j,j≤t→∀ i,i<j→dt n (cg n A b x j).r (cg n A b x i).w=0
  own:∀ j,j≤t→dt n (cg n A b x j).r (cg n A b x j).w=dt n (cg n A b x j).r (cg n A b x j).r
theorem cg_w (t i:Nat):(cg n A b x (t+1)).w i=(cg n A b x (t+1)).r i+(dt n (cg n A b x (t+1)).r (cg n A b x (t+1)).r/dt n (cg n A b x t).r (cg n A b x t).r)*(cg n A b x t).w i:=by
  show (cg n A b x (t+1)).r i+(cg n A b x t).w i*_=_
  rw[Rat.mul_comm];rfl
theorem orth_all (hA:∀ i,i<n→∀ j,j<n→A i j=A j i):∀ t,(∀ i,i<t→Goes n A b x i)→Orth n A b x t
  | 0,_=>⟨fun j hj i hi=>by omega,fun j hj i hi=>by omega,fun j hj i hi=>by omega,fun j hj=>by
      obtain rfl:j=0:=by omega
      rfl⟩
  | t + 1,hg=>by
    have O:=orth_all hA t (fun i hi=>hg i oM);obtain ⟨g1,g2⟩:=hg t oM;obtain ⟨r,hr⟩:∃ r,r=(cg n A b x (t+1)).r:=⟨_,rfl⟩;obtain ⟨k,hk⟩:∃ k,k=cgK n A (cg n A b x t):=⟨_,rfl⟩;have hkf:k*dt n (cg n A b x t).w (mv n A (cg n A b x t).w)=dt n (cg n A b x t).r (cg n A b x t).r:=by rw[hk];unfold cgK;grind
    have e1:∀ v,dt n r v=dt n (cg n A b x t).r v+(-k)*dt n (mv n A (cg n A b x t).w) v:=fun v=>by
      rw[←dt_lin,hr,hk];exact dt_congr (fun i _=>cg_rec t i) (fun _ _=>rfl)
    have h3:∀ i,i≤t→dt n r (cg n A b x i).w=0:=fun i hi=>by
      rw[e1,dt_comm n (mv n A _),mv_sym hA]
      by_cases e:i=t
      · subst e
        rw[O.own i (Nat.le_refl _)];grind
      · rw[O.rw_ t (Nat.le_refl _) i oM,O.ww t (Nat.le_refl _) i oM];grind
    have h1:∀ i,i≤t→dt n r (cg n A b x i).r=0:=fun i hi=>by
      cases i with
      | zero=>exact h3 0 hi
      | succ i =>
        have e2:dt n r (cg n A b x (i+1)).r=dt n r (cg n A b x (i+1)).w+(-(dt n (cg n A b x (i+1)).r (cg n A b x (i+1)).r/dt n (cg n A b x i).r (cg n A b x i).r))*dt n r (cg n A b x i).w:=by
          rw[dt_comm n r,dt_comm n r (cg n A b x (i+1)).w,dt_comm n r (cg n A b x i).w,←dt_lin];exact dt_congr (fun j _=>by rw[cg_w];grind) (fun _ _=>rfl)
        rw[e2,h3 (i+1) hi,h3 i oM];grind
    have hA_:∀ i,i≤t→cgK n A (cg n A b x i)*dt n r (mv n A (cg n A b x i).w)=dt n r (cg n A b x i).r+(-1)*dt n r (cg n A b x (i+1)).r:=fun i _=>by
      have e3:dt n (cg n A b x (i+1)).r r=dt n (cg n A b x i).r r+(-cgK n A (cg n A b x i))*dt n (mv n A (cg n A b x i).w) r:=by
        rw[←dt_lin];exact dt_congr (fun j _=>cg_rec i j) (fun _ _=>rfl)
      rw[dt_comm n r (cg n A b x (i+1)).r,e3,dt_comm n r (cg n A b x i).r,dt_comm n r (mv n A _)];grind
    have h2:∀ i,i≤t→dt n (cg n A b x (t+1)).w (mv n A (cg n A b x i).w)=0:=fun i hi=>by
      obtain ⟨q1,q2⟩:=hg i oM;have hki:cgK n A (cg n A b x i)≠0:=by unfold cgK;grind
      have e4:dt n (cg n A b x (t+1)).w (mv n A (cg n A b x i).w)=dt n r (mv n A (cg n A b x i).w)+(dt n r r/dt n (cg n A b x t).r (cg n A b x t).r)*dt n (cg n A b x t).w (mv n A (cg n A b x i).w):=by
        rw[←dt_lin,hr];exact dt_congr (fun j _=>cg_w t j) (fun _ _=>rfl)
      have e5:=hA_ i hi;rw[h1 i hi] at e5
      rw[e4]
      by_cases e:i=t
      · subst e
        rw[←hk] at e5
        rw[←hr] at e5
        have hk0:k≠0:=by rw[hk];exact hki
        have e6:dt n r (mv n A (cg n A b x i).w) = -(dt n r r)/k:=by grind
        have e7:dt n (cg n A b x i).w (mv n A (cg n A b x i).w)=dt n (cg n A b x i).r (cg n A b x i).r/k:=by grind
        rw[e6,e7];grind
      · rw[O.ww t (Nat.le_refl _) i oM]
        rw[h1 (i+1) oM] at e5
        have e6:dt n r (mv n A (cg n A b x i).w)=0:=by grind
        rw[e6];grind
    refine ⟨fun j hj i hi=>?_,fun j hj i hi=>?_,fun j hj i hi=>?_,fun j hj=>?_⟩
    · by_cases e:j≤t
      · exact O.rr j e i hi
      · obtain rfl:j=t+1:=by omega
        rw[←hr];exact h1 i oM
    · by_cases e:j≤t
      · exact O.ww j e i hi
      · obtain rfl:j=t+1:=by omega
        exact h2 i oM
    · by_cases e:j≤t
      · exact O.rw_ j e i hi
      · obtain rfl:j=t+1:=by omega
        rw[←hr];exact h3 i oM
    · by_cases e:j≤t
      · exact O.own j e
      · obtain rfl:j=t+1:=by omega
        have e8:dt n (cg n A b x (t+1)).r (cg n A b x (t+1)).w=dt n r r+(dt n r r/dt n (cg n A b x t).r (cg n A b x t).r)*dt n (cg n A b x t).w r:=by
          rw[←dt_lin,dt_comm,hr];exact dt_congr (fun j _=>cg_w t j) (fun _ _=>rfl)
        rw[e8,dt_comm n (cg n A b x t).w r,h3 t (Nat.le_refl _),←hr];grind
theorem cg_ends (hA:∀ i,i<n→∀ j,j<n→A i j=A j i){t:Nat}(hg:∀ i,i<t→Goes n A b x i):t≤n:=by
  have O:=orth_all hA t hg;exact orth_le (v:=fun i=>(cg n A b x i).r) (m:=t) (fun i hi k hk=>O.rr i oM k hk) (fun i hi=>(hg i hi).1)
end
def SD (e:Nat)(q:Rat):Prop:=∃ (N:Int) (D:Nat),0<D∧D≤2^e∧N.natAbs≤2^e∧q*((D:Nat):Rat)=(N:Rat)
def CD (n e:Nat)(v:Nat→Rat):Prop:=∃ D:Nat,0<D∧D≤2^e∧∀ i,i<n→∃ N:Int,N.natAbs≤2^e∧v i*((D:Nat):Rat)=(N:Rat)
def MD (n e:Nat)(A:Nat→Nat→Rat):Prop:=∃ D:Nat,0<D∧D≤2^e∧∀ i,i<n→∀ j,j<n→∃ N:Int,N.natAbs≤2^e∧A i j*((D:Nat):Rat)=(N:Rat)
theorem pow_up {a e f:Nat}(h:a≤2^e)(hf:e≤f):a≤2^f:=Nat.le_trans h (Nat.pow_le_pow_right kD hf)
theorem SD.mono {e f:Nat}{q:Rat}(h:SD e q)(hf:e≤f):SD f q:=by
  obtain ⟨N,D,h0,h1,h2,h3⟩:=h;exact ⟨N,D,h0,pow_up h1 hf,pow_up h2 hf,h3⟩
theorem CD.mono {n e f:Nat}{v:Nat→Rat}(h:CD n e v)(hf:e≤f):CD n f v:=by
  obtain ⟨D,h0,h1,h2⟩:=h;exact ⟨D,h0,pow_up h1 hf,fun i hi=>by obtain ⟨N,a,b⟩:=h2 i hi;exact ⟨N,pow_up a hf,b⟩⟩
theorem CD.at_ {n e:Nat}{v:Nat→Rat}(h:CD n e v){i:Nat}(hi:i<n):SD e (v i):=by
  obtain ⟨D,h0,h1,h2⟩:=h;obtain ⟨N,a,b⟩:=h2 i hi;exact ⟨N,D,h0,h1,a,b⟩
theorem mul_up {a b e f:Nat}(h:a≤2^e)(h2:b≤2^f):a*b≤2^(e+f):=by rw[Nat.pow_add];exact Nat.mul_le_mul h h2
theorem add_up {a b e:Nat}(h:a≤2^e)(h2:b≤2^e):a+b≤2^(e+1):=by rw[Nat.pow_succ];omega
theorem nz_cast {D:Nat}(h:0<D):((D:Nat):Rat)≠0:=by simp;omega
theorem SD.lq {e k:Nat}{q:Rat}(h:SD e q)(hk:e<64*k):LQ k q:=by
  obtain ⟨N,D,h0,h1,h2,h3⟩:=h
  have hq:q=mkRat N D:=by
    have h5:=nz_cast h0;rw[Rat.mkRat_eq_div,←h3]
    generalize ((D:Nat):Rat)=y at *
    grind
  obtain ⟨p1,p2,_,_⟩:=mkRat_parts N D h0
  have hp:(2:Nat)^e<18446744073709551616^k:=by
    rw[show (18446744073709551616:Nat)=2^64 from rfl,←Nat.pow_mul];exact Nat.pow_lt_pow_right kD hk
  constructor
  · refine dig_len_le kD (Nat.lt_of_le_of_lt ?_ hp)
    rw[hq,p1];refine Nat.le_trans ?_ h2
    unfold iabs
    exact Int.natAbs_ediv_le_natAbs _ _
  · refine dig_len_le kD (Nat.lt_of_le_of_lt ?_ hp)
    rw[hq,p2];exact Nat.le_trans (Nat.div_le_self _ _) h1
theorem SD.div {e f:Nat}{p q:Rat}(hp:SD e p)(hq:SD f q):SD (e+f) (p/q):=by
  obtain ⟨N,D,a0,a1,a2,a3⟩:=hp;obtain ⟨M,E,b0,b1,b2,b3⟩:=hq;have hD:=nz_cast a0;have hE:=nz_cast b0
  by_cases h0:M=0
  · subst h0
    have hq0:q=0:=by
      rcases Rat.mul_eq_zero.1 (show q*((E:Nat):Rat)=0 by rw[b3];rfl) with e|e
      · exact e
      · exact absurd e hE
    refine ⟨0,1,by decide,Nat.one_le_two_pow,Nat.zero_le _,?_⟩;rw[hq0,show p/0=0 by grind];grind
  · have hM:((M:Int):Rat)≠0:=by simpa using h0
    have hMn:0<M.natAbs:=by omega
    refine ⟨N*(E:Nat)*M.sign,D*M.natAbs,Nat.mul_pos a0 hMn,mul_up a1 b2,?_,?_⟩
    · rw[Int.natAbs_mul,Int.natAbs_mul,Int.natAbs_natCast,Int.natAbs_sign,if_neg h0,Nat.mul_one];exact mul_up a2 b1
    · have hs:((M.natAbs:Nat):Rat)=((M.sign:Int):Rat)*(M:Rat):=by
        have h9:((M.natAbs:Nat):Int)=M.sign*M:=by
          rcases Int.lt_trichotomy M 0 with h|h|h
          · rw[Int.sign_eq_neg_one_of_neg h];omega
          · exact absurd h h0
          · rw[Int.sign_eq_one_of_pos h];omega
        rw[←Rat.intCast_natCast,←Rat.intCast_mul,h9]
      have hqn:q≠0:=fun e=>by rw[e] at b3;exact hM (by grind)
      have e1:p/q*q=p:=by grind
      rw[Rat.natCast_mul,hs,Rat.intCast_mul,Rat.intCast_mul,Rat.intCast_natCast,←a3,←b3]
      grind
theorem sum_int {f:Nat→Rat}{D e:Nat}:∀ n,(∀ i,i<n→∃ N:Int,N.natAbs≤2^e∧f i*((D:Nat):Rat)=(N:Rat))→∃ N:Int,N.natAbs≤n*2^e∧sig f n*((D:Nat):Rat)=(N:Rat)
  | 0,_=>⟨0,Nat.zero_le _,by show (0:Rat)*_=0;grind⟩
  | n + 1,h=>by
    obtain ⟨N,a,b⟩:=sum_int n (fun i hi=>h i oM);obtain ⟨M,c,d⟩:=h n oM;refine ⟨N+M,?_,?_⟩
    · have:=Int.natAbs_add_le N M
      rw[Nat.succ_mul];omega
    · show (sig f n+f n)*_=_
      rw[Rat.intCast_add,←b,←d];grind
section
variable {n:Nat} (hn:n≤4)
include hn
theorem four_up {x e:Nat}(h:x≤n*2^e):x≤2^(e+2):=by
  have:=Nat.mul_le_mul_right (2^e) hn;rw[Nat.pow_add];omega
theorem CD.dot {e f:Nat}{u v:Nat→Rat}(hu:CD n e u)(hv:CD n f v):SD (e+f+2) (dt n u v):=by
  obtain ⟨D,a0,a1,a2⟩:=hu;obtain ⟨E,b0,b1,b2⟩:=hv
  obtain ⟨N,c1,c2⟩:=sum_int (f:=fun i=>u i*v i) (D:=D*E) (e:=e+f) n (fun i hi=>by
    obtain ⟨N,p,q⟩:=a2 i hi;obtain ⟨M,r,s⟩:=b2 i hi;refine ⟨N*M,by rw[Int.natAbs_mul];exact mul_up p r,?_⟩;rw[Rat.intCast_mul,←q,←s,Rat.natCast_mul];grind)
  exact ⟨N,D*E,Nat.mul_pos a0 b0,pow_up (mul_up a1 b1) oM,four_up hn c1,c2⟩
theorem MD.app {e f:Nat}{A:Nat→Nat→Rat}{v:Nat→Rat}(hA:MD n e A)(hv:CD n f v):CD n (e+f+2) (mv n A v):=by
  obtain ⟨D,a0,a1,a2⟩:=hA;obtain ⟨E,b0,b1,b2⟩:=hv;refine ⟨D*E,Nat.mul_pos a0 b0,pow_up (mul_up a1 b1) oM,fun i hi=>?_⟩
  obtain ⟨N,c1,c2⟩:=sum_int (f:=fun j=>A i j*v j) (D:=D*E) (e:=e+f) n (fun j hj=>by
    obtain ⟨N,p,q⟩:=a2 i hi j hj;obtain ⟨M,r,s⟩:=b2 j hj;refine ⟨N*M,by rw[Int.natAbs_mul];exact mul_up p r,?_⟩;rw[Rat.intCast_mul,←q,←s,Rat.natCast_mul];grind)
  exact ⟨N,four_up hn c1,c2⟩
omit hn
theorem CD.lin {e f g:Nat}{u v:Nat→Rat}{k:Rat}(hu:CD n e u)(hk:SD f k)(hv:CD n g v):CD n (e+f+g+1) (fun i=>u i+v i*k):=by
  obtain ⟨D,a0,a1,a2⟩:=hu;obtain ⟨M,E,b0,b1,b2,b3⟩:=hk;obtain ⟨F,c0,c1,c2⟩:=hv;refine ⟨D*E*F,Nat.mul_pos (Nat.mul_pos a0 b0) c0,pow_up (mul_up (mul_up a1 b1) c1) oM,fun i hi=>?_⟩;obtain ⟨N,p,q⟩:=a2 i hi;obtain ⟨L,r,s⟩:=c2 i hi;refine ⟨N*(E:Nat)*(F:Nat)+L*M*(D:Nat),?_,?_⟩
  · refine Nat.le_trans (Int.natAbs_add_le _ _) ?_
    rw[Int.natAbs_mul,Int.natAbs_mul,Int.natAbs_mul,Int.natAbs_mul,Int.natAbs_natCast,Int.natAbs_natCast,Int.natAbs_natCast];refine add_up (mul_up (mul_up p b1) c1) ?_;have:=mul_up (mul_up r b2) a1;rw[show g+f+e=e+f+g by omega] at this
    exact this
  · rw[Rat.intCast_add,Rat.intCast_mul,Rat.intCast_mul,Rat.intCast_mul,Rat.intCast_mul,Rat.intCast_natCast,Rat.intCast_natCast,Rat.intCast_natCast,←q,←s,←b3,Rat.natCast_mul,Rat.natCast_mul]
    grind
end
theorem SD.one:SD 0 ((-1:Int):Rat):=⟨-1,1,by decide,by decide,by decide,by rw[show ((-1:Int):Rat) = -1 from rfl];grind⟩
structure Bit where
  x:Nat
  r:Nat
  w:Nat
def bitN (a c:Nat)(s:Bit):Bit:=⟨s.x+(2*s.r+2*s.w+a+6)+s.w+1,3*s.r+3*s.w+2*a+9,3*(3*s.r+3*s.w+2*a+9)+2*s.r+s.w+5⟩
def bits (a c x:Nat):Nat→Bit
  | 0=>⟨x,c+a+x+3,c+a+x+3⟩
  | t+1=>bitN a c (bits a c x t)
theorem cg_bits {n:Nat}(hn:n≤4){a c e:Nat}{A:Nat→Nat→Rat}{b x:Nat→Rat}(hA:MD n a A)(hb:CD n c b)(hx:CD n e x):∀ t,CD n (bits a c e t).x (cg n A b x t).x∧CD n (bits a c e t).r (cg n A b x t).r∧CD n (bits a c e t).w (cg n A b x t).w
  | 0=>by
    have h1:=(hb.lin SD.one (hA.app hn hx)).mono (f:=c+a+e+3) oM;exact ⟨hx,h1,h1⟩
  | t + 1=>by
    obtain ⟨h1,h2,h3⟩:=cg_bits hn hA hb hx t;obtain ⟨s,hs⟩:∃ s,s=bits a c e t:=⟨_,rfl⟩;rw[←hs] at h1 h2 h3
    have hy:=hA.app hn h3;have hk:SD (2*s.r+2*s.w+a+6) (cgK n A (cg n A b x t)):=((h2.dot hn h2).div (h3.dot hn hy)).mono oM
    have hnk:SD (2*s.r+2*s.w+a+6) (-cgK n A (cg n A b x t)):=by
      obtain ⟨N,D,d0,d1,d2,d3⟩:=hk;exact ⟨-N,D,d0,d1,by rw[Int.natAbs_neg];exact d2,by rw[Rat.intCast_neg,←d3];grind⟩
    have hx':CD n (s.x+(2*s.r+2*s.w+a+6)+s.w+1) (cg n A b x (t+1)).x:=h1.lin hk h3
    have hr':CD n (3*s.r+3*s.w+2*a+9) (cg n A b x (t+1)).r:=by
      have:=(h2.lin hnk hy).mono (f:=3*s.r+3*s.w+2*a+9) oM;obtain ⟨D,d0,d1,d2⟩:=this;refine ⟨D,d0,d1,fun i hi=>?_⟩;obtain ⟨N,p,q⟩:=d2 i hi;refine ⟨N,p,?_⟩;rw[←q,cg_rec];grind
    have hq:=(hr'.dot hn hr').div (h2.dot hn h2);have hw':CD n (3*(3*s.r+3*s.w+2*a+9)+2*s.r+s.w+5) (cg n A b x (t+1)).w:=(hr'.lin hq h3).mono oM
    show CD n (bitN a c (bits a c e t)).x _∧CD n (bitN a c (bits a c e t)).r _∧CD n (bitN a c (bits a c e t)).w _
    rw[←hs];exact ⟨hx',hr',hw'⟩
structure CgB (n:Nat) (A:Nat→Nat→Rat) (b x:Nat→Rat) (t:Nat):Prop where
  xx:∀ i,i<n→LQ 100000 ((cg n A b x t).x i)
  r:∀ i,i<n→LQ 100000 ((cg n A b x t).r i)
  w:∀ i,i<n→LQ 100000 ((cg n A b x t).w i)
  ax:∀ i,i<n→LQ 100000 (mv n A (cg n A b x t).x i)
  aw:∀ i,i<n→LQ 100000 (mv n A (cg n A b x t).w i)
  rr:LQ 100000 (dt n (cg n A b x t).r (cg n A b x t).r)
  ww:LQ 100000 (dt n (cg n A b x t).w (mv n A (cg n A b x t).w))
  k:LQ 100000 (cgK n A (cg n A b x t))
theorem bits_le {t:Nat}(ht:t≤4):(bits 18 8 8 t).x≤2200000∧(bits 18 8 8 t).r≤700000∧(bits 18 8 8 t).w≤2200000:=by
  rcases (by omega:t=0∨t=1∨t=2∨t=3∨t=4) with rfl|rfl|rfl|rfl|rfl<;>decide
theorem cg_B {n:Nat}(hn:n≤4){A:Nat→Nat→Rat}{b x:Nat→Rat}(hA:MD n 18 A)(hb:CD n 8 b)(hx:CD n 8 x){t:Nat}(ht:t≤4):CgB n A b x t:=by
  obtain ⟨h1,h2,h3⟩:=cg_bits hn hA hb hx t;obtain ⟨b1,b2,b3⟩:=bits_le ht;have c1:=h1.mono b1;have c2:=h2.mono b2;have c3:=h3.mono b3;have a1:=hA.app hn c1;have a3:=hA.app hn c3;exact ⟨fun i hi=>(c1.at_ hi).lq kD,fun i hi=>(c2.at_ hi).lq kD,fun i hi=>(c3.at_ hi).lq kD,fun i hi=>(a1.at_ hi).lq kD,fun i hi=>(a3.at_ hi).lq kD,(c2.dot hn c2).lq kD,(c3.dot hn a3).lq kD,((c2.dot hn c2).div (c3.dot hn a3)).lq kD⟩
def CjEnd (n:Nat)(A:Nat→Nat→Rat)(b x:Nat→Rat)(t:Nat)(e:Int):Prop :=
  (∀ i,i<t→dt n (cg n A b x i).r (cg n A b x i).r≠0∧0<(dt n (cg n A b x i).w (mv n A (cg n A b x i).w)).num) ∧
    (e=0∧dt n (cg n A b x t).r (cg n A b x t).r=0∨e=9∧dt n (cg n A b x t).r (cg n A b x t).r≠0∧¬0<(dt n (cg n A b x t).w (mv n A (cg n A b x t).w)).num)
theorem CjEnd.uniq {n:Nat}{A:Nat→Nat→Rat}{b x:Nat→Rat}{t t':Nat}{e e':Int}(h:CjEnd n A b x t e)(h':CjEnd n A b x t' e'):t=t'∧e=e':=by
  have key:∀ {t t':Nat} {e e':Int},CjEnd n A b x t e→CjEnd n A b x t' e'→¬t<t':=fun {t t' e e'} h h' hlt=>by
    obtain ⟨g1,g2⟩:=h'.1 t hlt
    rcases h.2 with ⟨_,q⟩|⟨_,_,q⟩
    · exact g1 q
    · exact q g2
  have ht:t=t':=by
    have:=key h h';have:=key h' h;omega
  subst ht;refine ⟨rfl,?_⟩
  rcases h.2 with ⟨q1,q2⟩|⟨q1,q2,_⟩<;>rcases h'.2 with ⟨p1,p2⟩|⟨p1,p2,_⟩
  · rw[q1,p1]
  · exact absurd q2 p2
  · exact absurd p2 q2
  · rw[q1,p1]
theorem goes_of {n:Nat}{A:Nat→Nat→Rat}{b x:Nat→Rat}{t:Nat}(h:dt n (cg n A b x t).r (cg n A b x t).r≠0∧0<(dt n (cg n A b x t).w (mv n A (cg n A b x t).w)).num):Goes n A b x t:=⟨h.1,fun e=>by have:=h.2;rw[e] at this;exact absurd this kD⟩
theorem sl_len {A:Option Addr}{c a b:Nat}(h:a=b):Value.slice A a c=.slice A b c:=by rw[h]
theorem tup_len {A:Option Addr}{c a b:Nat}{x:Value}(h:a=b):Value.tuple #[.slice A a c,x]=.tuple #[.slice A b c,x]:=by rw[h]
def vec (n:Nat)(f:Nat→Rat):List Rat:=(List.range n).map f
theorem vec_len (n:Nat)(f:Nat→Rat):(vec n f).length=n:=by simp[vec]
theorem vec_get {n i:Nat}(f:Nat→Rat)(h:i<n):(vec n f).getD i 0=f i:=by simp[vec,h]
theorem vec_eq {l:List Rat}{n:Nat}{f:Nat→Rat}(hl:l.length=n)(h:∀ i,i<n→l.getD i 0=f i):l=vec n f:=by
  subst hl;refine List.ext_getElem (by simp[vec]) (fun i h1 h2=>?_);have:=h i h1
  simp only[vec,List.getElem_map,List.getElem_range]
  rw[←this];simp[h1]
theorem vec_of {L:List Rat}{n:Nat}{f:Nat→Rat}(hl:L.length=n)(h:∀ j,L.getD j 0=if j<n then f j else 0):L=vec n f:=vec_eq hl (fun i hi=>by rw[h i,if_pos hi])
theorem vec_set {L:List Rat}{n i:Nat}{f:Nat→Rat}{x:Rat}(hl:L.length=n)(h:∀ j,L.getD j 0=if j<i then f j else 0)(hi:i<n)(hx:x=f i):∀ j,(L.set i x).getD j 0=if j<i+1 then f j else 0:=fun j=>by
  rw[getD_set_ oM]
  by_cases e:j=i
  · subst e;rw[if_pos rfl,if_pos oM];exact hx
  · rw[if_neg e,h j]
    by_cases e2:j<i
    · rw[if_pos e2,if_pos oM]
    · rw[if_neg e2,if_neg oM]
def mA (W:List (List Rat)):Nat→Nat→Rat:=fun i j=>(W.getD i []).getD j 0
theorem dot_dt {a b:List Rat}{u v:Nat→Rat}:∀ n,(∀ i,i<n→a.getD i 0=u i)→(∀ i,i<n→b.getD i 0=v i)→dotq a b n=dt n u v
  | 0,_,_=>rfl
  | n+1,h1,h2=>by
    show dotq a b n+a.getD n 0*b.getD n 0=dt n u v+u n*v n
    rw[dot_dt n (fun i hi=>h1 i oM) (fun i hi=>h2 i oM),h1 n oM,h2 n oM]
def SqP (W:List (List Rat)):Prop:=RightP W∧W.length=(W.getD 0 []).length
noncomputable def sqq (W:List (List Rat)):Bool:=@decide (SqP W) (Classical.propDecidable _)
def SymP (W:List (List Rat)):Prop:=SqP W∧∀ i,i<W.length→∀ k,k<i→(W.getD i []).getD k 0=(W.getD k []).getD i 0
noncomputable def symq (W:List (List Rat)):Bool:=@decide (SymP W) (Classical.propDecidable _)
theorem sq_f {W:List (List Rat)}(h:¬SqP W):sqq W=false:=@decide_eq_false _ (Classical.propDecidable _) h
theorem sq_t {W:List (List Rat)}(h:SqP W):sqq W=true:=@decide_eq_true _ (Classical.propDecidable _) h
theorem sq_is {W:List (List Rat)}(h:sqq W=true):SqP W:=@oT _ (Classical.propDecidable _) h
theorem sq_not {W:List (List Rat)}(h:sqq W=false):¬SqP W:=@oF _ (Classical.propDecidable _) h
theorem sym_f {W:List (List Rat)}(h:¬SymP W):symq W=false:=@decide_eq_false _ (Classical.propDecidable _) h
theorem sym_t {W:List (List Rat)}(h:SymP W):symq W=true:=@decide_eq_true _ (Classical.propDecidable _) h
theorem SymP.all {W:List (List Rat)}(h:SymP W):∀ i,i<W.length→∀ j,j<W.length→mA W i j=mA W j i:=fun i hi j hj=>by
  rcases Nat.lt_trichotomy i j with e|e|e
  · exact (h.2 j hj i e).symm
  · rw[e]
  · exact h.2 i hi j e
theorem cj_cmp {a b:Rat}(h:a=b):cmpR a b=0:=by rw[h];exact cmpR_self b
theorem cj_cmp0 {a b:Rat}(h:cmpR a b=0):a=b:=by
  unfold cmpR cmpI at h
  have ha:=a.den_pos;have hb:=b.den_pos
  split at h
  · omega
  · split at h
    · omega
    · have e:a.num*(b.den:Int)=b.num*(a.den:Int):=by omega
      rw[←Rat.mkRat_self a,←Rat.mkRat_self b];exact (Rat.mkRat_eq_iff oM oM).2 e
theorem mRightT (A:Option Addr)(cap:Nat)(us:List Value)(W:List (List Rat))(hl:W.length≤1000000)(hls:∀ i,i<W.length→(W.getD i []).length≤1000000)(hR:RightP W)(w:World)(h:Hp)(g:G w h)(hA:Sv A us h)(hU:QVs h us W):CV 108 #[.slice A us.length cap] w h (.bool true):=by
  have x:=mRightG A cap us W hl hls w h g hA hU;rw[←rq_t hR] at x
  exact x
theorem lq_sum4 {n a:Nat}(hn:n≤5)(ha:a≤1000001):n*a+a+2≤100000000:=by
  have:=Nat.mul_le_mul_right a hn
  omega
theorem cjDot (a:List Rat)(x:Nat→Rat)(n:Nat)(A:Option Addr)(ca:Nat)(X:Option Addr)(cX:Nat)(hal:a.length=n)(K1 K2:Nat)(hn4:n≤5)(hb:K1+K2≤1000000)(hK1:∀ j,LQ K1 (a.getD j 0))(hK2:∀ i,i<n→LQ K2 (x i))(w:World)(h:Hp)(g:G w h)(hA:Sq A a h)(hX:Sq X (vec n x) h)(tb:Tab h):CV 75 #[.slice A a.length ca,.slice X (vec n x).length cX] w h (.tuple #[qv (dt n (fun j=>a.getD j 0) x),.bool true]):=by
  have x_:=fDot A ca a X cX (vec n x) K1 K2 (by rw[vec_len];exact hal) oM (by have:=lq_sum4 (n:=a.length) (a:=K1+K2+1) oM oM;omega) (fun i _=>hK1 i) (fun i hi=>by rw[vec_get x oM];exact hK2 i oM) w h g hA hX tb;rw[hal,dot_dt n (u:=fun j=>a.getD j 0) (v:=x) (fun i _=>rfl) (fun i hi=>vec_get x hi)] at x_
  rw[hal];exact x_
theorem cjDotV (u v:Nat→Rat)(n:Nat)(A:Option Addr)(ca:Nat)(X:Option Addr)(cX:Nat)(K1 K2:Nat)(hn4:n≤5)(hb:K1+K2≤1000000)(hK1:∀ i,i<n→LQ K1 (u i))(hK2:∀ i,i<n→LQ K2 (v i))(w:World)(h:Hp)(g:G w h)(hA:Sq A (vec n u) h)(hX:Sq X (vec n v) h)(tb:Tab h):CR 75 #[.slice A (vec n u).length ca,.slice X (vec n v).length cX] w h (fun r _=>r=.tuple #[qv (dt n u v),.bool true]):=by
  have x_:=fDot A ca (vec n u) X cX (vec n v) K1 K2 (by rw[vec_len,vec_len]) (by rw[vec_len];omega) (by rw[vec_len];have:=lq_sum4 (n:=n) (a:=K1+K2+1) oM oM;omega) (fun i hi=>by rw[vec_len] at hi;rw[vec_get u hi];exact hK1 i hi) (fun i hi=>by rw[vec_len] at hi;rw[vec_get v hi];exact hK2 i hi) w h g hA hX tb;rw[vec_len n u,dot_dt n (u:=u) (v:=v) (fun i hi=>vec_get u hi) (fun i hi=>vec_get v hi)] at x_
  rw[vec_len n u];exact x_
theorem mSquare (A:Option Addr)(cap:Nat)(us:List Value)(W:List (List Rat))(hl:W.length≤1000)(hls:∀ i,i<W.length→(W.getD i []).length≤1000)(w:World)(h:Hp)(g:G w h)(hA:Sv A us h)(hU:QVs h us W):CV 71 #[.slice A us.length cap] w h (.bool (sqq W)):=by
 have hs:=(((sS g).aS hA).aQ hU);have hlu:=(hs.f.1).len;refine go Tryz.func71 [(0,qS A us.length cap)] rfl (cSL (lL hs [.v 2 qF] (lNS (lL hs [.m 3 0] (lC 4 hs (mRightG A cap us W oM (fun i hi=>by have:=hls i hi;omega) _ _ hs.g hs.f.2.1 hs.f.1) ?_)))));rintro _ w1 h2 hs rfl;cases hb3:(rightq W)
 ·
  refine lL hs [.m 5 4] (lG 6 ?_);exact lG 7 (lG 8 (lG 9 (lG 10 (lG 11 (lG 12 (lL hs [.v 13 qF,.m 2 13] (lN (kX (hs.ret [] qF (congrArg Value.bool (sq_f (fun h_=>by first|exact rq_not aM h_.1|(have:=h_.2;omega))).symm))))))))))
 refine lL hs [.m 5 4,.m 6 0,.v 7 (nV us.length),.m 8 0] ?_;obtain ⟨hr1,hr2,hr3⟩:=rq_is ‹rightq W=true›;refine lX 9 A us.length cap 1 0 0 ((hs.f.2.1).ok oM) ?_;obtain ⟨Aqz,cqz,eqz,hcqz,hRqz⟩:=(hs.f.1).at_ 0 oM;replace hs:=hs.aS hRqz;refine lHe 10 (us.getD 0 undef) hs ((hs.f.r.1).el 0 oM) eqz (lL hs [.v 11 (nV ((W.getD 0 []).length))] ?_);cases hb4:((us.length:Int) == (((W.getD 0 []).length:Nat):Int))
 ·
  have phb4:=neOfBeq hb4;exact lB 12 hb4 (lL hs [.v 13 qF,.m 2 13] (lN (kX (hs.ret [] qF (congrArg Value.bool (sq_f (fun h_=>by first|exact rq_not aM h_.1|(have:=h_.2;omega))).symm)))))
 have phb4:=eq_of_beq hb4;exact lB 12 hb4 (lL hs [.v 13 qT,.m 2 13] (lN (kX (hs.ret [] qT (congrArg Value.bool (sq_t ⟨rq_is aM,by omega⟩).symm)))))
theorem mSym (A:Option Addr)(cap:Nat)(us:List Value)(W:List (List Rat))(hl:W.length≤1000)(hls:∀ i,i<W.length→(W.getD i []).length≤1000)(hq:∀ i j,LQ 100000000 ((W.getD i []).getD j 0))(w:World)(h:Hp)(g:G w h)(hA:Sv A us h)(hU:QVs h us W):CV 72 #[.slice A us.length cap] w h (.bool (symq W)):=by
 have hs:=(((sS g).aS hA).aQ hU);have hlu:=(hs.f.1).len;refine go Tryz.func72 [(0,qS A us.length cap)] rfl (cSL (lL hs [.v 2 qF] (lN (cQ (cSL (lL hs [.m 6 0] (lC 7 hs (mSquare A cap us W hl hls _ _ hs.g hs.f.2.1 hs.f.1) ?_)))))));rintro _ w1 h2 hs rfl;cases hb3:(sqq W)
 ·
  exact lL hs [.v 8 qT] (lN (cIT (cSL (lL hs [.v 2 qF] (lN (kX (hs.ret [] qF (congrArg Value.bool (sym_f (fun h_=>sq_not aM h_.1)).symm))))))))
 refine lL hs [.v 8 qF] (lN (cIF (cK (cQ (cSL (lL hs [.m 9 0,.v 10 (nV us.length),.v 11 (iV 0)] (lN (kZ ?_))))))));have hS:=sq_is ‹sqq W=true›;obtain ⟨⟨hr1,hr2,hr3⟩,hr4⟩:=id hS;refine cTo _ (CG.loop (fun μ_ Γ w_=>∃ (i:Nat) (h_:Hp),μ_=W.length-i∧Γ=[(0,qS A us.length cap),(9,qS A us.length cap),(10,nV us.length),(11,nV i)]∧SS w h w_ h_ [] [] [Qu us W,Sv A us]∧i≤W.length∧(∀ a,a<i→∀ b,b<a→(W.getD a []).getD b 0=(W.getD b []).getD a 0)) _ ⟨0,h2,rfl,rfl,hs.to _ _,Nat.zero_le _,(fun a ha=>absurd ha (Nat.not_lt_zero a))⟩ ?_);rintro _ _ w4 ⟨i,h5,hm6,rfl,hs,hi,hY⟩;refine cSL ?_;cases hb7:(decide ((i:Int)<(us.length:Int)))
 ·
  have phb7:=oF hb7;refine lB 12 hb7 (lN (cQ (cIF (CG.exit ?_))))
  show CG _ _ _ _ _ _ _ _
  exact cSL (lL hs [.v 2 qT] (lN (kX (hs.ret [] qT (congrArg Value.bool (sym_t ⟨hS,fun a ha b hb=>hY a oM b hb⟩).symm)))))
 have phb7:=oT hb7;refine lB 12 hb7 (lN (cQ (cIT (cK (cQ (kZ (cSL (lL hs [.m 13 11] (lX 14 A us.length cap 1 (i:Nat) i ((hs.f.2.1).ok oM) ?_)))))))));obtain ⟨Aqx,cqx,eqx,hcqx,hRqx⟩:=(hs.f.1).at_ i oM;replace hs:=hs.aS hRqx;refine lHe 15 (us.getD i undef) hs ((hs.f.r.1).el i oM) eqx (lL hs [.m 3 13,.m 4 15] (lNS (lL hs [.m 16 3,.v 17 (iV 0)] (lN (kZ ?_)))));refine cTo _ (CG.loop (fun μ_ Γ w_=>∃ (j:Nat) (h_:Hp),μ_=i-j∧Γ=[(0,qS A us.length cap),(9,qS A us.length cap),(10,nV us.length),(11,nV i),(3,nV i),(4,qS Aqx ((W.getD i []).length) cqx),(16,nV i),(17,nV j)]∧SS w h w_ h_ [] [] [Sq Aqx (W.getD i []),Qu us W,Sv A us]∧j≤i∧(∀ b,b<j→(W.getD i []).getD b 0=(W.getD b []).getD i 0)) _ ⟨0,h5,rfl,rfl,hs.to _ _,Nat.zero_le _,(fun b hb=>absurd hb (Nat.not_lt_zero b))⟩ ?_);rintro _ _ w8 ⟨j,h9,hm10,rfl,hs,hj,hX⟩;have hwi:=hr3 i;have hwj:=hr3 j;refine cSL ?_;cases za:(decide ((j:Int)<(i:Int)))
 ·
  have zc:=oF za;refine lB 18 za (lN (cQ (cIF (CG.exit ?_))))
  show CG _ _ _ _ _ _ _ _
  refine kQ (lIn 34 ((i:Nat)+1) (i+1) ?_);refine lL hs [.m 11 34] (lD ?_);intro a_ ka;replace hs:=hs.tl;refine ⟨_,_,?_,⟨i+1,h9,rfl,rfl,hs.to _ _,oM,(fun a ha b hb=>by by_cases e_:a=i;(subst e_;exact hX b oM);exact hY a oM b hb)⟩,ka.to _ kR⟩
  omega
 have zc:=oT za;refine lB 18 za (lN (cQ (cIT (cK (cQ (kZ (cSL (lL hs [.m 19 17,.m 5 19] (lN (cQ (cR 13 [] mixed hs al_nil ?_)))))))))));refine eV 0 20 (qS Aqx ((W.getD i []).length) cqx) (eV 1 21 (nV j) (eX 2 22 Aqx ((W.getD i []).length) cqx 5 (j:Nat) j ((hs.f.1).ok oM) (eH 3 23 (qv ((W.getD i []).getD j 0)) hs ((hs.f.1).el j oM) (eV 4 24 (qS A us.length cap) (eV 5 25 (nV j) (eX 6 26 A us.length cap 1 (j:Nat) j ((hs.f.r.1).ok oM) ?_))))));obtain ⟨Aqy,cqy,eqy,hcqy,hRqy⟩:=(hs.f.2.1).at_ j oM;replace hs:=hs.aS hRqy;refine eHe 7 27 (us.getD j undef) hs ((hs.f.r.2.1).el j oM) eqy (eV 8 28 (nV i) (eX 9 29 Aqy ((W.getD j []).length) cqy 5 (i:Nat) i ((hs.f.1).ok oM) (eH 10 30 (qv ((W.getD j []).getD i 0)) hs ((hs.f.1).el i oM) (eC 11 31 hs (fun _ _ hs=>fCmp ((W.getD i []).getD j 0) ((W.getD j []).getD i 0) (hq i j) (hq j i) _ _ hs.g) ?_))));rintro _ _ _ _ _ hs rfl;cases zb:((cmpR ((W.getD i []).getD j 0) ((W.getD j []).getD i 0):Int) != (0:Int))
 ·
  have zd:=eqOfBne zb;refine eB 12 32 zb (eD0 hs (fun _ ze hs=>tN (cIF (cK (kQ (lIn 33 ((j:Nat)+1) (j+1) ?_))))));refine lL hs [.m 17 33] (lD ?_);intro a_ ka;replace hs:=hs.tl;refine ⟨_,_,?_,⟨j+1,ze,rfl,rfl,hs.to _ _,oM,(fun b hb=>by by_cases e_:b=j;(subst e_;exact cj_cmp0 oM);exact hX b oM)⟩,ka.to _ kR⟩
  omega
 have zd:=neOfBne zb;exact eB 12 32 zb (eD0 hs (fun _ _ hs=>tN (cIT (cSL (lL hs [.v 2 qF] (lN (kX (hs.ret [] qF (congrArg Value.bool (sym_f (fun h_=>absurd (h_.2 i oM j oM) (fun e_=>absurd (cj_cmp e_) oM))).symm)))))))))
theorem mSymT (A:Option Addr)(cap:Nat)(us:List Value)(W:List (List Rat))(hl:W.length≤1000)(hls:∀ i,i<W.length→(W.getD i []).length≤1000)(hq:∀ i j,LQ 100000000 ((W.getD i []).getD j 0))(hS:SymP W)(w:World)(h:Hp)(g:G w h)(hA:Sv A us h)(hU:QVs h us W):CV 72 #[.slice A us.length cap] w h (.bool true):=by
  have x:=mSym A cap us W hl hls hq w h g hA hU;rw[sym_t hS] at x
  exact x
theorem mApply (A:Option Addr)(cap:Nat)(us:List Value)(W:List (List Rat))(hl:W.length≤1000)(hls:∀ i,i<W.length→(W.getD i []).length≤1000)(x:Nat→Rat)(n:Nat)(hn4:n≤5)(X:Option Addr)(cX:Nat)(hR:RightP W)(hn:W.length=n)(hn2:(W.getD 0 []).length=n)(K1 K2:Nat)(hK1:∀ i j,LQ K1 ((W.getD i []).getD j 0))(hK2:∀ i,i<n→LQ K2 (x i))(hKb:1≤K1∧1≤K2∧K1+K2≤1000000)(w:World)(h:Hp)(g:G w h)(hA:Sv A us h)(hU:QVs h us W)(hX:Sq X (vec n x) h)(tb:Tab h):CR 73 #[.slice A us.length cap,.slice X ((vec n x).length) cX] w h (fun v h1=>∃ A c,v=.tuple #[.slice A (vec n (mv n (mA W) x)).length c,iV 0]∧(vec n (mv n (mA W) x)).length≤c∧Sq A (vec n (mv n (mA W) x)) h1):=by
 have hs:=(((((sS g).aS hA).aQ hU).aS hX).aB tb);have hlu:=(hs.f.r.1).len;have hvl:=vec_len n x;have hr1:=hR.1;refine go Tryz.func73 [(0,qS A us.length cap),(1,qS X ((vec n x).length) cX)] rfl (cSL (lL hs [.v 4 (sZ),.v 5 (iV 0)] (lN (cQ (cSL (lL hs [.m 9 0] (lC 10 hs (mRightT A cap us W oM (fun i hi=>by have:=hls i hi;omega) hR _ _ hs.g hs.f.r.2.1 hs.f.r.1) ?_)))))));rintro _ w1 h2 hs rfl;refine lL hs [.v 11 qF,.m 12 11,.m 13 0] (lX 14 A us.length cap 1 0 0 ((hs.f.r.2.1).ok oM) ?_);obtain ⟨Aqz,cqz,eqz,hcqz,hRqz⟩:=(hs.f.r.1).at_ 0 oM;replace hs:=hs.aS hRqz;refine lHe 15 (us.getD 0 undef) hs ((hs.f.q.1).el 0 oM) eqz (lL hs [.v 16 (nV ((W.getD 0 []).length)),.m 17 1,.v 18 (nV ((vec n x).length))] ?_);have hb3:((((W.getD 0 []).length:Nat):Int) != (((vec n x).length:Nat):Int))=false:=bneF oM;have phb3:=eqOfBne hb3;refine lB 19 hb3 (lL hs [.v 20 qF] (lN (cIF (cK (cSL (lL hs [.m 21 0,.v 22 (nV us.length)] (lK 23 41 us.length 5 56 (.agg #[qF,uV 0,eS,uV 0,eS]) qc 0 hs (fun b4 w5 h6 hs=>?_))))))));have hl7:(List.replicate us.length 0).length=us.length:=by simp
 refine lL hs [.m 6 23] (lN (cQ (cSL (lL hs [.m 24 0,.v 25 (nV us.length),.v 26 (iV 0)] (lN (kZ ?_))))));refine cTo _ (CG.loop (fun μ_ Γ w_=>∃ (i:Nat) (L:List Rat) (h_:Hp),μ_=n-i∧Γ=[(1,qS X ((vec n x).length) cX),(4,sZ),(5,iV 0),(6,qS (sB b4) us.length us.length),(24,qS A us.length cap),(25,nV us.length),(26,nV i)]∧SS w h w_ h_ [⟨b4,41,(L).flatMap qc⟩] [] [Sq Aqz (W.getD 0 []),fun h_=>Tab h_,Sq X (vec n x),Qu us W,Sv A us]∧i≤n∧L.length=us.length∧(∀ j,L.getD j 0=if j<i then mv n (mA W) x j else 0)) _ ⟨0,List.replicate us.length (0:Rat),h6,rfl,rfl,hs.to _ _,Nat.zero_le _,(by simp),(fun j=>by rw[rep_zero,if_neg (Nat.not_lt_zero j)])⟩ ?_);rintro _ _ w8 ⟨i,L,h9,hm10,rfl,hs,hi,hLl,hLv⟩;refine cSL ?_;cases za:(decide ((i:Int)<(us.length:Int)))
 ·
  have zb:=oF za;refine lB 27 za (lN (cQ (cIF (CG.exit ?_))))
  show CG _ _ _ _ _ _ _ _
  refine cSL ?_;have hin:i=n:=by omega
  have hLe:L=vec n (mv n (mA W) x):=vec_of (hLl.trans oM) (fun j=>by rw[hLv j,hin]);obtain ⟨_,hs,sg13,lo14,bc15⟩:=hs.pub 0;replace hs:=(hs.to [] []).aS (SlO.of_flat (sz:=5) (f:=qc) (d:=0) (b:=b4) (o:=0) (l:=L) (fun _=>rfl) sg13);replace hs:=hs.aS (show Sq (sB b4) (vec n (mv n (mA W) x)) _ from by rw[←hLe];exact hs.f.1);exact lL hs [.m 41 6,.m 4 41,.v 5 (iV 0)] (lN (kX (hs.ret [] (.tuple #[qS (sB b4) us.length us.length,iV 0]) (⟨(sB b4),us.length,tup_len (by rw[vec_len];omega),(by rw[vec_len];omega),hs.f.1⟩))))
 have zb:=oT za;refine lB 27 za (lN (cQ (cIT (cK (cQ (kZ (cSL (lL hs [.m 28 26] (lX 29 A us.length cap 1 (i:Nat) i ((hs.f.q.1).ok oM) ?_)))))))));obtain ⟨Aqx,cqx,eqx,hcqx,hRqx⟩:=(hs.f.r.2.1).at_ i oM;replace hs:=hs.aS hRqx;refine lHe 30 (us.getD i undef) hs ((hs.f.q.2.1).el i oM) eqx (lL hs [.m 7 28,.m 8 30] (lN (kQ (lL hs [.m 32 6,.m 33 7,.m 34 8,.m 35 1] (lC 36 hs (cjDot (W.getD i []) x n Aqx cqx X cX (by rw[hR.2.2 i oM];omega) K1 K2 oM oM (hK1 i) hK2 _ _ hs.g hs.f.1 hs.f.r.2.1 hs.f.r.1) ?_)))));rintro _ _ zd hs rfl;refine lL hs [.m 31 36,.v 37 (qv (mv n (mA W) x i)),.v 38 qT] (lX 39 (sB b4) us.length us.length 5 (i:Nat) i rfl ?_);refine lW 0 L qc 5 i (mv n (mA W) x i) hs oM (fun _ hs=>?_);have zc:((L).set i (mv n (mA W) x i)).length=us.length:=by rw[List.length_set];exact hLl
 replace hs:=hs.to [⟨b4,41,((L).set i (mv n (mA W) x i)).flatMap qc⟩] [];refine lN (kQ (lIn 40 ((i:Nat)+1) (i+1) ?_));refine lL hs [.m 26 40] (lD ?_);intro a_ ka;replace hs:=hs.tl;refine ⟨_,_,?_,⟨i+1,(L).set i (mv n (mA W) x i),zd,rfl,rfl,hs.to _ _,oM,zc,(vec_set hLl hLv oM rfl)⟩,ka.to _ kR⟩
 omega
theorem qValue (A:Option Addr)(cap:Nat)(us:List Value)(W:List (List Rat))(hl:W.length≤1000)(hls:∀ i,i<W.length→(W.getD i []).length≤1000)(x:Nat→Rat)(n:Nat)(hn4:n≤5)(X:Option Addr)(cX:Nat)(hS:SymP W)(hn:W.length=n)(K1 K2 K3:Nat)(hK1:∀ i j,LQ K1 ((W.getD i []).getD j 0))(hK2:∀ i,i<n→LQ K2 (x i))(hK3:∀ i,i<n→LQ K3 (mv n (mA W) x i))(hKb:1≤K1∧1≤K2∧K1+K2≤1000000)(hKc:K2+K3≤1000000)(w:World)(h:Hp)(g:G w h)(hA:Sv A us h)(hU:QVs h us W)(hX:Sq X (vec n x) h)(tb:Tab h):CV 76 #[.slice A us.length cap,.slice X ((vec n x).length) cX] w h (.tuple #[qv (dt n x (mv n (mA W) x)),iV 0]):=by
 have hs:=(((((sS g).aS hA).aQ hU).aS hX).aB tb);have hlu:=(hs.f.r.1).len;have hvl:=vec_len n x;refine go Tryz.func76 [(0,qS A us.length cap),(1,qS X ((vec n x).length) cX)] rfl (cSL (lA 4 41 ([qF,uV 0,eS,uV 0,eS]) hs (fun b1 w2 h3 hs=>lL hs [.v 5 (iV 0)] (lN (cQ (cSL (lL hs [.m 10 0] (lC 11 hs (mSymT A cap us W hl hls (fun i j=>(hK1 i j).mono oM) hS _ _ hs.g hs.f.r.2.1 hs.f.r.1) ?_))))))));rintro _ w4 h5 hs rfl;refine lL hs [.v 12 qF,.m 13 12,.m 14 0,.v 15 (nV us.length),.m 16 1,.v 17 (nV ((vec n x).length))] ?_;have hb6:((us.length:Int) != (((vec n x).length:Nat):Int))=false:=bneF oM;have phb6:=eqOfBne hb6;refine lB 18 hb6 (lL hs [.v 19 qF] (lN (cIF (cK (cSL (lL hs [.m 22 0,.m 23 1] (lC 24 hs (mApply A cap us W hl hls x n hn4 X cX hS.1.1 hn (by rw[←hn];exact hS.1.2.symm) K1 K2 hK1 hK2 hKb _ _ hs.g hs.f.r.2.1 hs.f.r.1 hs.f.2.1 hs.f.1) ?_)))))));rintro _ w7 h8 hs ⟨Ay,cy,rfl,hcy,hAy⟩;replace hs:=hs.aS hAy;refine lL hs [.m 21 24,.v 25 (qS Ay ((vec n (mv n (mA W) x)).length) cy),.v 26 (iV 0),.m 6 25,.m 7 26] (lNS (lL hs [.m 28 1,.m 29 6] (lC 30 hs (cjDotV x (mv n (mA W) x) n X cX Ay cy K2 K3 hn4 oM hK2 hK3 _ _ hs.g hs.f.r.1 hs.f.1 hs.f.2.1) ?_)));rintro _ w9 _ hs rfl;exact lL hs [.m 27 30,.v 31 (qv (dt n x (mv n (mA W) x))),.v 32 qT] (lA 8 41 ([qF,uV 0,eS,uV 0,eS]) hs (fun b11 _ _ hs=>lP 0 0 (qc (dt n x (mv n (mA W) x))) hs (fun _ hs=>lL hs [.m 9 32] (lNS (lL hs [.o 33 (qv (dt n x (mv n (mA W) x))) 0 0 5] (lP 1 0 (qc (dt n x (mv n (mA W) x))) hs (fun _ hs=>lL hs [.v 5 (iV 0)] (lN (kX (hs.ret [(1,0,5)] (.tuple #[qv (dt n x (mv n (mA W) x)),iV 0]) rfl))))))))))
theorem sClone0 (b o c:Nat)(l:List Rat)(hpos:0<l.length)(hl:l.length≤1000000)(w:World)(h:Hp)(g:G w h)(hA:Sq (some ⟨b,o,none⟩) l h):CR 63 #[.slice (some ⟨b,o,none⟩) l.length c] w h (fun v h1=>SlN h.size 41 qc h1 v l):=by
 have hs:=((sS g).aS hA);have hnil:([]:List Rat).length=0:=rfl;refine go Tryz.func63 [(0,qS (some ⟨b,o,none⟩) l.length c)] rfl (cSL (lL hs [.v 2 (sZ)] (lN (cQ (cSL (lL hs [.m 3 0,.v 4 qF] (lN (cIF (cK (cSL (lRw 5 41 5 qc ([]:List Rat) hs (fun b1 w2 h3 hs=>lL hs [.m 6 0] (lYs 7 0 41 5 ((([]:List Rat)).length) (sB b1) ([]:List Rat) qc 0 (some ⟨b,o,none⟩) l c 56 (.agg #[qF,uV 0,eS,uV 0,eS]) hs hs.f.1 oM (fun A6 c7 w8 h9 hs=>lL hs [.m 2 7] (lN (kX ?_))))))))))))))));obtain ⟨hq,bq,spq,hs,hbq,hcq⟩:=hs.pubn 0 (A:=A6) (c:=c7) (ty:=41) (sz:=5) (l:=([]:List Rat)++l) (f:=qc) (by simpa using hpos);subst hbq;exact hs.ret [] (qS (sB bq) l.length c7) (⟨bq,_,spq,rfl,hcq,hs.f.1⟩)
theorem sClone (A:Option Addr)(n c:Nat)(l:List Rat)(hn:l.length=n)(hpos:0<n)(hl:n≤1000000)(w:World)(h:Hp)(g:G w h)(hA:Sq A l h):CR 63 #[.slice A n c] w h (fun v h1=>SlN h.size 41 qc h1 v l):=by
  subst hn;have e:=hA.ok hpos;rw[e] at hA ⊢
  exact sClone0 _ _ c l hpos hl w h g hA
theorem cjPlus  (a b:Nat→Rat)(n:Nat)(hn4:n≤5)(A:Option Addr)(cA:Nat)(D:Option Addr)(cD:Nat)(k:Rat)(K1 K2 K3:Nat)(hK1:∀ i,i<n→LQ K1 (a i))(hK2:∀ i,i<n→LQ K2 (b i))(hK3:LQ K3 k)(hKb:K1+K2+K3+1≤100000000)(w:World)(h:Hp)(g:G w h)(hA:Sq A (vec n a) h)(hD:Sq D (vec n b) h)(tb:Tab h):CR 74 #[.slice A ((vec n a).length) cA,.slice D ((vec n b).length) cD,qv k] w h (fun v h1=>∃ A c,v=.slice A (vec n fun i=>a i+b i*k).length c∧(vec n fun i=>a i+b i*k).length≤c∧Sq A (vec n fun i=>a i+b i*k) h1):=by
 have hs:=((((sS g).aS hA).aS hD).aB tb);have hva:=vec_len n a;have hvb:=vec_len n b;refine go Tryz.func74 [(0,qS A ((vec n a).length) cA),(1,qS D ((vec n b).length) cD),(2,qv k)] rfl (cSL (lA 5 41 (qc k) hs (fun b1 w2 h3 hs=>lL hs [.v 6 (sZ)] (lNS (lL hs [.m 9 0,.v 10 (nV ((vec n a).length))] (lK 11 41 ((vec n a).length) 5 56 (.agg #[qF,uV 0,eS,uV 0,eS]) qc 0 hs (fun b4 w5 h6 hs=>?_)))))));have hl7:(List.replicate ((vec n a).length) 0).length=((vec n a).length):=by simp
 refine lL hs [.m 7 11] (lN (cQ (cSL (lL hs [.m 12 7,.v 13 (nV ((vec n a).length)),.v 14 (iV 0)] (lN (kZ ?_))))));refine cTo _ (CG.loop (fun μ_ Γ w_=>∃ (i:Nat) (L:List Rat) (h_:Hp),μ_=n-i∧Γ=[(0,qS A ((vec n a).length) cA),(1,qS D ((vec n b).length) cD),(5,pB b1),(6,sZ),(7,qS (sB b4) ((vec n a).length) ((vec n a).length)),(13,nV ((vec n a).length)),(14,nV i)]∧SS w h w_ h_ [⟨b4,41,(L).flatMap qc⟩,⟨b1,41,qc k⟩] [] [fun h_=>Tab h_,Sq D (vec n b),Sq A (vec n a)]∧i≤n∧L.length=((vec n a).length)∧(∀ j,L.getD j 0=if j<i then (fun i_=>a i_+b i_*k) j else 0)) _ ⟨0,List.replicate ((vec n a).length) (0:Rat),h6,rfl,rfl,hs.to _ _,Nat.zero_le _,(by simp),(fun j=>by rw[rep_zero,if_neg (Nat.not_lt_zero j)])⟩ ?_);rintro _ _ w8 ⟨i,L,h9,hm10,rfl,hs,hi,hLl,hLv⟩;refine cSL ?_;cases za:(decide ((i:Int)<((((vec n a).length):Nat):Int)))
 ·
  have zc:=oF za;refine lB 15 za (lN (cQ (cIF (CG.exit ?_))))
  show CG _ _ _ _ _ _ _ _
  refine cSL ?_;have hin:i=n:=by omega
  have hLe:L=vec n (fun i=>a i+b i*k):=vec_of (hLl.trans oM) (fun j=>by rw[hLv j,hin]);obtain ⟨_,hs,sg13,lo14,bc15⟩:=hs.pub 0;replace hs:=(hs.to [⟨b1,41,qc k⟩] []).aS (SlO.of_flat (sz:=5) (f:=qc) (d:=0) (b:=b4) (o:=0) (l:=L) (fun _=>rfl) sg13);replace hs:=hs.aS (show Sq (sB b4) (vec n (fun i=>a i+b i*k)) _ from by rw[←hLe];exact hs.f.1);exact lL hs [.m 32 7,.m 6 32] (lN (kX (hs.ret [] (qS (sB b4) ((vec n a).length) ((vec n a).length)) (⟨(sB b4),((vec n a).length),sl_len (by rw[vec_len,vec_len]),(by rw[vec_len,vec_len];exact nR _),hs.f.1⟩))))
 have zc:=oT za;refine lB 15 za (lN (cQ (cIT (cK (cQ (kZ (cSL (lL hs [.m 16 14,.m 8 16] (lN (cR 13 [] mixed hs al_nil ?_))))))))));refine eV 0 17 (qS (sB b4) ((vec n a).length) ((vec n a).length)) (eV 1 18 (nV i) (eV 2 19 (qS A ((vec n a).length) cA) (eV 3 20 (nV i) (eX 4 21 A ((vec n a).length) cA 5 (i:Nat) i ((hs.f.r.1).ok oM) (eH 5 22 (qv ((vec n a).getD i 0)) hs ((hs.f.r.1).el i oM) (eV 6 23 (qS D ((vec n b).length) cD) (eV 7 24 (nV i) (eX 8 25 D ((vec n b).length) cD 5 (i:Nat) i ((hs.f.2.1).ok oM) (eH 9 26 (qv ((vec n b).getD i 0)) hs ((hs.f.2.1).el i oM) (eO 10 27 [(1,0,5)] (qv k) hs ?_))))))))));have zb:=LQ.mul (show LQ K2 ((vec n b).getD i 0) from by rw[vec_get b oM];exact hK2 i oM) hK3;refine eC 11 28 hs (fun _ _ hs=>fMul ((vec n b).getD i 0) k (LQ.mono (show LQ K2 ((vec n b).getD i 0) from by rw[vec_get b oM];exact hK2 i oM) oM) (LQ.mono hK3 oM) _ _ hs.g hs.f.1) ?_;rintro _ _ _ _ _ hs rfl;have hq20:=LQ.add (show LQ K1 ((vec n a).getD i 0) from by rw[vec_get a oM];exact hK1 i oM) zb;refine eC 12 29 hs (fun _ _ hs=>fAdd ((vec n a).getD i 0) (((vec n b).getD i 0)*k) (LQ.mono (show LQ K1 ((vec n a).getD i 0) from by rw[vec_get a oM];exact hK1 i oM) oM) (LQ.mono zb oM) _ _ hs.g hs.f.1) ?_;rintro _ _ _ _ _ hs rfl;refine eD0 hs (fun _ ze hs=>tX 13 30 (sB b4) ((vec n a).length) ((vec n a).length) 5 (i:Nat) i rfl (tW 14 0 L qc 5 i (((vec n a).getD i 0)+(((vec n b).getD i 0)*k)) hs oM (fun _ hs=>?_)));have zd:((L).set i (((vec n a).getD i 0)+(((vec n b).getD i 0)*k))).length=((vec n a).length):=by rw[List.length_set];exact hLl
 replace hs:=hs.to [⟨b4,41,((L).set i (((vec n a).getD i 0)+(((vec n b).getD i 0)*k))).flatMap qc⟩,⟨b1,41,qc k⟩] [];refine tN (kQ (lIn 31 ((i:Nat)+1) (i+1) ?_));refine lL hs [.m 14 31] (lD ?_);intro a_ ka;refine ⟨_,_,?_,⟨i+1,(L).set i (((vec n a).getD i 0)+(((vec n b).getD i 0)*k)),ze,rfl,rfl,hs.to _ _,oM,zd,(vec_set hLl hLv oM (by rw[vec_get a oM,vec_get b oM]))⟩,ka.to _ kR⟩
 omega
abbrev TV:=Value × Value × Value
def tv0:TV:=(.slice none 0 0,.slice none 0 0,.slice none 0 0)
def tvc (t:TV):List Value:=[t.1,t.2.1,t.2.2]
def TR1 (n:Nat)(s:Cst)(h:Hp)(t:TV):Prop:=(∃ A c,t.1=.slice A (vec n s.x).length c∧SlO 5 qc 0 h A (vec n s.x))∧(∃ A c,t.2.1=.slice A (vec n s.r).length c∧SlO 5 qc 0 h A (vec n s.r))∧∃ A c,t.2.2=.slice A (vec n s.w).length c∧SlO 5 qc 0 h A (vec n s.w)
theorem TR1.gw {n:Nat}{s:Cst}{h h':Hp}{t:TV}(x:TR1 n s h t)(u:Gw h h'):TR1 n s h' t:=by
  obtain ⟨⟨A,c,e,p⟩,⟨B,d,f,q⟩,C,g,i,r⟩:=x;exact ⟨⟨A,c,e,p.gw u⟩,⟨B,d,f,q.gw u⟩,C,g,i,r.gw u⟩
structure CTr (n:Nat) (A:Nat→Nat→Rat) (b x:Nat→Rat) (h:Hp) (al:List TV):Prop where
  at_:∀ i,i<al.length→TR1 n (cg n A b x i) h (al.getD i tv0)
theorem CTr.gw {n:Nat}{A:Nat→Nat→Rat}{b x:Nat→Rat}{h h':Hp}{al:List TV}(y:CTr n A b x h al)(u:Gw h h'):CTr n A b x h' al:=⟨fun i hi=>(y.at_ i hi).gw u⟩
theorem CTr.nil {n:Nat}{A:Nat→Nat→Rat}{b x:Nat→Rat}{h:Hp}:CTr n A b x h []:=⟨fun i hi=>absurd hi (Nat.not_lt_zero i)⟩
theorem CTr.snoc {n:Nat}{A:Nat→Nat→Rat}{b x:Nat→Rat}{h:Hp}{al:List TV}{t:TV}(y:CTr n A b x h al)(z:TR1 n (cg n A b x al.length) h t):CTr n A b x h (al++[t]):=⟨fun i hi=>by
  rw[List.length_append,List.length_singleton] at hi
  rw[getD_snoc]
  by_cases e:i<al.length
  · rw[if_pos e];exact y.at_ i e
  · rw[if_neg e,if_pos oM,show i=al.length by omega];exact z⟩
open Classical in
noncomputable def cjE (W:List (List Rat)) (bl xl:List Rat):Int:=if SqP W∧bl.length=W.length∧xl.length=W.length then 10 else 5
theorem cjE_10 {W:List (List Rat)}{bl xl:List Rat}(h:SqP W∧bl.length=W.length∧xl.length=W.length):cjE W bl xl=10:=if_pos h
theorem cjE_5 {W:List (List Rat)}{bl xl:List Rat}(h:¬SqP W∨(bl.length≠W.length∨xl.length≠W.length)):cjE W bl xl=5:=if_neg (fun x=>by
  rcases h with h|h|h
  · exact h x.1
  · exact h x.2.1
  · exact h x.2.2)
theorem mSqT (A:Option Addr)(cap:Nat)(us:List Value)(W:List (List Rat))(hl:W.length≤1000)(hls:∀ i,i<W.length→(W.getD i []).length≤1000)(hS:SqP W)(w:World)(h:Hp)(g:G w h)(hA:Sv A us h)(hU:QVs h us W):CV 71 #[.slice A us.length cap] w h (.bool true):=by
  have x:=mSquare A cap us W hl hls w h g hA hU;rw[sq_t hS] at x
  exact x
theorem cjClone (A:Option Addr)(c:Nat)(l:List Rat)(n:Nat)(hn:l.length=n)(hpos:0<n)(hl:n≤1000000)(w:World)(h:Hp)(g:G w h)(hA:Sq A l h):CR 63 #[.slice A l.length c] w h (fun v h1=>∃ B d,v=.slice B l.length d∧Sq B l h1):=by
  refine (sClone A l.length c l rfl oM oM w h g hA).mono ?_;rintro _ w' ⟨_,h',rfl,u,x⟩;obtain ⟨B,d,e,_,s⟩:=x.slv (d:=0) (sz:=5) (fun _=>rfl);exact ⟨_,h',rfl,u,B,d,e,s⟩
section
variable {n:Nat} {A:Nat→Nat→Rat} {b x:Nat→Rat} {t:Nat}
theorem cj_z (h:(dt n (cg n A b x t).r (cg n A b x t).r).num.sign=0):dt n (cg n A b x t).r (cg n A b x t).r=0:=Rat.num_eq_zero.1 (Int.sign_eq_zero_iff_zero.1 h)
theorem cj_nz (h:(dt n (cg n A b x t).r (cg n A b x t).r).num.sign≠0):dt n (cg n A b x t).r (cg n A b x t).r≠0:=fun e=>h (by rw[e];rfl)
theorem cj_np (h:(dt n (cg n A b x t).w (mv n A (cg n A b x t).w)).num.sign≤0):¬0<(dt n (cg n A b x t).w (mv n A (cg n A b x t).w)).num:=fun e=>by rw[Int.sign_eq_one_of_pos e] at h;omega
theorem cj_go (h:(dt n (cg n A b x t).r (cg n A b x t).r).num.sign≠0)(h2:¬(dt n (cg n A b x t).w (mv n A (cg n A b x t).w)).num.sign≤0):dt n (cg n A b x t).r (cg n A b x t).r≠0∧0<(dt n (cg n A b x t).w (mv n A (cg n A b x t).w)).num:=⟨cj_nz h,by
  rcases Int.lt_trichotomy (dt n (cg n A b x t).w (mv n A (cg n A b x t).w)).num 0 with e|e|e
  · rw[Int.sign_eq_neg_one_of_neg e] at h2;omega
  · rw[e] at h2;exact absurd kD h2
  · exact e⟩
theorem cj_all (h:∀ i,i<t→dt n (cg n A b x i).r (cg n A b x i).r≠0∧0<(dt n (cg n A b x i).w (mv n A (cg n A b x i).w)).num)(h2:dt n (cg n A b x t).r (cg n A b x t).r≠0∧0<(dt n (cg n A b x t).w (mv n A (cg n A b x t).w)).num):∀ i,i<t+1→dt n (cg n A b x i).r (cg n A b x i).r≠0∧0<(dt n (cg n A b x i).w (mv n A (cg n A b x i).w)).num:=fun i hi=>by
  by_cases e:i=t
  · rw[e];exact h2
  · exact h i oM
end
theorem cConj0 (A:Option Addr)(cap:Nat)(us:List Value)(W:List (List Rat))(hl:W.length≤1000)(hls:∀ i,i<W.length→(W.getD i []).length≤1000)(b x:Nat→Rat)(n:Nat)(hn4:n≤5)(D:Option Addr)(cD:Nat)(X:Option Addr)(cX:Nat)(hS:SymP W)(hn:W.length=n)(hK1:∀ i j,LQ 3 ((W.getD i []).getD j 0))(hb:∀ i,i<n→LQ 100000 (b i))(hx:∀ i,i<n→LQ 100000 (x i))(hB:∀ t,t≤n→CgB n (mA W) b x t)(w:World)(h:Hp)(g:G w h)(hA:Sv A us h)(hU:QVs h us W)(hD:Sq D (vec n b) h)(hX:Sq X (vec n x) h)(tb:Tab h):CR 35 #[.slice A us.length cap,.slice D ((vec n b).length) cD,.slice X ((vec n x).length) cX] w h (fun v h1=>∃ (t:Nat) (e:Int) (A:Option Addr) (c:Nat) (al:List TV),CjEnd n (mA W) b x t e∧v=.tuple #[.slice A al.length c,iV e]∧SlO 3 tvc tv0 h1 A al∧CTr n (mA W) b x h1 al∧al.length=(if e=0 then t+1 else 0)):=by
 have hs:=((((((sS g).aS hA).aQ hU).aS hD).aS hX).aB tb);have hlu:=(hs.f.r.2.1).len;have hvb:=vec_len n b;have hvx:=vec_len n x;have hSy:∀ i,i<n→∀ j,j<n→mA W i j=mA W j i:=by rw[←hn];exact hS.all
 have hB0:=hB 0 (Nat.zero_le _);have hn0:0<n:=by have:=hS.1.1.1;omega
 refine go Tryz.func35 [(0,qS A us.length cap),(1,qS D ((vec n b).length) cD),(2,qS X ((vec n x).length) cX)] rfl (cSL (lL hs [.v 6 (sZ),.v 7 (iV 0)] (lN (cQ (cSL (lL hs [.m 25 0] (lC 26 hs (mSqT A cap us W hl hls hS.1 _ _ hs.g hs.f.q.1 hs.f.r.2.1) ?_)))))));rintro _ w1 h2 hs rfl;refine lL hs [.v 27 qF,.m 28 27,.m 29 1,.v 30 (nV ((vec n b).length)),.m 31 0,.v 32 (nV us.length)] ?_;have hb3:((((vec n b).length:Nat):Int) != (us.length:Int))=false:=bneF oM;have phb3:=eqOfBne hb3;refine lB 33 hb3 (lL hs [.v 34 qF,.m 35 34,.m 36 2,.v 37 (nV ((vec n x).length)),.m 38 0,.v 39 (nV us.length)] ?_);have hb4:((((vec n x).length:Nat):Int) != (us.length:Int))=false:=bneF oM;have phb4:=eqOfBne hb4;refine lB 40 hb4 (lL hs [.v 41 qF] (lN (cIF (cK (cQ (cSL (lL hs [.m 42 0] (lC 43 hs (mSymT A cap us W hl hls (fun i j=>(hK1 i j).mono oM) hS _ _ hs.g hs.f.q.1 hs.f.r.2.1) ?_))))))));rintro _ w5 h6 hs rfl;refine lL hs [.v 44 qF] (lN (cIF (cK (cSL (lL hs [.m 46 0,.m 47 2] (lC 48 hs (mApply A cap us W hl hls x n hn4 X cX hS.1.1 hn (by rw[←hn];exact hS.1.2.symm) 3 100000 hK1 hx kD _ _ hs.g hs.f.q.1 hs.f.r.2.1 hs.f.2.1 hs.f.1) ?_))))));rintro _ w7 h8 hs ⟨Ay,cy,rfl,hcy,hAy⟩;replace hs:=hs.aS hAy;refine lL hs [.m 45 48,.v 49 (qS Ay ((vec n (mv n (mA W) x)).length) cy),.v 50 (iV 0),.m 8 49,.m 9 50] (lNS (lL hs [.m 51 1,.m 52 8] (lC 53 hs (fOf (-1) oM oM _ _ hs.g) ?_)));rintro _ w9 _ hs rfl;refine lC 54 hs (cjPlus b (mv n (mA W) x) n oM D cD Ay cy ((-1:Int):Rat) 100000 100000 1 hb (hB0.ax) (LQ.int oM oM) oM _ _ hs.g hs.f.r.2.1 hs.f.1 hs.f.2.1) ?_;rintro _ _ _ hs ⟨Xr,cr,rfl,hcr,hXr⟩;replace hs:=hs.aS hXr;refine lL hs [.m 8 54] (lNS (lL hs [.m 55 2] (lC 56 hs (cjClone X cX (vec n x) n (vec_len n _) oM oM _ _ hs.g hs.f.r.2.1) ?_)));rintro _ _ _ hs ⟨K1,ck1,rfl,hK_1⟩;replace hs:=hs.aS hK_1;refine lL hs [.m 57 8,.m 58 8] (lC 59 hs (cjClone Xr cr (vec n (cg n (mA W) b x 0).r) n (vec_len n _) oM oM _ _ hs.g hs.f.2.1) ?_);rintro _ _ _ hs ⟨K2,ck2,rfl,hK_2⟩;replace hs:=hs.aS hK_2;refine lL hs [.v 60 (.agg #[qS K1 ((vec n x).length) ck1,qS Xr ((vec n (cg n (mA W) b x 0).r).length) cr,qS K2 ((vec n (cg n (mA W) b x 0).r).length) ck2])] (lRw 61 101 3 tvc ([((qS K1 ((vec n x).length) ck1,qS Xr ((vec n (cg n (mA W) b x 0).r).length) cr,qS K2 ((vec n (cg n (mA W) b x 0).r).length) ck2):TV)]:List TV) hs (fun zj _ zk hs=>lL hs [.m 10 61] (lN (cTo [(0,qS A us.length cap),(1,qS D ((vec n b).length) cD),(6,sZ),(7,iV 0),(10,qS (sB zj) ((([((qS K1 ((vec n x).length) ck1,qS Xr ((vec n (cg n (mA W) b x 0).r).length) cr,qS K2 ((vec n (cg n (mA W) b x 0).r).length) ck2):TV)]:List TV)).length) ((([((qS K1 ((vec n x).length) ck1,qS Xr ((vec n (cg n (mA W) b x 0).r).length) cr,qS K2 ((vec n (cg n (mA W) b x 0).r).length) ck2):TV)]:List TV)).length))] ?_))));refine kZ ?_;replace hs:=hs.add (K:=fun h_=>CTr n (mA W) b x h_ ([((qS K1 ((vec n x).length) ck1,qS Xr ((vec n (cg n (mA W) b x 0).r).length) cr,qS K2 ((vec n (cg n (mA W) b x 0).r).length) ck2):TV)]:List TV)) ((CTr.nil.snoc ⟨⟨_,_,rfl,hs.f.2.1⟩,⟨_,_,rfl,hs.f.r.1⟩,⟨_,_,rfl,hs.f.1⟩⟩));replace hs:=hs.aS hs.f.2.1;replace hs:=hs.aS hs.f.q.1;replace hs:=hs.aS hs.f.q.1;refine cTo _ (CG.loop (fun μ_ Γ w_=>∃ (t:Nat) (saA:Option Addr) (sac:Nat) (al:List TV) (Ax:Option Addr) (cx:Nat) (Ar:Option Addr) (cr_:Nat) (Aw:Option Addr) (cw:Nat) (h_:Hp),μ_=n+1-t∧Γ=[(0,qS A us.length cap),(1,qS D ((vec n b).length) cD),(10,qS saA ((al).length) sac)]∧SS w h w_ h_ [] [⟨101,3,saA,sac,(al).length,(al).flatMap tvc⟩] [Sq Ax (vec n (cg n (mA W) b x t).x),Sq Ar (vec n (cg n (mA W) b x t).r),Sq Aw (vec n (cg n (mA W) b x t).w),fun h_=>CTr n (mA W) b x h_ al,Sq K2 (vec n (cg n (mA W) b x 0).r),Sq K1 (vec n x),Sq Xr (vec n (cg n (mA W) b x 0).r),Sq Ay (vec n (mv n (mA W) x)),fun h_=>Tab h_,Sq X (vec n x),Sq D (vec n b),Qu us W,Sv A us]∧al.length=t+1∧al.getD t tv0=(qS Ax (vec n (cg n (mA W) b x t).x).length cx,qS Ar (vec n (cg n (mA W) b x t).r).length cr_,qS Aw (vec n (cg n (mA W) b x t).w).length cw)∧(∀ i,i<t→dt n (cg n (mA W) b x i).r (cg n (mA W) b x i).r≠0∧0<(dt n (cg n (mA W) b x i).w (mv n (mA W) (cg n (mA W) b x i).w)).num)) _ ⟨0,sB zj,(([((qS K1 ((vec n x).length) ck1,qS Xr ((vec n (cg n (mA W) b x 0).r).length) cr,qS K2 ((vec n (cg n (mA W) b x 0).r).length) ck2):TV)]:List TV)).length,([((qS K1 ((vec n x).length) ck1,qS Xr ((vec n (cg n (mA W) b x 0).r).length) cr,qS K2 ((vec n (cg n (mA W) b x 0).r).length) ck2):TV)]:List TV),K1,ck1,Xr,cr,K2,ck2,zk,rfl,rfl,hs.to _ _,rfl,rfl,(fun i hi=>absurd hi (Nat.not_lt_zero i))⟩ ?_);rintro _ _ _ ⟨t,saA,sac,al,Ax,cx,Ar,cr_,Aw,cw,_,hm24,rfl,hs,ht,hcur,hg⟩;have htn:=cg_ends hSy (fun i hi=>goes_of (hg i hi));have hBt:=hB t htn;refine kZ (cSL (lL hs [.m 62 10,.m 63 10,.v 64 (nV ((al).length))] (lIn 65 (((al).length:Nat)-1) t ?_)));obtain ⟨za,zf⟩:=hs.rowA 0 (A:=saA) (c:=sac) (m:=(al).length) (ty:=101) (sz:=3) (cs:=(al).flatMap tvc) oM;subst zf;refine lX 66 (sB za) ((al).length) sac 3 (t:Nat) t rfl (lRq (ty:=101) (sz:=3) (c:=sac) (m:=(al).length) (b:=za) (cs:=(al).flatMap tvc) 67 0 (.agg #[qS Ax ((vec n (cg n (mA W) b x t).x).length) cx,qS Ar ((vec n (cg n (mA W) b x t).r).length) cr_,qS Aw ((vec n (cg n (mA W) b x t).w).length) cw]) ([qS Ax ((vec n (cg n (mA W) b x t).x).length) cx,qS Ar ((vec n (cg n (mA W) b x t).r).length) cr_,qS Aw ((vec n (cg n (mA W) b x t).w).length) cw]) hs ((row_el (f:=tvc) (sz:=3) (fun _=>rfl) tv0 al t oM).trans (congrArg tvc hcur)) (lA 11 101 ([sZ,sZ,sZ]) hs (fun zb _ _ hs=>lP 0 0 ([qS Ax ((vec n (cg n (mA W) b x t).x).length) cx,qS Ar ((vec n (cg n (mA W) b x t).r).length) cr_,qS Aw ((vec n (cg n (mA W) b x t).w).length) cw]) hs (fun _ hs=>lNS (lL hs [.v 69 (qP zb 1),.o 70 (qS Ar ((vec n (cg n (mA W) b x t).r).length) cr_) 0 1 1,.v 71 (qP zb 1),.o 72 (qS Ar ((vec n (cg n (mA W) b x t).r).length) cr_) 0 1 1] (lC 73 hs (cjDotV (cg n (mA W) b x t).r (cg n (mA W) b x t).r n Ar cr_ Ar cr_ 100000 100000 oM kD hBt.r hBt.r _ _ hs.g hs.f.2.1 hs.f.2.1 hs.f.q.q.1) ?_))))));rintro _ _ _ hs rfl;refine lL hs [.m 68 73,.v 74 (qv (dt n (cg n (mA W) b x t).r (cg n (mA W) b x t).r)),.v 75 qT] (lA 12 41 ([qF,uV 0,eS,uV 0,eS]) hs (fun zl _ _ hs=>lP 0 0 (qc (dt n (cg n (mA W) b x t).r (cg n (mA W) b x t).r)) hs (fun _ hs=>lL hs [.m 13 75] (lN (cQ (cSL (lL hs [.o 76 (qv (dt n (cg n (mA W) b x t).r (cg n (mA W) b x t).r)) 0 0 5] (lC 77 hs (fSign (dt n (cg n (mA W) b x t).r (cg n (mA W) b x t).r) (hBt.rr.mono oM) _ _ hs.g) ?_))))))));rintro _ _ _ hs rfl;cases zd:(((dt n (cg n (mA W) b x t).r (cg n (mA W) b x t).r).num.sign:Int) == (0:Int))
 ·
  have zg:=neOfBeq zd;refine lB 78 zd (lN (cIF (cK (cSL (lL hs [.m 81 0,.v 82 (qP zb 2),.o 83 (qS Aw ((vec n (cg n (mA W) b x t).w).length) cw) 1 2 1] (lC 84 hs (qValue A cap us W hl hls (cg n (mA W) b x t).w n oM Aw cw hS hn 3 100000 100000 hK1 hBt.w hBt.aw kD kD _ _ hs.g hs.f.q.q.q.1 hs.f.q.q.r.2.1 hs.f.r.1 hs.f.q.q.1) ?_))))));rintro _ _ _ hs rfl;refine lL hs [.m 80 84,.v 85 (qv (dt n (cg n (mA W) b x t).w (mv n (mA W) (cg n (mA W) b x t).w))),.v 86 (iV 0)] (lA 14 41 ([qF,uV 0,eS,uV 0,eS]) hs (fun b42 _ _ hs=>lP 0 0 (qc (dt n (cg n (mA W) b x t).w (mv n (mA W) (cg n (mA W) b x t).w))) hs (fun _ hs=>lL hs [.m 15 86] (lN (cQ (cSL (lL hs [.o 87 (qv (dt n (cg n (mA W) b x t).w (mv n (mA W) (cg n (mA W) b x t).w))) 0 0 5] (lC 88 hs (fSign (dt n (cg n (mA W) b x t).w (mv n (mA W) (cg n (mA W) b x t).w)) (hBt.ww.mono oM) _ _ hs.g) ?_))))))));rintro _ _ _ hs rfl;cases ze:(decide (((dt n (cg n (mA W) b x t).w (mv n (mA W) (cg n (mA W) b x t).w)).num.sign:Int)≤(0:Int)))
  ·
   have zi:=oF ze;refine lB 89 ze (lN (cIF (cK (cSL (lL hs [.o 91 (qv (dt n (cg n (mA W) b x t).r (cg n (mA W) b x t).r)) 1 0 5,.o 92 (qv (dt n (cg n (mA W) b x t).w (mv n (mA W) (cg n (mA W) b x t).w))) 0 0 5] ?_)))));have hgo:=cj_go (n:=n) (A:=(mA W)) (b:=b) (x:=x) (t:=t) oM oM;have hg1:∀ i,i<t+1→_:=cj_all hg hgo;have htn1:=cg_ends hSy (fun i hi=>goes_of (hg1 i hi));have hB1:=hB (t+1) htn1;refine lC 93 hs (fDivN (dt n (cg n (mA W) b x t).r (cg n (mA W) b x t).r) (dt n (cg n (mA W) b x t).w (mv n (mA W) (cg n (mA W) b x t).w)) (hBt.rr.mono oM) (hBt.ww.mono oM) (by have:=Int.sign_eq_zero_iff_zero (a:=(dt n (cg n (mA W) b x t).w (mv n (mA W) (cg n (mA W) b x t).w)).num);omega) _ _ hs.g hs.f.q.q.1) ?_;rintro _ _ _ hs rfl;refine lL hs [.m 90 93,.v 94 (qv (cgK n (mA W) (cg n (mA W) b x t))),.v 95 qT] (lA 16 41 ([qF,uV 0,eS,uV 0,eS]) hs (fun zm _ _ hs=>lP 0 0 (qc (cgK n (mA W) (cg n (mA W) b x t))) hs (fun _ hs=>lL hs [.m 17 95] (lN (cTo [(0,qS A us.length cap),(1,qS D ((vec n b).length) cD),(10,qS (sB za) ((al).length) sac),(11,pB zb),(12,pB zl),(16,pB zm)] ?_)))));refine cSL (lL hs [.v 96 (pB zb),.o 97 (qS Ax ((vec n (cg n (mA W) b x t).x).length) cx) 3 0 1,.v 98 (qP zb 2),.o 99 (qS Aw ((vec n (cg n (mA W) b x t).w).length) cw) 3 2 1,.o 100 (qv (cgK n (mA W) (cg n (mA W) b x t))) 0 0 5] (lC 101 hs (cjPlus (cg n (mA W) b x t).x (cg n (mA W) b x t).w n oM Ax cx Aw cw (cgK n (mA W) (cg n (mA W) b x t)) 100000 100000 100000 hBt.xx hBt.w hBt.k oM _ _ hs.g hs.f.1 hs.f.r.1 hs.f.q.q.1) ?_));rintro _ _ _ hs ⟨Xn,cn,rfl,hcn,hXn⟩;replace hs:=hs.aS hXn;refine lL hs [.v 102 (.agg #[qS Xn ((vec n (cg n (mA W) b x (t+1)).x).length) cn,sZ,sZ])] (lA 18 101 ([sZ,sZ,sZ]) hs (fun zc _ _ hs=>lP 0 0 ([qS Xn ((vec n (cg n (mA W) b x (t+1)).x).length) cn,sZ,sZ]) hs (fun _ hs=>lNS (lL hs [.m 104 0,.v 105 (pB zc),.o 106 (qS Xn ((vec n (cg n (mA W) b x (t+1)).x).length) cn) 0 0 1] (lC 107 hs (mApply A cap us W hl hls ((cg n (mA W) b x (t+1)).x) n hn4 Xn cn hS.1.1 hn (by rw[←hn];exact hS.1.2.symm) 3 100000 hK1 hB1.xx kD _ _ hs.g hs.f.q.q.q.2.1 hs.f.q.q.q.1 hs.f.1 hs.f.q.q.2.1) ?_)))));rintro _ _ _ hs ⟨Az,cz,rfl,hcz,hAz⟩;replace hs:=hs.aS hAz;refine lL hs [.m 103 107,.v 108 (qS Az ((vec n (mv n (mA W) (cg n (mA W) b x (t+1)).x)).length) cz),.v 109 (iV 0),.m 19 108,.m 20 109] (lNS (lL hs [.m 110 1,.m 111 19] (lC 112 hs (fOf (-1) oM oM _ _ hs.g) ?_)));rintro _ _ _ hs rfl;refine lC 113 hs (cjPlus b (mv n (mA W) (cg n (mA W) b x (t+1)).x) n oM D cD Az cz ((-1:Int):Rat) 100000 100000 1 hb hB1.ax (LQ.int oM oM) oM _ _ hs.g hs.f.q.q.q.1 hs.f.1 hs.f.q.q.r.1) ?_;rintro _ _ _ hs ⟨Xm,cm,rfl,hcm,hXm⟩;replace hs:=hs.aS hXm;refine lL hs [.v 114 (qP zc 1)] (lP 0 1 ([qS Xm ((vec n (cg n (mA W) b x (t+1)).r).length) cm]) hs (fun _ hs=>lNS (lL hs [.v 116 (qP zc 1),.o 117 (qS Xm ((vec n (cg n (mA W) b x (t+1)).r).length) cm) 0 1 1,.v 118 (qP zc 1),.o 119 (qS Xm ((vec n (cg n (mA W) b x (t+1)).r).length) cm) 0 1 1] (lC 120 hs (cjDotV (cg n (mA W) b x (t+1)).r (cg n (mA W) b x (t+1)).r n Xm cm Xm cm 100000 100000 oM kD hB1.r hB1.r _ _ hs.g hs.f.1 hs.f.1 hs.f.q.q.r.2.1) ?_))));rintro _ _ _ hs rfl;refine lL hs [.m 115 120,.v 121 (qv (dt n (cg n (mA W) b x (t+1)).r (cg n (mA W) b x (t+1)).r)),.v 122 qT] (lA 21 41 ([qF,uV 0,eS,uV 0,eS]) hs (fun b70 _ _ hs=>lP 0 0 (qc (dt n (cg n (mA W) b x (t+1)).r (cg n (mA W) b x (t+1)).r)) hs (fun _ hs=>lL hs [.m 22 122] (lNS (lL hs [.o 124 (qv (dt n (cg n (mA W) b x (t+1)).r (cg n (mA W) b x (t+1)).r)) 0 0 5,.o 125 (qv (dt n (cg n (mA W) b x t).r (cg n (mA W) b x t).r)) 4 0 5] (lC 126 hs (fDivN (dt n (cg n (mA W) b x (t+1)).r (cg n (mA W) b x (t+1)).r) (dt n (cg n (mA W) b x t).r (cg n (mA W) b x t).r) (hB1.rr.mono oM) (hBt.rr.mono oM) (fun e_=>hgo.1 (Rat.num_eq_zero.1 e_)) _ _ hs.g hs.f.q.q.r.2.1) ?_))))));rintro _ _ _ hs rfl;refine lL hs [.m 123 126,.v 127 (qv ((dt n (cg n (mA W) b x (t+1)).r (cg n (mA W) b x (t+1)).r)/(dt n (cg n (mA W) b x t).r (cg n (mA W) b x t).r))),.v 128 qT] (lA 23 41 ([qF,uV 0,eS,uV 0,eS]) hs (fun zn _ _ hs=>lP 0 0 (qc ((dt n (cg n (mA W) b x (t+1)).r (cg n (mA W) b x (t+1)).r)/(dt n (cg n (mA W) b x t).r (cg n (mA W) b x t).r))) hs (fun _ hs=>lL hs [.m 24 128] (lN (cTo [(0,qS A us.length cap),(1,qS D ((vec n b).length) cD),(10,qS (sB za) ((al).length) sac),(11,pB zb),(18,pB zc),(23,pB zn)] ?_)))));refine cSL (lL hs [.v 129 (qP zc 1),.o 130 (qS Xm ((vec n (cg n (mA W) b x (t+1)).r).length) cm) 2 1 1,.v 131 (qP zb 2),.o 132 (qS Aw ((vec n (cg n (mA W) b x t).w).length) cw) 6 2 1,.o 133 (qv ((dt n (cg n (mA W) b x (t+1)).r (cg n (mA W) b x (t+1)).r)/(dt n (cg n (mA W) b x t).r (cg n (mA W) b x t).r))) 0 0 5] (lC 134 hs (cjPlus (cg n (mA W) b x (t+1)).r (cg n (mA W) b x t).w n oM Xm cm Aw cw ((dt n (cg n (mA W) b x (t+1)).r (cg n (mA W) b x (t+1)).r)/(dt n (cg n (mA W) b x t).r (cg n (mA W) b x t).r)) 100000 100000 200000 hB1.r hBt.w (hB1.rr.div hBt.rr) oM _ _ hs.g hs.f.1 hs.f.q.2.1 hs.f.q.q.r.2.1) ?_));rintro _ _ _ hs ⟨Xv,cv,rfl,hcv,hXv⟩;replace hs:=hs.aS hXv;refine lL hs [.v 135 (qP zc 2)] (lP 2 2 ([qS Xv ((vec n (cg n (mA W) b x (t+1)).w).length) cv]) hs (fun _ hs=>lN (kQ (lL hs [.m 136 10,.o 137 (.agg #[qS Xn ((vec n (cg n (mA W) b x (t+1)).x).length) cn,qS Xm ((vec n (cg n (mA W) b x (t+1)).r).length) cm,qS Xv ((vec n (cg n (mA W) b x (t+1)).w).length) cv]) 2 0 3] (lR 138 101 1 ([qS Xn ((vec n (cg n (mA W) b x (t+1)).x).length) cn,qS Xm ((vec n (cg n (mA W) b x (t+1)).r).length) cm,qS Xv ((vec n (cg n (mA W) b x (t+1)).w).length) cv]) hs (fun zo _ _ hs=>lY 139 0 101 3 sac (sB za) al tvc ((qS Xn ((vec n (cg n (mA W) b x (t+1)).x).length) cn,qS Xm ((vec n (cg n (mA W) b x (t+1)).r).length) cm,qS Xv ((vec n (cg n (mA W) b x (t+1)).w).length) cv):TV) 72 zo (.agg #[sZ,sZ,sZ]) hs hs.f.1 (fun zp zq _ zr hs=>lL hs [.m 10 139] (lD ?_))))))));intro a_ ka;replace hs:=((((hs.tl.tl.tl.tl.tl.tl.tl.tl.tl.add (K:=fun h_=>CTr n (mA W) b x h_ (al++[((qS Xn ((vec n (cg n (mA W) b x (t+1)).x).length) cn,qS Xm ((vec n (cg n (mA W) b x (t+1)).r).length) cm,qS Xv ((vec n (cg n (mA W) b x (t+1)).w).length) cv):TV)])) ((hs.f.q.q.1).snoc (by rw[ht];exact ⟨⟨_,_,rfl,hs.f.q.1⟩,⟨_,_,rfl,hs.f.r.1⟩,⟨_,_,rfl,hs.f.2.1⟩⟩))).aS hs.f.2.1).aS hs.f.r.1).aS hs.f.q.1);replace hs:=hs.drop 7 0;refine ⟨_,_,?_,⟨t+1,zp,zq,al++[((qS Xn ((vec n (cg n (mA W) b x (t+1)).x).length) cn,qS Xm ((vec n (cg n (mA W) b x (t+1)).r).length) cm,qS Xv ((vec n (cg n (mA W) b x (t+1)).w).length) cv):TV)],Xn,cn,Xm,cm,Xv,cv,zr,rfl,rfl,hs.to _ _,(by rw[List.length_append,ht];rfl),(by rw[getD_snoc,if_neg oM,if_pos oM]),hg1⟩,ka.to _ kR⟩
   omega
  have zi:=oT ze;exact lB 89 ze (lN (cIT (cSL (lL hs [.v 6 (sZ),.v 7 (iV 9)] (lN (kX (hs.ret [] (.tuple #[sZ,iV 9]) (⟨t,9,none,0,[],⟨hg,.inr ⟨rfl,cj_nz oM,cj_np oM⟩⟩,rfl,SlO.nil,CTr.nil,by rw[if_neg kD];rfl⟩))))))))
 have zg:=eq_of_beq zd;refine lB 78 zd (lN (cIT (cSL ?_)));obtain ⟨_,hs,hc100⟩:=hs.pubr 0 (A:=sB za) (c:=sac) (l:=al) (f:=tvc) (ty:=101) (sz:=3) tv0 (fun _=>rfl);exact lL hs [.m 79 10,.m 6 79,.v 7 (iV 0)] (lN (kX (hs.ret [] (.tuple #[qS (sB za) ((al).length) sac,iV 0]) (⟨t,0,_,_,al,⟨hg,.inl ⟨rfl,cj_z oM⟩⟩,rfl,hs.f.1,hs.f.q.1,by rw[if_pos rfl];exact ht⟩))))
theorem cConjE (A:Option Addr)(cap:Nat)(us:List Value)(W:List (List Rat))(hl:W.length≤1000)(hls:∀ i,i<W.length→(W.getD i []).length≤1000)(D:Option Addr)(cD:Nat)(bl:List Rat)(X:Option Addr)(cX:Nat)(xl:List Rat)(hbl:bl.length≤1000)(hxl:xl.length≤1000)(hq:∀ i j,LQ 100000000 ((W.getD i []).getD j 0))(hE:¬SymP W∨bl.length≠W.length∨xl.length≠W.length)(w:World)(h:Hp)(g:G w h)(hA:Sv A us h)(hU:QVs h us W)(hD:Sq D bl h)(hX:Sq X xl h)(tb:Tab h):CV 35 #[.slice A us.length cap,.slice D bl.length cD,.slice X xl.length cX] w h (.tuple #[sZ,iV (cjE W bl xl)]):=by
 have hs:=((((((sS g).aS hA).aQ hU).aS hD).aS hX).aB tb);have hlu:=(hs.f.r.2.1).len;refine go Tryz.func35 [(0,qS A us.length cap),(1,qS D bl.length cD),(2,qS X xl.length cX)] rfl (cSL (lL hs [.v 6 (sZ),.v 7 (iV 0)] (lN (cQ (cSL (lL hs [.m 25 0] (lC 26 hs (mSquare A cap us W hl hls _ _ hs.g hs.f.q.1 hs.f.r.2.1) ?_)))))));rintro _ w1 h2 hs rfl;cases hb3:(sqq W)
 ·
  refine lL hs [.v 27 qT,.m 28 27] (lG 29 ?_);refine lG 30 (lG 31 (lG 32 (lG 33 (lL hs [.v 34 qT,.m 35 34] (lG 36 ?_)))));exact lG 37 (lG 38 (lG 39 (lG 40 (lL hs [.v 41 qT] (lN (cIT (cSL (lL hs [.v 6 (sZ),.v 7 (iV 5)] (lN (kX (hs.ret [] (.tuple #[sZ,iV 5]) (by rw[cjE_5 (by first|exact .inl (sq_not aM)|exact .inr oM)]))))))))))))
 refine lL hs [.v 27 qF,.m 28 27,.m 29 1,.v 30 (nV bl.length),.m 31 0,.v 32 (nV us.length)] ?_;cases hb4:((bl.length:Int) != (us.length:Int))
 ·
  have phb4:=eqOfBne hb4;refine lB 33 hb4 (lL hs [.v 34 qF,.m 35 34,.m 36 2,.v 37 (nV xl.length),.m 38 0,.v 39 (nV us.length)] ?_);cases hb5:((xl.length:Int) != (us.length:Int))
  ·
   have phb5:=eqOfBne hb5;refine lB 40 hb5 (lL hs [.v 41 qF] (lN (cIF (cK (cQ (cSL (lL hs [.m 42 0] (lC 43 hs (mSym A cap us W hl hls hq _ _ hs.g hs.f.q.1 hs.f.r.2.1) ?_))))))));rintro _ w6 h7 hs rfl;have hb8:(symq W)=false:=sym_f (fun h_=>by rcases hE with e_|e_|e_;exact e_ h_;all_goals omega);rw[hb8];exact lL hs [.v 44 qT] (lN (cIT (cSL (lL hs [.v 6 (sZ),.v 7 (iV 10)] (lN (kX (hs.ret [] (.tuple #[sZ,iV 10]) (by rw[cjE_10 ⟨sq_is aM,by omega,by omega⟩]))))))))
  have phb5:=neOfBne hb5;exact lB 40 hb5 (lL hs [.v 41 qT] (lN (cIT (cSL (lL hs [.v 6 (sZ),.v 7 (iV 5)] (lN (kX (hs.ret [] (.tuple #[sZ,iV 5]) (by rw[cjE_5 (by first|exact .inl (sq_not aM)|exact .inr oM)])))))))))
 have phb4:=neOfBne hb4;refine lB 33 hb4 (lL hs [.v 34 qT,.m 35 34] (lG 36 ?_));exact lG 37 (lG 38 (lG 39 (lG 40 (lL hs [.v 41 qT] (lN (cIT (cSL (lL hs [.v 6 (sZ),.v 7 (iV 5)] (lN (kX (hs.ret [] (.tuple #[sZ,iV 5]) (by rw[cjE_5 (by first|exact .inl (sq_not aM)|exact .inr oM)]))))))))))))
def Tw (D E:Nat)(q:Rat):Prop:=∃ N:Int,N.natAbs≤E∧q*((D:Nat):Rat)=(N:Rat)
theorem Tw.zero {D E:Nat}:Tw D E 0:=⟨0,Nat.zero_le _,by rw[Rat.zero_mul];rfl⟩
structure Dfn (n:Nat) (W:List (List Rat)):Prop where
  len:W.length=n
  wd:∀ i,(W.getD i []).length≤n
  e:∀ i j,Tw 144 262144 ((W.getD i []).getD j 0)
theorem Dfn.md {n m:Nat}{W:List (List Rat)}(h:Dfn n W):MD m 18 (mA W):=⟨144,by decide,by decide,fun i _ j _=>by
  obtain ⟨N,a,b⟩:=h.e i j;exact ⟨N,a,b⟩⟩
theorem Dfn.lq {n:Nat}{W:List (List Rat)}(h:Dfn n W)(i j:Nat):LQ 3 ((W.getD i []).getD j 0):=by
  obtain ⟨N,a,b⟩:=h.e i j;exact (SD.lq (e:=18) (k:=1) ⟨N,144,by decide,by decide,a,b⟩ kD).mono kD
theorem LQ.up8 {q:Rat}(h:LQ 1 q):LQ 100000000 q:=h.mono kD
theorem lQ_ (A:Option Addr)(c:Nat)(zs:List Int)(hl:zs.length≤1000)(hz:I64s zs)(w:World)(h:Hp)(g:G w h)(hA:Si A zs h):CR 36 #[.slice A zs.length c] w h (fun v h1=>∃ A c,v=.slice A (zs.map (fun z:Int=>(z:Rat))).length c∧(zs.map (fun z:Int=>(z:Rat))).length≤c∧Sq A (zs.map (fun z:Int=>(z:Rat))) h1):=by
 have hs:=((sS g).aS hA);refine go Tryz.func36 [(0,qS A zs.length c)] rfl (cSL (lL hs [.v 2 (sZ)] (lNS (lL hs [.v 3 (sZ)] (lN (cQ (cSL (lL hs [.v 4 (iV 0)] (lN (kZ ?_))))))))));replace hs:=hs.nil 41 5;refine cTo [(0,qS A zs.length c),(2,sZ),(4,iV 0),(3,sZ)] ?_;refine CG.loop (fun μ_ Γ w_=>∃ (k:Nat) (sA:Option Addr) (sc:Nat) (ql:List Rat) (h_:Hp),μ_=zs.length-k∧Γ=[(0,qS A zs.length c),(2,sZ),(4,nV k),(3,qS sA ((ql).length) sc)]∧SS w h w_ h_ [] [⟨41,5,sA,sc,(ql).length,(ql).flatMap qc⟩] [Si A zs]∧k≤zs.length∧ql=(zs.take k).map (fun z:Int=>(z:Rat))) _ ⟨0,none,0,[],h,rfl,rfl,hs.to _ _,Nat.zero_le _,rfl⟩ ?_;rintro _ _ w1 ⟨k,sA,sc,ql,h2,hm3,rfl,hs,hk,hql⟩;have htk:ql.length=k:=by rw[hql];simp;omega
 refine cQ (cSL (lL hs [.m 5 4,.m 6 0,.v 7 (nV zs.length)] ?_));cases hb4:(decide ((k:Int)<(zs.length:Int)))
 ·
  have phb4:=oF hb4;refine lB 8 hb4 (lN (cIF (CG.exit ?_)))
  show CG _ _ _ _ _ _ _ _
  refine cSL (lL hs [.m 19 3,.m 2 19] (lN (kX ?_)));have hkq:ql=(zs.map (fun z:Int=>(z:Rat))):=by rw[hql,List.take_of_length_le oM]
  obtain ⟨h5,hs,hc6⟩:=hs.pubr 0 (A:=sA) (c:=sc) (l:=ql) (f:=qc) (ty:=41) (sz:=5) 0 (fun _=>rfl);exact hs.ret [] (qS sA ((ql).length) sc) (by rw[←hkq];exact ⟨_,_,rfl,hc6,hs.f.1⟩)
 have phb4:=oT hb4;refine lB 8 hb4 (lN (cIT (cK (cQ (kZ (kQ (lL hs [.m 11 3,.m 12 0,.m 13 4] (lX 14 A zs.length c 1 (k:Nat) k ((hs.f.1).ok oM) ?_))))))));refine lH 15 (iV (zs.getD k 0)) hs ((hs.f.1).el k oM) (lC 16 hs (fOf (zs.getD k 0) (hz k).1 (hz k).2 _ _ hs.g) ?_);rintro _ w8 h9 hs rfl;refine lR 17 41 1 (qc ((zs.getD k 0:Int):Rat)) hs (fun za _ _ hs=>lY 18 0 41 5 sc sA ql qc ((zs.getD k 0:Int):Rat) 56 za (.agg #[qF,uV 0,eS,uV 0,eS]) hs hs.f.1 (fun zb zc _ zd hs=>lL hs [.m 3 18] (lN (kQ (lL hs [.m 9 4] (lIn 10 ((k:Nat)+1) (k+1) ?_))))));refine lL hs [.m 4 10] (lD ?_);intro a_ ka;replace hs:=hs.tl;refine ⟨_,_,?_,⟨k+1,zb,zc,ql++[((zs.getD k 0:Int):Rat)],zd,rfl,rfl,hs.to _ _,oM,(by rw[take_snoc' 0 oM,List.map_append,hql];rfl)⟩,ka.to _ kR⟩
 omega
def CjR (W:List (List Rat))(bl xl:List Rat)(t:Nat)(e:Int):Prop:=(SymP W∧bl.length=W.length∧xl.length=W.length)∧CjEnd W.length (mA W) (fun i=>bl.getD i 0) (fun i=>xl.getD i 0) t e∨¬(SymP W∧bl.length=W.length∧xl.length=W.length)∧t=0∧e=cjE W bl xl
theorem CjR.uniq {W:List (List Rat)}{bl xl:List Rat}{t t':Nat}{e e':Int}(h:CjR W bl xl t e)(h':CjR W bl xl t' e'):t=t'∧e=e':=by
  rcases h with ⟨a,b⟩|⟨a,b,c⟩<;>rcases h' with ⟨a',b'⟩|⟨a',b',c'⟩
  · exact b.uniq b'
  · exact absurd a a'
  · exact absurd a' a
  · exact ⟨by rw[b,b'],by rw[c,c']⟩
theorem cjE_ne (W:List (List Rat))(bl xl:List Rat):cjE W bl xl≠0:=by unfold cjE;split<;>decide
structure Rwq (l:List Rat):Prop where
  len:l.length≤5
  cd:∀ n,CD n 8 (fun i=>l.getD i 0)
theorem Rwq.lq {l:List Rat}(h:Rwq l)(i:Nat):LQ 1 (l.getD i 0):=((h.cd (i+1)).at_ (Nat.lt_succ_self i)).lq kD
theorem cj_B {n:Nat}{W:List (List Rat)}(hD:Dfn n W)(hn:n≤4){bl xl:List Rat}(hb:Rwq bl)(hx:Rwq xl){t:Nat}(ht:t≤W.length):CgB W.length (mA W) (fun i=>bl.getD i 0) (fun i=>xl.getD i 0) t:=cg_B (by have:=hD.len;omega) hD.md (hb.cd _) (hx.cd _) (by have:=hD.len;omega)
theorem cConjA (A:Option Addr)(cap:Nat)(us:List Value)(W:List (List Rat))(n:Nat)(hD:Dfn n W)(hn:n≤4)(D:Option Addr)(cD:Nat)(bl:List Rat)(X:Option Addr)(cX:Nat)(xl:List Rat)(hb:Rwq bl)(hx:Rwq xl)(w:World)(h:Hp)(g:G w h)(hA:Sv A us h)(hU:QVs h us W)(hDb:Sq D bl h)(hX:Sq X xl h)(tb:Tab h):CR 35 #[.slice A us.length cap,.slice D bl.length cD,.slice X xl.length cX] w h (fun v h1=>∃ (t:Nat) (e:Int) (A:Option Addr) (c:Nat) (al:List TV),CjR W bl xl t e∧v=.tuple #[.slice A al.length c,iV e]∧SlO 3 tvc tv0 h1 A al∧CTr W.length (mA W) (fun i=>bl.getD i 0) (fun i=>xl.getD i 0) h1 al∧al.length=(if e=0 then t+1 else 0)):=by
  have hlW:=hD.len;have hl:W.length≤1000:=by omega
  have hls:∀ i,i<W.length→(W.getD i []).length≤1000:=fun i _=>by have:=hD.wd i;omega
  have hbl:=hb.len;have hxl:=hx.len
  by_cases hc:SymP W∧bl.length=W.length∧xl.length=W.length
  · have e1:bl=vec W.length (fun i=>bl.getD i 0):=vec_eq hc.2.1 (fun _ _=>rfl)
    have e2:xl=vec W.length (fun i=>xl.getD i 0):=vec_eq hc.2.2 (fun _ _=>rfl);rw[e1] at hDb
    rw[e2] at hX
    have x:=cConj0 A cap us W hl hls (fun i=>bl.getD i 0) (fun i=>xl.getD i 0) W.length oM D cD X cX hc.1 rfl (fun i j=>hD.lq i j) (fun i _=>(hb.lq i).mono kD) (fun i _=>(hx.lq i).mono kD) (fun t ht=>cj_B hD hn hb hx ht) w h g hA hU hDb hX tb;rw[←e1,←e2] at x
    refine x.mono ?_;rintro _ w' ⟨v,h',rfl,u,t,e,A',c',al,k1,k2,k3,k4,k5⟩;exact ⟨v,h',rfl,u,t,e,A',c',al,.inl ⟨hc,k1⟩,k2,k3,k4,k5⟩
  · have x:=cConjE A cap us W hl hls D cD bl X cX xl oM oM (fun i j=>(hD.lq i j).mono kD) (by
      by_cases a:SymP W
      · by_cases b:bl.length=W.length
        · exact .inr (.inr (fun c=>hc ⟨a,b,c⟩))
        · exact .inr (.inl b)
      · exact .inl a) w h g hA hU hDb hX tb
    refine x.mono ?_;rintro _ w' ⟨v,h',rfl,u,k⟩;exact ⟨v,h',rfl,u,0,_,none,0,[],.inr ⟨hc,rfl,rfl⟩,k,SlO.nil,CTr.nil,by rw[if_neg (cjE_ne _ _ _)];rfl⟩
def knW:List (List Rat):=[[((2:Int):Rat),((0:Int):Rat)],[((0:Int):Rat),((1:Int):Rat)]]
def knb:List Rat:=[((2:Int):Rat),((1:Int):Rat)]
def knx:List Rat:=[((0:Int):Rat),((0:Int):Rat)]
theorem kn_tw (i j:Nat):Tw 144 262144 ((knW.getD i []).getD j 0):=by
  have h0:∀ z:Int,z.natAbs≤2→Tw 144 262144 ((z:Int):Rat):=fun z hz=>⟨z*144,by rw[Int.natAbs_mul];exact Nat.le_trans (Nat.mul_le_mul_right _ hz) kD,by rw[Rat.intCast_mul];rfl⟩
  match i,j with
  | 0,0=>exact h0 2 kD
  | 0,1=>exact h0 0 kD
  | 0,j+2=>exact Tw.zero
  | 1,0=>exact h0 0 kD
  | 1,1=>exact h0 1 kD
  | 1,j+2=>exact Tw.zero
  | i+2,j=>exact Tw.zero
end Go.Proofs.YteaminoddghjcaaGreatDoor
