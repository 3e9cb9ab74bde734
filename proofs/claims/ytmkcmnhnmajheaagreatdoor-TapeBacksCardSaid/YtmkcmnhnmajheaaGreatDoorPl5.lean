/- Laws and contracts that the card of this claim stands on, part 6. No condition of ours. -/
import Derived.Test.YtmkcmnhnmajheaaGreatDoorPl0
import Derived.Test.YtmkcmnhnmajheaaGreatDoorPl1
import Derived.Test.YtmkcmnhnmajheaaGreatDoorPl2
import Derived.Test.YtmkcmnhnmajheaaGreatDoorPl3
import Derived.Test.YtmkcmnhnmajheaaGreatDoorPl4
set_option maxRecDepth 100000
set_option maxHeartbeats 4000000
namespace Go.Proofs.YtmkcmnhnmajheaaGreatDoor
open Go.RowKit
open Go.RowKit Go.Shelf
section ops
variable {P:Program} {Γ:Env} {o:Oper}
end ops
section laws
variable {M:Ms} {P:Program} {ops:Array Oper} {Q:Exit→Act→World→Prop} {k0:Nat}
theorem E.event2 {h0:Hp}{AL:List Al}{L:Array Bool}{a:Act}{w:World}{h:Hp}{i:Nat}{o:Oper}{i2:Nat}{o2:Oper}
    (hi:ops[i]?=some o)(hi2:ops[i2]?=some o2)(hk:i<k0)(hk2:i2<k0)(hsel:Region.noSelect ops=true)(hun:L.getD i true=false)
    (only:∀ j oj,ops[j]?=some oj→L.getD j true=false→j≠i→j≠i2→(∀ x∈AL,x.i≠j)→∃ e∈oj.after,Region.binds .any e=true∧L.getD e.on false=false∧∀ x∈AL,x.i≠e.on)
    (hdep:∀ e∈o.after,Region.binds .any e=true→L.getD e.on false=true)
    (hal:∀ x∈AL,x.i≠i∧x.t ∉ o.looksAt ops∧o.dst≠some x.t)(hal2:∀ x∈AL,x.i≠i2∧x.t ∉ o2.looksAt ops∧o2.dst≠some x.t)(oks:∀ x∈AL,AlOk P ops k0 x)(hM:∀ b∈M.l,b<h0.size)(g:G w h)(hsz:h0.size≤h.size)
    (H:∀ w' h',Up w h w' h'→OpR P ops o a w' (fun v w''=>∃ h'',UpM M.l w' h' w'' h''∧E M P ops Q k0 h0 AL (L.setIfInBounds i true) (a.put o.dst v) w'' h''))
    (H2:∀ w' h',Up w h w' h'→OpR P ops o2 a w' (fun v w''=>∃ h'',UpM M.l w' h' w'' h''∧E M P ops Q k0 h0 AL (L.setIfInBounds i2 true) (a.put o2.dst v) w'' h'')):E M P ops Q k0 h0 AL L a w h:=by
  have key:∀ (m:Nat) (T:List Al),T.length=m→∀ w' h',Up w h w' h'→∀ (S:List SA),(S.map (·.1)++T).Perm AL→(∀ s∈S,Blk h0 w' h' s)→(S.map (·.2)).Nodup →
      A M P ops Q k0 (addL L S) (addA a S) w':=by
    intro m
    induction m using Nat.strongRecOn with
    | _ m ih =>
      intro T hT w' h' u S hp hb hn;have hS':∀ s∈S,s.1.i≠i∧s.1.t ∉ o.looksAt ops∧o.dst≠some s.1.t:=fun s hs=>hal _ (mem_perm hp hs)
      have hS2:∀ s∈S,s.1.i≠i2∧s.1.t ∉ o2.looksAt ops∧o2.dst≠some s.1.t:=fun s hs=>hal2 _ (mem_perm hp hs)
      refine A.intro (fun h0'=>?_) (fun j hj=>?_)
      · exfalso
        have:i∈Region.ready .any ops (addL L S):=mem_ready.2 ⟨by rw[addL_ne true (fun s hs=>(hS' s hs).1)];exact hun,o,hi,fun e he hbd=>addL_true (hdep e he hbd)⟩;rw[h0'] at this
        cases this
      · by_cases hji:j=i
        · subst hji
          refine OpR.wpOp hi ((H w' h' u).addA (Region.noSelect_spec hsel j o · · hi) S (fun s hs=>(hS' s hs).2.1)) ?_;rintro v w'' ⟨h'',u2,H3⟩;refine ⟨Rl.mo hk u2.mo,?_⟩;rw[←addL_set L S j (fun s hs=>(hS' s hs).1),←addA_put a S o.dst v (fun s hs=>(hS' s hs).2.2)];exact H3 w'' h'' (Up.refl u2.g) S T hp (fun s hs=>(hb s hs).up u2 hM) hn
        · by_cases hj2:j=i2
          · subst hj2
            refine OpR.wpOp hi2 ((H2 w' h' u).addA (Region.noSelect_spec hsel j o2 · · hi2) S (fun s hs=>(hS2 s hs).2.1)) ?_;rintro v w'' ⟨h'',u2,H3⟩;refine ⟨Rl.mo hk2 u2.mo,?_⟩;rw[←addL_set L S j (fun s hs=>(hS2 s hs).1),←addA_put a S o2.dst v (fun s hs=>(hS2 s hs).2.2)];exact H3 w'' h'' (Up.refl u2.g) S T hp (fun s hs=>(hb s hs).up u2 hM) hn
          · obtain ⟨hjun,oj,hoj,hall⟩:=mem_ready.1 hj
            have hx:∃ x∈AL,x.i=j:=by
              refine Classical.byContradiction fun hno=>?_
              obtain ⟨e,he,hbd,hf,hne⟩:=only j oj hoj (addL_getD hjun) hji hj2 (fun x hx he=>hno ⟨x,hx,he⟩);have:=hall e he hbd;rw[addL_ne false (fun s hs=>hne _ (mem_perm hp hs)),hf] at this
              cases this
            obtain ⟨x,hxA,rfl⟩:=hx;have hxT:=al_of_ready hp hxA hj;exact E_alloc oks hM u.g (Nat.le_trans hsz u.gr.size) hp hb hn hxT (fun w1 h1 S1 T1 u1 hp1 hb1 hn1 hlt=>ih T1.length oM T1 rfl w1 h1 (u.trans u1) S1 hp1 hb1 hn1)
  exact fun w' h' u S T hp hb hn=>key _ T rfl w' h' u S hp hb hn
end laws
section steps
variable {M:Ms} {P:Program} {n:Nat} {N R:Po} {X:Nat→Po} {ops:Array Oper} {k0:Nat} {hr:Hp} {AL:List Al} {L:Array Bool} {Γ:Env} {w:World} {h:Hp}
variable {w0:World} {h0:Hp} {B:List Bx} {Rs:List Rw} {F:List (Hp→Prop)}
end steps
section par
variable {M:Ms} {P:Program} {n:Nat} {N R:Po} {X:Nat→Po} {ops:Array Oper} {k0:Nat} {hr:Hp} {AL:List Al} {L:Array Bool} {Γ:Env} {w:World} {h:Hp}
def SrP (P:Program)(ops:Array Oper)(Γ:Env)(i:Nat)(w:World)(h:Hp)(Φ:Value→World→Hp→Prop):Prop :=
  (∃ v w'' h'',(execOp (ev Γ) (opAt ops i)).run P w=.ok (.value v) w''∧Up w h w'' h''∧Φ v w'' h'') ∨
  (∃ f args,(execOp (ev Γ) (opAt ops i)).run P w=.ok (.enter f args) w∧Calls P f args w (fun e w''=>∃ v h'',e=.returned v∧Up w h w'' h''∧Φ v w'' h''))
theorem SrP.mono {i:Nat}{Φ Φ':Value→World→Hp→Prop}(x:SrP P ops Γ i w h Φ)(k:∀ v w' h',Up w h w' h'→Φ v w' h'→Φ' v w' h'):SrP P ops Γ i w h Φ':=by
  rcases x with ⟨v,w',h',e,u,p⟩|⟨f,args,e,c⟩
  · exact .inl ⟨v,w',h',e,u,k _ _ _ u p⟩
  · exact .inr ⟨f,args,e,c.mono fun e w' ⟨v,h',he,u,p⟩=>⟨v,h',he,u,k _ _ _ u p⟩⟩
def Mf (F:Hp→Prop):Prop:=∀ h h',Gw h h'→F h→F h'
theorem mT:Mf (fun _=>True):=fun _ _ _ _=>trivial
theorem Mf.seg {F:Hp→Prop}(m:Mf F){b o:Nat}{cs:List Value}:Mf (fun h=>Seg h b o cs∧F h):=fun _ _ u x=>⟨x.1.gw u,m _ _ u x.2⟩
def Ch (P:Program)(ops:Array Oper):List (Nat × Nat)→Env→(Hp→Prop)→(Env→(Hp→Prop)→Prop)→Prop
  | [],Γ,F,post=>post Γ F
  | x::r,Γ,F,post=>knownOp Γ (opAt ops x.1)=true∧∀ w h,G w h→F h→SrP P ops Γ x.1 w h (fun v _ h''=>∃ F':Hp→Prop,F' h''∧Mf F'∧Ch P ops r ((x.2,v)::Γ) F' post)
theorem Ch.row {r:List (Nat × Nat)}{F:Hp→Prop}{post:Env→(Hp→Prop)→Prop}(i t:Nat)(ty:TypeId)(m:Nat)(cs:List Value)(hF:Mf F)
    (H:∀ b,Ch P ops r ((t,.slice (some ⟨b,0,none⟩) m m)::Γ) (fun h=>Seg h b 0 cs∧F h) post)(hk:knownOp Γ (opAt ops i)=true:=by kernel_rfl)
    (hv:∀ w,(execOp (ev Γ) (opAt ops i)).run P w=.ok (.value (.slice (some ⟨w.heap.size,0,none⟩) m m)) (w.alloc (.cells cs.toArray ty (0,0))):=by intro _;kernel_rfl):Ch P ops ((i,t)::r) Γ F post :=
  ⟨hk,fun w h g f=>by
    have u:Up w h (w.alloc (.cells cs.toArray ty (0,0))) _:=Up.allocAny g (.cells cs.toArray ty (0,0)) (.cells cs.toArray ty (0,0)) (.inl rfl);exact .inl ⟨_,_,_,hv w,u,_,⟨by rw[g.size];exact Seg.new cs ty,hF _ _ u.gr.gw f⟩,hF.seg,H _⟩⟩
def ev2 (n:Nat)(ops:Array Oper)(k0:Nat)(AL:List Al)(L:Array Bool)(i t i2 t2:Nat):Bool :=
  decide (i<ops.size) && decide (i2<ops.size) && decide (i<k0) && decide (i2<k0) && Region.noSelect ops && (L.getD i true == false) &&
  ((List.range ops.size).all fun j=>L.getD j true || j == i || j == i2 || AL.any (·.i == j) || (opAt ops j).after.any fun e=>Region.binds .any e && (L.getD e.on false == false) && AL.all (·.i != e.on)) &&
  ((opAt ops i).after.all fun e=>!Region.binds .any e || L.getD e.on false) &&
  chkAL ops AL i (opAt ops i) && chkAL ops AL i2 (opAt ops i2) && ((opAt ops i).dst == some t) && decide (t<n) && ((opAt ops i2).dst == some t2) && decide (t2<n) && (opAt ops i).guard.isNone && (opAt ops i2).guard.isNone
theorem want_none {Γ:Env}{o:Oper}(h:o.guard.isNone=true):wantE ops Γ o=some true:=by
  unfold wantE
  rw[Option.isNone_iff_eq_none.1 h]
theorem SrP.opR {i:Nat}{a:Act}{K:Value→World→Hp→Prop}(hs:Region.noSelect ops=true)(hi:i<ops.size)(hk:knownOp Γ (opAt ops i)=true)(hg:(opAt ops i).guard.isNone=true)(ka:Kn n a Γ)(x:SrP P ops Γ i w h K) :
    OpR P ops (opAt ops i) a w (fun v w'=>∃ h',UpM M.l w h w' h'∧K v w' h'):=by
  have e1:=ka.exec (Region.noSelect_spec hs i _ · · (opAt_get hi)) hk;refine ⟨ka.want (want_none hg),?_⟩;rw[e1]
  rcases x with ⟨v,w',h',e,u,p⟩|⟨f,args,e,c⟩
  · exact .inl ⟨v,w',e,h',u.m M.l,p⟩
  · exact .inr (.inr ⟨f,args,e,c.mono fun e w' ⟨v,h',he,u,p⟩=>⟨v,he,h',u.m M.l,p⟩⟩)
theorem ev2_t {i t i2 t2:Nat}(hc:ev2 n ops k0 AL L i t i2 t2=true):t<n∧t2<n:=by
  unfold ev2 at hc
  simp only[Bool.and_eq_true,decide_eq_true_eq,beq_iff_eq] at hc
  exact ⟨hc.1.1.1.1.2,hc.1.1.2⟩
theorem ev2_E {i t i2 t2:Nat}{Γ2:Env}{a:Act}(hc:ev2 n ops k0 AL L i t i2 t2=true)(hk:knownOp Γ (opAt ops i)=true)(hk2:knownOp Γ2 (opAt ops i2)=true)
    (oks:∀ x∈AL,AlOk P ops k0 x)(hM:∀ b∈M.l,b<hr.size)(g:G w h)(hsz:hr.size≤h.size)(ka:Kn n a Γ)(kb:Kn n a Γ2)
    (H:∀ w' h',Up w h w' h'→SrP P ops Γ i w' h' (fun v w'' h''=>E M P ops (mkQ N R X) k0 hr AL (L.setIfInBounds i true) (a.put (some t) v) w'' h''))
    (H2:∀ w' h',Up w h w' h'→SrP P ops Γ2 i2 w' h' (fun v w'' h''=>E M P ops (mkQ N R X) k0 hr AL (L.setIfInBounds i2 true) (a.put (some t2) v) w'' h'')) :
    E M P ops (mkQ N R X) k0 hr AL L a w h:=by
  unfold ev2 at hc
  simp only[Bool.and_eq_true,decide_eq_true_eq,beq_iff_eq] at hc
  obtain ⟨⟨⟨⟨⟨⟨⟨⟨⟨⟨⟨⟨⟨⟨⟨h1,h2⟩,h3⟩,h4⟩,h5⟩,h6⟩,h7⟩,h8⟩,h9⟩,h10⟩,h11⟩,h12⟩,h13⟩,h14⟩,h15⟩,h16⟩:=hc;have hget:=opAt_get (ops:=ops) h1;have hget2:=opAt_get (ops:=ops) h2;refine E.event2 hget hget2 h3 h4 h5 h6 ?_ ?_ (chkAL_spec h9) (chkAL_spec h10) oks hM g hsz (fun w' h' u=>?_) (fun w' h' u=>?_)
  · intro j oj hj hun hji hji2 hal
    have hlt:=(Array.getElem?_eq_some_iff.1 hj).1;have e:oj=opAt ops j:=by have:=opAt_get (ops:=ops) hlt;rw[hj] at this;injection this
    have:=(List.all_eq_true.1 h7) j (List.mem_range.2 hlt)
    simp only[Bool.or_eq_true,hun,Bool.false_eq_true,false_or,beq_iff_eq,hji,hji2,List.any_eq_true,Array.any_eq_true,Bool.and_eq_true] at this
    rcases this with ⟨x,hx,hxe⟩|⟨x,hx,⟨hb,hL⟩,hno⟩
    · exact absurd hxe (hal x hx)
    · rw[e]
      refine ⟨_,Array.getElem_mem hx,hb,hL,fun y hy=>?_⟩;have:=(List.all_eq_true.1 hno) y hy
      simpa using this
  · intro e he hb
    have:=(Array.all_eq_true_iff_forall_mem.1 h8) e he
    simpa [hb] using this
  · rw[h11];exact (H w' h' u).opR h5 h1 hk h15 ka
  · rw[h13];exact (H2 w' h' u).opR h5 h2 hk2 h16 kb
def chkPar (n:Nat)(ops:Array Oper)(k0:Nat)(AL:List Al)(Lf:Array Bool):Nat→Array Bool→List (Nat × Nat)→List (Nat × Nat)→Bool
  | 0,L,[],[]=>L.toList == Lf.toList
  | m+1,L,x::A,[]=>ev2 n ops k0 AL L x.1 x.2 x.1 x.2 && chkPar n ops k0 AL Lf m (L.setIfInBounds x.1 true) A []
  | m+1,L,[],y::B=>ev2 n ops k0 AL L y.1 y.2 y.1 y.2 && chkPar n ops k0 AL Lf m (L.setIfInBounds y.1 true) [] B
  | m+1,L,x::A,y::B=>ev2 n ops k0 AL L x.1 x.2 y.1 y.2 && chkPar n ops k0 AL Lf m (L.setIfInBounds x.1 true) A (y::B) && chkPar n ops k0 AL Lf m (L.setIfInBounds y.1 true) (x::A) B
  | _,_,_,_=>false
theorem Kn.put_ne {a:Act}(k:Kn n a Γ){t:Nat}(ht:t<n)(v:Value)(hn:Γ.lookup t=none):Kn n (a.put (some t) v) Γ :=
  (k.put ht v).mono fun s u hu=>by
    rw[List.lookup_cons]
    by_cases e:s=t
    · subst e;rw[hn] at hu;cases hu
    · have e':(s == t)=false:=by simp[e]
      rw[e'];exact hu
theorem lookup_put {Γ:Env}{s t:Nat}{v:Value}(hn:Γ.lookup s=none)(h:s≠t):List.lookup s ((t,v)::Γ)=none:=by
  rw[List.lookup_cons];have e':(s == t)=false:=by simp[h]
  rw[e'];exact hn
theorem par_E {Lf:Array Bool}{pA pB:Env→(Hp→Prop)→Prop}(oks:∀ x∈AL,AlOk P ops k0 x)(hM:∀ b∈M.l,b<hr.size) :
    ∀ (m:Nat) (A B:List (Nat × Nat)) (L:Array Bool) (ΓA ΓB:Env) (FA FB:Hp→Prop) (a:Act) (w:World) (h:Hp),chkPar n ops k0 AL Lf m L A B=true →
      (∀ x∈A,ΓB.lookup x.2=none)→(∀ y∈B,ΓA.lookup y.2=none)→(∀ x∈A,∀ y∈B,x.2≠y.2)→Ch P ops A ΓA FA pA→Ch P ops B ΓB FB pB→Mf FA→Mf FB→FA h→FB h→G w h→hr.size≤h.size→Kn n a ΓA→Kn n a ΓB →
      (∀ w' h' a' GA GB FA' FB',Up w h w' h'→pA GA FA'→pB GB FB'→FA' h'→FB' h'→Kn n a' GA→Kn n a' GB→E M P ops (mkQ N R X) k0 hr AL Lf a' w' h')→E M P ops (mkQ N R X) k0 hr AL L a w h:=by
  intro m
  induction m with
  | zero =>
    intro A B L ΓA ΓB FA FB a w h hc hA hB hAB cA cB mA mB fa fb g hsz ka kb K
    match A,B,hc,cA,cB with
    | [],[],hc,cA,cB =>
      have e:L=Lf:=Array.ext' (by simpa [chkPar] using hc);subst e;exact K w h a ΓA ΓB FA FB (Up.refl g) cA cB fa fb ka kb
  | succ m ih =>
    intro A B L ΓA ΓB FA FB a w h hc hA hB hAB cA cB mA mB fa fb g hsz ka kb K
    match A,B,hc,cA,cB,hA,hB,hAB with
    | [],[],hc,_,_,_,_,_=>simp[chkPar] at hc
    | x :: A,[],hc,cA,cB,hA,hB,hAB =>
      have hc':(ev2 n ops k0 AL L x.1 x.2 x.1 x.2 && chkPar n ops k0 AL Lf m (L.setIfInBounds x.1 true) A [])=true:=hc;rw[Bool.and_eq_true] at hc'
      have ht:=(ev2_t hc'.1).1
      have H:∀ w' h',Up w h w' h'→SrP P ops ΓA x.1 w' h' (fun v w'' h''=>E M P ops (mkQ N R X) k0 hr AL (L.setIfInBounds x.1 true) (a.put (some x.2) v) w'' h''):=fun w' h' u =>
        (cA.2 w' h' u.g (mA _ _ u.gr.gw fa)).mono fun v w'' h'' u2 ⟨F',f',m',c'⟩ =>
          ih A [] _ ((x.2,v)::ΓA) ΓB F' FB _ w'' h'' hc'.2 (fun z hz=>hA z (List.mem_cons_of_mem _ hz)) (fun y hy=>absurd hy (by simp)) (fun _ _ y hy=>absurd hy (by simp)) c' cB m' mB f' (mB _ _ (u.trans u2).gr.gw fb) u2.g (Nat.le_trans hsz (u.trans u2).gr.size) (ka.put ht v) (kb.put_ne ht v (hA x List.mem_cons_self))
            (fun w3 h3 a' GA GB FA' FB' u3=>K w3 h3 a' GA GB FA' FB' ((u.trans u2).trans u3))
      exact ev2_E hc'.1 cA.1 cA.1 oks hM g hsz ka ka H H
    | [], y :: B,hc,cA,cB,hA,hB,hAB =>
      have hc':(ev2 n ops k0 AL L y.1 y.2 y.1 y.2 && chkPar n ops k0 AL Lf m (L.setIfInBounds y.1 true) [] B)=true:=hc;rw[Bool.and_eq_true] at hc'
      have ht:=(ev2_t hc'.1).1
      have H:∀ w' h',Up w h w' h'→SrP P ops ΓB y.1 w' h' (fun v w'' h''=>E M P ops (mkQ N R X) k0 hr AL (L.setIfInBounds y.1 true) (a.put (some y.2) v) w'' h''):=fun w' h' u =>
        (cB.2 w' h' u.g (mB _ _ u.gr.gw fb)).mono fun v w'' h'' u2 ⟨F',f',m',c'⟩ =>
          ih [] B _ ΓA ((y.2,v)::ΓB) FA F' _ w'' h'' hc'.2 (fun z hz=>absurd hz (by simp)) (fun z hz=>hB z (List.mem_cons_of_mem _ hz)) (fun z hz=>absurd hz (by simp)) cA c' mA m' (mA _ _ (u.trans u2).gr.gw fa) f' u2.g (Nat.le_trans hsz (u.trans u2).gr.size) (ka.put_ne ht v (hB y List.mem_cons_self)) (kb.put ht v)
            (fun w3 h3 a' GA GB FA' FB' u3=>K w3 h3 a' GA GB FA' FB' ((u.trans u2).trans u3))
      exact ev2_E hc'.1 cB.1 cB.1 oks hM g hsz kb kb H H
    | x::A,y::B,hc,cA,cB,hA,hB,hAB =>
      have hc':(ev2 n ops k0 AL L x.1 x.2 y.1 y.2 && chkPar n ops k0 AL Lf m (L.setIfInBounds x.1 true) A (y::B) && chkPar n ops k0 AL Lf m (L.setIfInBounds y.1 true) (x::A) B)=true:=hc;rw[Bool.and_eq_true,Bool.and_eq_true] at hc'
      have ht:=ev2_t hc'.1.1;have hxy:=hAB x List.mem_cons_self y List.mem_cons_self;refine ev2_E hc'.1.1 cA.1 cB.1 oks hM g hsz ka kb (fun w' h' u=>?_) (fun w' h' u=>?_)
      · exact (cA.2 w' h' u.g (mA _ _ u.gr.gw fa)).mono fun v w'' h'' u2 ⟨F',f',m',c'⟩ =>
          ih A (y::B) _ ((x.2,v)::ΓA) ΓB F' FB _ w'' h'' hc'.1.2 (fun z hz=>hA z (List.mem_cons_of_mem _ hz)) (fun z hz=>lookup_put (hB z hz) (Ne.symm (hAB x List.mem_cons_self z hz))) (fun z hz=>hAB z (List.mem_cons_of_mem _ hz)) c' cB m' mB f' (mB _ _ (u.trans u2).gr.gw fb) u2.g (Nat.le_trans hsz (u.trans u2).gr.size) (ka.put ht.1 v) (kb.put_ne ht.1 v (hA x List.mem_cons_self))
            (fun w3 h3 a' GA GB FA' FB' u3=>K w3 h3 a' GA GB FA' FB' ((u.trans u2).trans u3))
      · exact (cB.2 w' h' u.g (mB _ _ u.gr.gw fb)).mono fun v w'' h'' u2 ⟨F',f',m',c'⟩ =>
          ih (x::A) B _ ΓA ((y.2,v)::ΓB) FA F' _ w'' h'' hc'.2 (fun z hz=>lookup_put (hA z hz) (hAB z hz y List.mem_cons_self)) (fun z hz=>hB z (List.mem_cons_of_mem _ hz)) (fun z hz q hq=>hAB z hz q (List.mem_cons_of_mem _ hq)) cA c' mA m' (mA _ _ (u.trans u2).gr.gw fa) f' u2.g (Nat.le_trans hsz (u.trans u2).gr.size) (ka.put_ne ht.2 v (hB y List.mem_cons_self)) (kb.put ht.2 v)
            (fun w3 h3 a' GA GB FA' FB' u3=>K w3 h3 a' GA GB FA' FB' ((u.trans u2).trans u3))
def setL (L:Array Bool)(l:List (Nat × Nat)):Array Bool:=l.foldl (fun L x=>L.setIfInBounds x.1 true) L
def freshG (Γ:Env)(A B:List (Nat × Nat)):Bool:=(A.all fun x=>(Γ.lookup x.2).isNone) && (B.all fun x=>(Γ.lookup x.2).isNone) && A.all fun x=>B.all fun y=>x.2 != y.2
theorem lookup_app1 {t:Nat}{u:Value}(G:Env):∀ {D:Env},D.lookup t=some u→(D++G).lookup t=some u
  | [],e=>by cases e
  | d::D,e=>by
    rw[List.cons_append,List.lookup_cons];rw[List.lookup_cons] at e
    cases h0:t == d.1 with
    | true=>rw[h0] at e;exact e
    | false=>rw[h0] at e;exact lookup_app1 G (D:=D) e
theorem lookup_app0 {t:Nat}(G:Env):∀ {D:Env},D.lookup t=none→(D++G).lookup t=G.lookup t
  | [],_=>rfl
  | d::D,e=>by
    rw[List.cons_append,List.lookup_cons];rw[List.lookup_cons] at e
    cases h0:t == d.1 with
    | true=>rw[h0] at e;cases e
    | false=>rw[h0] at e;exact lookup_app0 G (D:=D) e
theorem Kn.app {Γ Γ':Env}(D:Env){a:Act}(ka:Kn n a Γ')(kb:Kn n a (D++Γ)):Kn n a (D++Γ'):=by
  refine ⟨ka.df,ka.sz,fun t v ht=>?_⟩;cases e:D.lookup t with
  | some u =>
    rw[lookup_app1 _ e] at ht
    exact kb.has t v (by rw[lookup_app1 _ e];exact ht)
  | none =>
    rw[lookup_app0 _ e] at ht
    exact ka.has t v ht
theorem Rg.par (A B:List (Nat × Nat))(pA pB:Env→Env→(Hp→Prop)→Prop){FA FB:Hp→Prop}(mA:Mf FA)(mB:Mf FB)(fa:FA h)(fb:FB h)(cA:Ch P ops A Γ FA (pA Γ))(cB:Ch P ops B Γ FB (pB Γ))
    (K:∀ w' h' GA GB FA' FB',Up w h w' h'→pA Γ GA FA'→pB Γ GB FB'→FA' h'→FB' h'→∃ Γf,(∀ a,Kn n a GA→Kn n a GB→Kn n a Γf)∧EG M P n N R X ops k0 hr AL (setL L (A++B)) Γf w' h')
    (hc:chkPar n ops k0 AL (setL L (A++B)) (A.length+B.length) L A B=true:=by kernel_rfl)(hf:freshG Γ A B=true:=by kernel_rfl):EG M P n N R X ops k0 hr AL L Γ w h:=by
  intro oks hM g hsz a ka
  unfold freshG at hf
  simp only[Bool.and_eq_true,List.all_eq_true,Option.isNone_iff_eq_none,bne_iff_ne,ne_eq] at hf
  refine par_E oks hM _ A B L Γ Γ FA FB a w h hc hf.1.1 hf.1.2 hf.2 cA cB mA mB fa fb g hsz ka ka (fun w' h' a' GA GB FA' FB' u pa pb fa' fb' ka' kb'=>?_);obtain ⟨Γf,hk,k⟩:=K w' h' GA GB FA' FB' u pa pb fa' fb';exact k oks hM u.g (Nat.le_trans hsz u.gr.size) a' (hk a' ka' kb')
end par
abbrev vA_ (ss:List OSt)(at_:List Rat)(k:Nat):Rat:=(tvals (ss.map OSt.stp) at_ k).getD (ss.getD k ost0).a.toNat 0
abbrev vB_ (ss:List OSt)(at_:List Rat)(k:Nat):Rat:=(tvals (ss.map OSt.stp) at_ k).getD (ss.getD k ost0).b.toNat 0
abbrev dA_ (ss:List OSt)(at_ way:List Rat)(k:Nat):Rat:=(tders (ss.map OSt.stp) at_ way k).getD (ss.getD k ost0).a.toNat 0
abbrev dB_ (ss:List OSt)(at_ way:List Rat)(k:Nat):Rat:=(tders (ss.map OSt.stp) at_ way k).getD (ss.getD k ost0).b.toNat 0
theorem ofs_L {op n:Int}{xs ys:List Rat}(h:ofsE op n (xs.getD 0 0) (ys.getD 0 0)=0):ofsL op n xs ys=serL op n xs ys:=if_pos h
theorem serr_ofs {s:Stp}{v:List Rat}(h:s.op≠2):serr true s v=ofsE s.op s.n (v.getD s.a.toNat 0) (v.getD s.b.toNat 0):=by
  unfold serr ofsE
  rw[if_neg h]
  simp
section
variable {s:Stp} {at_ way v d:List Rat}
theorem sval_k (h:0<ari s.op)(h2:s.op≠2):sval s at_ v=opv s.op s.n 0 (v.getD s.a.toNat 0) (v.getD s.b.toNat 0):=by
  unfold sval;rw[if_neg h2]
  exact opv_q (fun e=>by rw[e] at h;exact absurd h kD)
theorem sval_2 (h:s.op=2):at_.getD s.n.toNat 0=sval s at_ v:=by unfold sval;rw[if_pos h]
theorem slb_un {op:Int}{a b:Rat}(h:ari op=1):slb op a b=0:=by
  have:=ari_cases op;have h2:op=7∨op=8∨op=9∨op=10∨op=11:=by omega
  rcases h2 with rfl|rfl|rfl|rfl|rfl<;>rfl
theorem sder_k (h:0<ari s.op)(h2:s.op≠2):sla s.op s.n (v.getD s.a.toNat 0) (v.getD s.b.toNat 0)*d.getD s.a.toNat 0+slb s.op (v.getD s.a.toNat 0) (v.getD s.b.toNat 0)*d.getD s.b.toNat 0=sder s way v d:=by
  have hc:=ari_cases s.op
  unfold sder;rw[if_neg h2,if_pos h]
  by_cases h3:1<ari s.op
  · rw[if_pos h3]
  · rw[if_neg h3,slb_un oM,Rat.zero_mul]
theorem sder_1 (h:s.op=1):((0:Int):Rat)=sder s way v d:=by
  unfold sder;rw[if_neg oM,h,if_neg kD,if_neg kD];exact (Rat.add_zero _).symm
theorem sder_2 (h:s.op=2):way.getD s.n.toNat 0=sder s way v d:=by unfold sder;rw[if_pos h]
end
def baseL_ (ss:List OSt)(at_ way:List Rat)(k:Nat):List Rat:=if (ss.getD k ost0).op=2 then [at_.getD (ss.getD k ost0).n.toNat 0,way.getD (ss.getD k ost0).n.toNat 0] else [(ss.getD k ost0).q,((0:Int):Rat)]
abbrev finL_ (ss:List OSt)(at_ way:List Rat)(k:Nat):List Rat:=[sval (ss.getD k ost0).stp at_ (tvals (ss.map OSt.stp) at_ k),sder (ss.getD k ost0).stp way (tvals (ss.map OSt.stp) at_ k) (tders (ss.map OSt.stp) at_ way k)]
section
variable {ss:List OSt} {at_ way:List Rat} {k:Nat}
theorem base_2 (h:(ss.getD k ost0).op=2):baseL_ ss at_ way k=[at_.getD (ss.getD k ost0).n.toNat 0,way.getD (ss.getD k ost0).n.toNat 0]:=if_pos h
theorem base_1 (h:(ss.getD k ost0).op≠2):baseL_ ss at_ way k=[(ss.getD k ost0).q,((0:Int):Rat)]:=if_neg h
theorem fin_k (h:0<ari (ss.getD k ost0).op)(h2:(ss.getD k ost0).op≠2):serL (ss.getD k ost0).op (ss.getD k ost0).n [vA_ ss at_ k,dA_ ss at_ way k] [vB_ ss at_ k,dB_ ss at_ way k]=finL_ ss at_ way k :=
  two_eq (sval_k (s:=(ss.getD k ost0).stp) h h2).symm (sder_k (s:=(ss.getD k ost0).stp) h h2)
theorem fin_0 (h0:ari (ss.getD k ost0).op=0):baseL_ ss at_ way k=finL_ ss at_ way k∧serr true (ss.getD k ost0).stp (tvals (ss.map OSt.stp) at_ k)=0:=by
  by_cases h2:(ss.getD k ost0).op=2
  · exact ⟨(base_2 h2).trans (two_eq (sval_2 (s:=(ss.getD k ost0).stp) h2) (sder_2 (s:=(ss.getD k ost0).stp) h2)),serr_2 (s:=(ss.getD k ost0).stp) h2⟩
  · have h1:(ss.getD k ost0).op=1:=by have:=ari_cases (ss.getD k ost0).op;omega
    exact ⟨(base_1 h2).trans (two_eq (sval_1 (s:=(ss.getD k ost0).stp) h1).symm (sder_1 (s:=(ss.getD k ost0).stp) h1)),serr_0 (s:=(ss.getD k ost0).stp) (ok_1 h1) (fun h_=>nknk (by show (ss.getD k ost0).op≠9;omega) (by show (ss.getD k ost0).op≠10;omega) (by show (ss.getD k ost0).op≠12∧(ss.getD k ost0).op≠13;omega) h_.2)⟩
end
theorem rForthTape (inp:Int)(A:Option Addr)(c:Nat)(ts:List RSt)(ss:List OSt)(O:Option Addr)(d:Nat)(os:List Int)(at_:List Rat)(tAt:List RT)(X:Option Addr)(cX:Nat)(way:List Rat)(tWy:List RT)(Y:Option Addr)(cY:Nat)(hl:ss.length≤65536)(ho:os.length≤300)(hat2:at_.length≤1000000)(hwt2:way.length≤1000000)(hB:chkTp inp (ss.map OSt.stp) os=0→(at_.length:Int)=inp→∀ k,k≤(ss.map OSt.stp).length→terr true (ss.map OSt.stp) at_ k=0→∀ j,LQ 100000 ((tvals (ss.map OSt.stp) at_ k).getD j 0))(hBd:chkTp inp (ss.map OSt.stp) os=0→(at_.length:Int)=inp→(way.length:Int)=inp→∀ k,k≤(ss.map OSt.stp).length→terr true (ss.map OSt.stp) at_ k=0→∀ j,LQ 2000000 ((tders (ss.map OSt.stp) at_ way k).getD j 0))(w:World)(h:Hp)(g:G w h)(hA:SlO 7 rsc rst0 h A ts)(hT:RSs h ts ss)(hO:Si O os h)(hX:Sr X tAt h)(hTat:RTs h tAt at_)(hY:Sr Y tWy h)(hTwy:RTs h tWy way):CR 16 #[.agg #[iV inp,.slice A ts.length c,.slice O os.length d],.slice X tAt.length cX,.slice Y tWy.length cY] w h (fun v h1=>∃ A c ts B d us,v=.tuple #[.slice A (ts:List RT).length c,.slice B (us:List RT).length d,iV (forE inp (ss.map OSt.stp) os at_ way)]∧ts.length≤c∧us.length≤d∧Sr A ts h1∧Sr B us h1∧RTs h1 ts (forL inp (ss.map OSt.stp) os at_ way (tvals (ss.map OSt.stp) at_ (ss.map OSt.stp).length))∧RTs h1 us (forL inp (ss.map OSt.stp) os at_ way (tders (ss.map OSt.stp) at_ way (ss.map OSt.stp).length))):=by
 have hs:=((((((((sS g).aS hA).add (K:=fun h_=>RSs h_ ts ss) hT).aS hO).aS hX).aT hTat).aS hY).aT hTwy);have hlt:=(hs.f.q.2.1).len;have hla:=(hs.f.r.1).len;have hlw:=(hs.f.1).len;refine go Tryz.func16 [(0,.agg #[iV inp,qS A ts.length c,qS O os.length d]),(1,qS X tAt.length cX),(2,qS Y tWy.length cY)] rfl (cSL (lA 3 25 ([iV inp,qS A ts.length c,qS O os.length d]) hs (fun b1 w2 h3 hs=>lL hs [.v 6 (sZ),.v 7 (sZ),.v 8 (iV 0)] (lN (cQ (cSL (lL hs [.o 16 (.agg #[iV inp,qS A ts.length c,qS O os.length d]) 0 0 3] (lC 17 hs (rCheckTape inp A c ts ss O d os oM oM _ _ hs.g hs.f.q.r.1 hs.f.q.2.1 hs.f.q.1) ?_))))))));rintro _ w4 h5 hs rfl;cases hb6:((chkTp inp (ss.map OSt.stp) os:Int) != (0:Int))
 ·
  have phb6:=eqOfBne hb6;refine lB 18 hb6 (lN (cIF (cK (cQ (cSL (lL hs [.m 19 1,.v 20 (nV tAt.length),.v 21 (pB b1),.o 22 (iV inp) 0 0 1] ?_))))));cases hb7:((tAt.length:Int) != (inp:Int))
  ·
   have phb7:=eqOfBne hb7;refine lB 23 hb7 (lL hs [.m 24 23,.m 25 2,.v 26 (nV tWy.length),.v 27 (pB b1),.o 28 (iV inp) 0 0 1] ?_);cases hb8:((tWy.length:Int) != (inp:Int))
   ·
    have phb8:=eqOfBne hb8;refine lB 29 hb8 (lL hs [.v 30 qF] (lN (cIF (cK (cSL (lL hs [.v 9 (sZ),.v 10 (sZ)] (lN (cQ (cSL (lL hs [.v 11 (iV 0)] (lN (kZ ?_))))))))))));replace hs:=hs.nil 97 3;replace hs:=hs.nil 97 3;refine cTo [(1,qS X tAt.length cX),(2,qS Y tWy.length cY),(3,pB b1),(11,iV 0),(9,sZ),(10,sZ)] ?_;have hck:chkTp inp (ss.map OSt.stp) os=0:=by omega
    replace hs:=hs.aT (RTs.nil);replace hs:=hs.aT (RTs.nil);refine CG.loop (fun μ_ Γ w_=>∃ (k:Nat) (svA:Option Addr) (svc:Nat) (tv:List RT) (sdA:Option Addr) (sdc:Nat) (td:List RT) (h_:Hp),μ_=ss.length-k∧Γ=[(1,qS X tAt.length cX),(2,qS Y tWy.length cY),(3,pB b1),(11,nV k),(9,qS svA ((tv).length) svc),(10,qS sdA ((td).length) sdc)]∧SS w h w_ h_ [⟨b1,25,[iV inp,qS A ts.length c,qS O os.length d]⟩] [⟨97,3,svA,svc,(tv).length,(tv).flatMap rqc⟩,⟨97,3,sdA,sdc,(td).length,(td).flatMap rqc⟩] [Rt tv (tvals (ss.map OSt.stp) at_ k),Rt td (tders (ss.map OSt.stp) at_ way k),Rt tWy way,Sr Y tWy,Rt tAt at_,Sr X tAt,Si O os,fun h_=>RSs h_ ts ss,fun h_=>SlO 7 rsc rst0 h_ A ts]∧k≤ss.length∧terr true (ss.map OSt.stp) at_ k=0) _ ⟨0,none,0,[],none,0,[],h5,rfl,rfl,hs.to _ _,Nat.zero_le _,rfl⟩ ?_;rintro _ _ w9 ⟨k,svA,svc,tv,sdA,sdc,td,_,hm11,rfl,hs,hk,hter⟩;have hlv:=(hs.f.1).len;rw[tvals_len] at hlv
    have hld:=(hs.f.2.1).len;rw[tders_len] at hld
    have hLb:∀ j,LQ 100000 ((tvals (ss.map OSt.stp) at_ k).getD j 0):=fun j=>hB hck oM k (by rw[List.length_map];exact hk) hter j
    have hDb:∀ j,LQ 2000000 ((tders (ss.map OSt.stp) at_ way k).getD j 0):=fun j=>hBd hck oM oM k (by rw[List.length_map];exact hk) hter j
    have hfk:=fun h0:k<ss.length=>(chk_formed hck).1 k (by rw[List.length_map];exact h0)
    have hlf:(finL_ ss at_ way k).length=2:=rfl;refine cQ (cSL (lL hs [.m 31 11,.v 32 (qP b1 1),.o 33 (qS A ts.length c) 0 1 1,.v 34 (nV ts.length)] ?_));cases zt:(decide ((k:Int)<(ts.length:Int)))
    ·
     have zD:=oF zt;refine lB 35 zt (lN (cIF (CG.exit ?_)))
     show CG _ _ _ _ _ _ _ _
     refine cQ ?_;obtain ⟨_,hs,hc14⟩:=hs.pubr 0 (A:=svA) (c:=svc) (l:=tv) (f:=rqc) (ty:=97) (sz:=3) rqd (fun _=>rfl);obtain ⟨_,hs,hc17⟩:=hs.pubr 0 (A:=sdA) (c:=sdc) (l:=td) (f:=rqc) (ty:=97) (sz:=3) rqd (fun _=>rfl);have hsr:=hs;refine cRz 8 [] [] mixed hs al_nil (eV 0 112 (qS svA ((tv).length) svc) (eV 1 113 (qP b1 2) (eO 2 114 [(0,2,1)] (qS O os.length d) hs (eV 4 116 (qS sdA ((td).length) sdc) (eV 5 117 (qP b1 2) (eOz 6 118 [(0,2,1)] (qS O os.length d) hsr hs (eC 3 115 hs (fun _ _ hs=>rPick (tvals (ss.map OSt.stp) at_ k) os tv svA svc O d oM (by rw[tvals_len];have:=(chk_formed hck).2.1;rw[List.length_map] at this;rw[show k=ss.length by omega];exact this) _ _ hs.g hs.f.2.1 hs.f.r.1 hs.f.q.q.1) ?_)))))));rintro _ _ _ _ _ hs ⟨Apv,cpv,tpv,rfl,hcpv,hApv,hTpv⟩;replace hs:=((hs.aS hApv).aT hTpv);refine eC 7 119 hs (fun _ _ hs=>rPick (tders (ss.map OSt.stp) at_ way k) os td sdA sdc O d oM (by rw[tders_len];have:=(chk_formed hck).2.1;rw[List.length_map] at this;rw[show k=ss.length by omega];exact this) _ _ hs.g hs.f.r.1 hs.f.q.2.1 hs.f.q.q.r.1) ?_;rintro _ _ _ _ _ hs ⟨Apd,cpd,tpd,rfl,hcpd,hApd,hTpd⟩;replace hs:=((hs.aS hApd).aT hTpd);refine eD0 hs (fun _ _ hs=>tV 8 6 (qS Apv tpv.length cpv) (tV 9 7 (qS Apd tpd.length cpd) (tV 10 8 (iV 0) (tN (kX ?_)))));have hkn:k=(ss.map OSt.stp).length:=by rw[List.length_map];omega
     exact hs.ret [] (.tuple #[qS Apv tpv.length cpv,qS Apd tpd.length cpd,iV 0]) (by obtain ⟨e1,e2,e3⟩:=for_0 (inp:=inp) (l:=(ss.map OSt.stp)) (os:=os) (at_:=at_) (way:=way) hck oM oM (hkn▸hter);rw[e1,e2,e3,←hkn];exact ⟨_,_,_,_,_,_,rfl,hcpv,hcpd,hs.f.r.2.1,hs.f.2.1,hs.f.r.1,hs.f.1⟩)
    have zD:=oT zt;refine lB 35 zt (lN (cIT (cK (cQ (kZ (cSL ?_))))));have fk:=hfk oM;rw[stp_getD oM] at fk
    obtain ⟨f0,f1,f2,f3,f4,f5,f6⟩:=fk
    dsimp only[Refers,OSt.stp] at f0 f1 f2 f3 f4 f5 f6
    have hac_:=ari_cases (ss.getD k ost0).op;refine lL hs [.v 38 (qP b1 1),.o 39 (qS A ts.length c) 0 1 1,.m 40 11] (lX 41 A ts.length c 7 (k:Nat) k ((hs.f.q.q.1).ok oM) ?_);obtain ⟨Aqx,cqx,Dqx,dqx,eqx,hcqx,hdqx,hAqx,hDqx⟩:=((hs.f.q.r.2.1).at_ k oM).opn;replace hs:=hs.aP hAqx hDqx;refine lHe 42 (.agg #[iV ((ts.getD k rst0).op),iV ((ts.getD k rst0).a),iV ((ts.getD k rst0).b),iV ((ts.getD k rst0).n),.bool ((ts.getD k rst0).t.1),(ts.getD k rst0).t.2.1,(ts.getD k rst0).t.2.2]) hs ((hs.f.q.q.r.1).el k oM) eqx (lA 12 99 ([iV 0,iV 0,iV 0,iV 0,qF,sZ,sZ]) hs (fun za _ _ hs=>lP 0 0 ([iV ((ss.getD k ost0).op),iV ((ss.getD k ost0).a),iV ((ss.getD k ost0).b),iV ((ss.getD k ost0).n),.bool (ineg (ss.getD k ost0).q.num),qS Aqx ((lim (iabs (ss.getD k ost0).q.num)).length) cqx,qS Dqx ((lim (odn (ss.getD k ost0))).length) dqx]) hs (fun _ hs=>lNS (lL hs [.v 43 (qP za 4),.o 44 (.agg #[.bool (ineg (ss.getD k ost0).q.num),qS Aqx ((lim (iabs (ss.getD k ost0).q.num)).length) cqx,qS Dqx ((lim (odn (ss.getD k ost0))).length) dqx]) 0 4 3] (lC 45 hs (rNumber (ss.getD k ost0) Aqx cqx Dqx dqx hcqx hdqx ((hs.f.q.q.2.1).at_ k oM).z _ _ hs.g hs.f.2.1 hs.f.1) ?_)))));rintro _ _ _ hs ⟨zc,zg,zd,zi,rfl,zK,zL,zM,zN⟩;replace hs:=hs.aP zM zN;refine lC 46 hs (rOf 0 oM oM _ _ hs.g) ?_;rintro _ _ _ hs ⟨ze,zj,zf,zk,rfl,zP,zQ,zR,zS⟩;replace hs:=hs.aP zR zS;refine lR 47 97 2 ([.bool (ineg ((ss.getD k ost0).q).num),qS zc ((lim (iabs ((ss.getD k ost0).q).num)).length) zg,qS zd ((lim ((ss.getD k ost0).q).den).length) zi,.bool (ineg ((0:Int):Rat).num),qS ze ((lim (iabs ((0:Int):Rat).num)).length) zj,qS zf ((lim ((0:Int):Rat).den).length) zk]) hs (fun zs _ yf hs=>?_);replace hs:=hs.aS (SlO.of_flat (sz:=3) (f:=rqc) (d:=rqd) (b:=zs) (o:=0) (l:=([((ineg ((ss.getD k ost0).q).num,qS zc ((lim (iabs ((ss.getD k ost0).q).num)).length) zg,qS zd ((lim ((ss.getD k ost0).q).den).length) zi):RT),((ineg ((0:Int):Rat).num,qS ze ((lim (iabs ((0:Int):Rat).num)).length) zj,qS zf ((lim ((0:Int):Rat).den).length) zk):RT)]:List RT)) (fun _=>rfl) hs.f.1);have hl55:([((ineg ((ss.getD k ost0).q).num,qS zc ((lim (iabs ((ss.getD k ost0).q).num)).length) zg,qS zd ((lim ((ss.getD k ost0).q).den).length) zi):RT),((ineg ((0:Int):Rat).num,qS ze ((lim (iabs ((0:Int):Rat).num)).length) zj,qS zf ((lim ((0:Int):Rat).den).length) zk):RT)]:List RT).length=2:=rfl;have hl56:([((ss.getD k ost0).q),((0:Int):Rat)]:List Rat).length=2:=rfl;replace hs:=hs.aT (RTs.snoc (RTs.snoc RTs.nil (rqOk zK zL hs.f.q.2.1 hs.f.q.1)) (rqOk zP zQ hs.f.r.2.1 hs.f.r.1));refine lL hs [.m 13 47] (lN (CG.join (fun Γ w_=>∃ (Aq:Option Addr) (tq:List RT) (h_:Hp),Γ=[(1,qS X tAt.length cX),(2,qS Y tWy.length cY),(3,pB b1),(11,nV k),(9,qS svA ((tv).length) svc),(10,qS sdA ((td).length) sdc),(12,pB za),(13,qS Aq 2 2)]∧SS w h w_ h_ [⟨za,99,[iV ((ss.getD k ost0).op),iV ((ss.getD k ost0).a),iV ((ss.getD k ost0).b),iV ((ss.getD k ost0).n),.bool (ineg (ss.getD k ost0).q.num),qS Aqx ((lim (iabs (ss.getD k ost0).q.num)).length) cqx,qS Dqx ((lim (odn (ss.getD k ost0))).length) dqx]⟩,⟨b1,25,[iV inp,qS A ts.length c,qS O os.length d]⟩] [⟨97,3,svA,svc,(tv).length,(tv).flatMap rqc⟩,⟨97,3,sdA,sdc,(td).length,(td).flatMap rqc⟩] [Sr Aq tq,Rt tq (baseL_ ss at_ way k),Rt ([((ineg ((ss.getD k ost0).q).num,qS zc ((lim (iabs ((ss.getD k ost0).q).num)).length) zg,qS zd ((lim ((ss.getD k ost0).q).den).length) zi):RT),((ineg ((0:Int):Rat).num,qS ze ((lim (iabs ((0:Int):Rat).num)).length) zj,qS zf ((lim ((0:Int):Rat).den).length) zk):RT)]:List RT) [((ss.getD k ost0).q),((0:Int):Rat)],Sr (sB zs) ([((ineg ((ss.getD k ost0).q).num,qS zc ((lim (iabs ((ss.getD k ost0).q).num)).length) zg,qS zd ((lim ((ss.getD k ost0).q).den).length) zi):RT),((ineg ((0:Int):Rat).num,qS ze ((lim (iabs ((0:Int):Rat).num)).length) zj,qS zf ((lim ((0:Int):Rat).den).length) zk):RT)]:List RT),fun h_=>Seg h_ zs 0 ([.bool (ineg ((ss.getD k ost0).q).num),qS zc ((lim (iabs ((ss.getD k ost0).q).num)).length) zg,qS zd ((lim ((ss.getD k ost0).q).den).length) zi,.bool (ineg ((0:Int):Rat).num),qS ze ((lim (iabs ((0:Int):Rat).num)).length) zj,qS zf ((lim ((0:Int):Rat).den).length) zk]),S3 zf (lim ((0:Int):Rat).den),S3 ze (lim (iabs ((0:Int):Rat).num)),S3 zd (lim ((ss.getD k ost0).q).den),S3 zc (lim (iabs ((ss.getD k ost0).q).num)),S3 Dqx (lim (odn (ss.getD k ost0))),S3 Aqx (lim (iabs (ss.getD k ost0).q.num)),Rt tv (tvals (ss.map OSt.stp) at_ k),Rt td (tders (ss.map OSt.stp) at_ way k),Rt tWy way,Sr Y tWy,Rt tAt at_,Sr X tAt,Si O os,fun h_=>RSs h_ ts ss,fun h_=>SlO 7 rsc rst0 h_ A ts]) ?_ ?_))
    ·
     refine cSL (lL hs [.v 48 (pB za),.o 49 (iV ((ss.getD k ost0).op)) 0 0 1] ?_);cases zu:(((ss.getD k ost0).op:Int) == (2:Int))
     ·
      have zE:=neOfBeq zu;refine lB 50 zu (lN (cIF (CG.skip ?_)));intro a_ ka;replace hs:=((hs.add (K:=Rt ([((ineg ((ss.getD k ost0).q).num,qS zc ((lim (iabs ((ss.getD k ost0).q).num)).length) zg,qS zd ((lim ((ss.getD k ost0).q).den).length) zi):RT),((ineg ((0:Int):Rat).num,qS ze ((lim (iabs ((0:Int):Rat).num)).length) zj,qS zf ((lim ((0:Int):Rat).den).length) zk):RT)]:List RT) (baseL_ ss at_ way k)) (by rw[base_1 oM];exact hs.f.1)).aS hs.f.2.1);exact ⟨_,⟨sB zs,([((ineg ((ss.getD k ost0).q).num,qS zc ((lim (iabs ((ss.getD k ost0).q).num)).length) zg,qS zd ((lim ((ss.getD k ost0).q).den).length) zi):RT),((ineg ((0:Int):Rat).num,qS ze ((lim (iabs ((0:Int):Rat).num)).length) zj,qS zf ((lim ((0:Int):Rat).den).length) zk):RT)]:List RT),yf,rfl,hs.to _ _⟩,ka.to _ kR⟩
     have zE:=eq_of_beq zu;refine lB 50 zu (lN (cIT (cR 11 [] mixed hs al_nil ?_)));refine eV 0 51 (qS X tAt.length cX) (eV 1 52 (qP za 3) (eO 2 53 [(0,3,1)] (iV ((ss.getD k ost0).n)) hs (eX 3 54 X tAt.length cX 3 ((ss.getD k ost0).n) ((ss.getD k ost0).n.toNat) ((hs.f.q.q.q.r.1).ok oM) ?_)));obtain ⟨Aw,cw,Dw,dw,ew,hcw,hdw,hAw,hDw⟩:=(hs.f.q.q.q.2.1).at_ ((ss.getD k ost0).n.toNat) oM;replace hs:=hs.aP hAw hDw;refine eHe 4 55 (rA (tAt.getD ((ss.getD k ost0).n.toNat) rqd)) hs ((hs.f.q.q.q.q.1).el ((ss.getD k ost0).n.toNat) oM) ew (eV 5 56 (qS Y tWy.length cY) (eV 6 57 (qP za 3) (eO 7 58 [(0,3,1)] (iV ((ss.getD k ost0).n)) hs (eX 8 59 Y tWy.length cY 3 ((ss.getD k ost0).n) ((ss.getD k ost0).n.toNat) ((hs.f.q.q.q.r.1).ok oM) ?_))));obtain ⟨Au,cu,Du,du,eu,hcu,hdu,hAu,hDu⟩:=(hs.f.q.q.q.2.1).at_ ((ss.getD k ost0).n.toNat) oM;replace hs:=hs.aP hAu hDu;refine eHe 9 60 (rA (tWy.getD ((ss.getD k ost0).n.toNat) rqd)) hs ((hs.f.q.q.q.q.1).el ((ss.getD k ost0).n.toNat) oM) eu (eR 10 61 97 2 ([.bool (ineg (at_.getD ((ss.getD k ost0).n.toNat) 0).num),qS Aw ((lim (iabs (at_.getD ((ss.getD k ost0).n.toNat) 0).num)).length) cw,qS Dw ((lim (at_.getD ((ss.getD k ost0).n.toNat) 0).den).length) dw,.bool (ineg (way.getD ((ss.getD k ost0).n.toNat) 0).num),qS Au ((lim (iabs (way.getD ((ss.getD k ost0).n.toNat) 0).num)).length) cu,qS Du ((lim (way.getD ((ss.getD k ost0).n.toNat) 0).den).length) du]) hs (fun zw _ _ hs=>?_));replace hs:=hs.aS (SlO.of_flat (sz:=3) (f:=rqc) (d:=rqd) (b:=zw) (o:=0) (l:=([((ineg (at_.getD ((ss.getD k ost0).n.toNat) 0).num,qS Aw ((lim (iabs (at_.getD ((ss.getD k ost0).n.toNat) 0).num)).length) cw,qS Dw ((lim (at_.getD ((ss.getD k ost0).n.toNat) 0).den).length) dw):RT),((ineg (way.getD ((ss.getD k ost0).n.toNat) 0).num,qS Au ((lim (iabs (way.getD ((ss.getD k ost0).n.toNat) 0).num)).length) cu,qS Du ((lim (way.getD ((ss.getD k ost0).n.toNat) 0).den).length) du):RT)]:List RT)) (fun _=>rfl) hs.f.1);have hl66:([((ineg (at_.getD ((ss.getD k ost0).n.toNat) 0).num,qS Aw ((lim (iabs (at_.getD ((ss.getD k ost0).n.toNat) 0).num)).length) cw,qS Dw ((lim (at_.getD ((ss.getD k ost0).n.toNat) 0).den).length) dw):RT),((ineg (way.getD ((ss.getD k ost0).n.toNat) 0).num,qS Au ((lim (iabs (way.getD ((ss.getD k ost0).n.toNat) 0).num)).length) cu,qS Du ((lim (way.getD ((ss.getD k ost0).n.toNat) 0).den).length) du):RT)]:List RT).length=2:=rfl;have hl67:([(at_.getD ((ss.getD k ost0).n.toNat) 0),(way.getD ((ss.getD k ost0).n.toNat) 0)]:List Rat).length=2:=rfl;replace hs:=hs.aT (RTs.snoc (RTs.snoc RTs.nil (rqOk hcw hdw hs.f.q.2.1 hs.f.q.1)) (rqOk hcu hdu hs.f.r.2.1 hs.f.r.1));refine eD0 hs (fun _ yg hs=>tV 11 13 (qS (sB zw) 2 2) (tD ?_));intro a_ ka;replace hs:=((hs.tl.tl.tl.tl.tl.tl.tl.add (K:=Rt ([((ineg (at_.getD ((ss.getD k ost0).n.toNat) 0).num,qS Aw ((lim (iabs (at_.getD ((ss.getD k ost0).n.toNat) 0).num)).length) cw,qS Dw ((lim (at_.getD ((ss.getD k ost0).n.toNat) 0).den).length) dw):RT),((ineg (way.getD ((ss.getD k ost0).n.toNat) 0).num,qS Au ((lim (iabs (way.getD ((ss.getD k ost0).n.toNat) 0).num)).length) cu,qS Du ((lim (way.getD ((ss.getD k ost0).n.toNat) 0).den).length) du):RT)]:List RT) (baseL_ ss at_ way k)) (by rw[base_2 oM];exact hs.f.1)).aS hs.f.2.1);exact ⟨_,⟨sB zw,([((ineg (at_.getD ((ss.getD k ost0).n.toNat) 0).num,qS Aw ((lim (iabs (at_.getD ((ss.getD k ost0).n.toNat) 0).num)).length) cw,qS Dw ((lim (at_.getD ((ss.getD k ost0).n.toNat) 0).den).length) dw):RT),((ineg (way.getD ((ss.getD k ost0).n.toNat) 0).num,qS Au ((lim (iabs (way.getD ((ss.getD k ost0).n.toNat) 0).num)).length) cu,qS Du ((lim (way.getD ((ss.getD k ost0).n.toNat) 0).den).length) du):RT)]:List RT),yg,rfl,hs.to _ _⟩,ka.to _ kR⟩
    rintro _ _ ⟨Aq,tq,_,rfl,hs⟩;refine CG.join (fun Γ w_=>∃ (Az:Option Addr) (nz:Nat) (cz:Nat) (tz:List RT) (h_:Hp),Γ=[(1,qS X tAt.length cX),(2,qS Y tWy.length cY),(3,pB b1),(11,nV k),(9,qS svA ((tv).length) svc),(10,qS sdA ((td).length) sdc),(13,qS Az nz cz)]∧SS w h w_ h_ [⟨za,99,[iV ((ss.getD k ost0).op),iV ((ss.getD k ost0).a),iV ((ss.getD k ost0).b),iV ((ss.getD k ost0).n),.bool (ineg (ss.getD k ost0).q.num),qS Aqx ((lim (iabs (ss.getD k ost0).q.num)).length) cqx,qS Dqx ((lim (odn (ss.getD k ost0))).length) dqx]⟩,⟨b1,25,[iV inp,qS A ts.length c,qS O os.length d]⟩] [⟨97,3,svA,svc,(tv).length,(tv).flatMap rqc⟩,⟨97,3,sdA,sdc,(td).length,(td).flatMap rqc⟩] [Sr Az tz,Rt tz (finL_ ss at_ way k),Sr Aq tq,Rt tq (baseL_ ss at_ way k),Rt ([((ineg ((ss.getD k ost0).q).num,qS zc ((lim (iabs ((ss.getD k ost0).q).num)).length) zg,qS zd ((lim ((ss.getD k ost0).q).den).length) zi):RT),((ineg ((0:Int):Rat).num,qS ze ((lim (iabs ((0:Int):Rat).num)).length) zj,qS zf ((lim ((0:Int):Rat).den).length) zk):RT)]:List RT) [((ss.getD k ost0).q),((0:Int):Rat)],Sr (sB zs) ([((ineg ((ss.getD k ost0).q).num,qS zc ((lim (iabs ((ss.getD k ost0).q).num)).length) zg,qS zd ((lim ((ss.getD k ost0).q).den).length) zi):RT),((ineg ((0:Int):Rat).num,qS ze ((lim (iabs ((0:Int):Rat).num)).length) zj,qS zf ((lim ((0:Int):Rat).den).length) zk):RT)]:List RT),fun h_=>Seg h_ zs 0 ([.bool (ineg ((ss.getD k ost0).q).num),qS zc ((lim (iabs ((ss.getD k ost0).q).num)).length) zg,qS zd ((lim ((ss.getD k ost0).q).den).length) zi,.bool (ineg ((0:Int):Rat).num),qS ze ((lim (iabs ((0:Int):Rat).num)).length) zj,qS zf ((lim ((0:Int):Rat).den).length) zk]),S3 zf (lim ((0:Int):Rat).den),S3 ze (lim (iabs ((0:Int):Rat).num)),S3 zd (lim ((ss.getD k ost0).q).den),S3 zc (lim (iabs ((ss.getD k ost0).q).num)),S3 Dqx (lim (odn (ss.getD k ost0))),S3 Aqx (lim (iabs (ss.getD k ost0).q.num)),Rt tv (tvals (ss.map OSt.stp) at_ k),Rt td (tders (ss.map OSt.stp) at_ way k),Rt tWy way,Sr Y tWy,Rt tAt at_,Sr X tAt,Si O os,fun h_=>RSs h_ ts ss,fun h_=>SlO 7 rsc rst0 h_ A ts]∧nz=2∧serr true (ss.getD k ost0).stp (tvals (ss.map OSt.stp) at_ k)=0) ?_ ?_
    ·
     refine cSL (lL hs [.v 62 (pB za),.o 63 (iV ((ss.getD k ost0).op)) 0 0 1] (lC 64 hs (rKids (ss.getD k ost0).op _ _ hs.g) ?_));rintro _ _ yi hs rfl;have hac:=ari_cases (ss.getD k ost0).op;cases zv:(decide ((0:Int)<(ari (ss.getD k ost0).op:Int)))
     ·
      have zF:=oF zv;refine lB 65 zv (lN (cIF (CG.skip ?_)));have hf0:=fin_0 (ss:=ss) (at_:=at_) (way:=way) (k:=k) oM;intro a_ ka;replace hs:=((hs.add (K:=Rt tq (finL_ ss at_ way k)) (by rw[←hf0.1];exact hs.f.2.1)).aS hs.f.1);exact ⟨_,⟨Aq,2,2,tq,yi,rfl,hs.to _ _,rfl,hf0.2⟩,ka.to _ kR⟩
     have zF:=oT zv;refine lB 65 zv (lN (cIT (cQ (cR 30 [] mixed hs al_nil ?_))));refine eV 0 67 (pB za) (eO 1 68 [(0,0,1)] (iV ((ss.getD k ost0).op)) hs (eV 2 69 (qP za 3) (eO 3 70 [(0,3,1)] (iV ((ss.getD k ost0).n)) hs (eV 4 71 (qS svA ((tv).length) svc) (eV 5 72 (qP za 1) (eO 6 73 [(0,1,1)] (iV ((ss.getD k ost0).a)) hs ?_))))));obtain ⟨zl,zG⟩:=hs.rowA 0 (A:=svA) (c:=svc) (m:=(tv).length) (ty:=97) (sz:=3) (cs:=(tv).flatMap rqc) oM;subst zG;refine eX 7 74 (sB zl) ((tv).length) svc 3 ((ss.getD k ost0).a) ((ss.getD k ost0).a.toNat) rfl ?_;obtain ⟨Ava,cva,Dva,dva,eva,hcva,hdva,hAva,hDva⟩:=(hs.f.q.q.r.2.1).at_ ((ss.getD k ost0).a.toNat) (by simp only[tvals_len,tders_len];omega);replace hs:=hs.aP hAva hDva;refine eRq (ty:=97) (sz:=3) (c:=svc) (m:=(tv).length) (b:=zl) (cs:=(tv).flatMap rqc) 8 75 0 (rG (vA_ ss at_ k) Ava cva Dva dva) (rqx (vA_ ss at_ k) Ava cva Dva dva) hs ((row_el (f:=rqc) (sz:=3) (fun _=>rfl) rqd tv ((ss.getD k ost0).a.toNat) oM).trans (rtv_cells eva)) (eV 9 76 (qS sdA ((td).length) sdc) (eV 10 77 (qP za 1) (eO 11 78 [(0,1,1)] (iV ((ss.getD k ost0).a)) hs ?_)));obtain ⟨zm,zH⟩:=hs.rowA 1 (A:=sdA) (c:=sdc) (m:=(td).length) (ty:=97) (sz:=3) (cs:=(td).flatMap rqc) oM;subst zH;refine eX 12 79 (sB zm) ((td).length) sdc 3 ((ss.getD k ost0).a) ((ss.getD k ost0).a.toNat) rfl ?_;obtain ⟨Ada,cda,Dda,dda,eda,hcda,hdda,hAda,hDda⟩:=(hs.f.q.q.q.r.1).at_ ((ss.getD k ost0).a.toNat) (by simp only[tvals_len,tders_len];omega);replace hs:=hs.aP hAda hDda;refine eRq (ty:=97) (sz:=3) (c:=sdc) (m:=(td).length) (b:=zm) (cs:=(td).flatMap rqc) 13 80 1 (rG (dA_ ss at_ way k) Ada cda Dda dda) (rqx (dA_ ss at_ way k) Ada cda Dda dda) hs ((row_el (f:=rqc) (sz:=3) (fun _=>rfl) rqd td ((ss.getD k ost0).a.toNat) oM).trans (rtv_cells eda)) (eV 15 82 (qS (sB zl) ((tv).length) svc) (eV 16 83 (qP za 2) (eO 17 84 [(0,2,1)] (iV ((ss.getD k ost0).b)) hs (eX 18 85 (sB zl) ((tv).length) svc 3 ((ss.getD k ost0).b) ((ss.getD k ost0).b.toNat) rfl ?_))));obtain ⟨Avb,cvb,Dvb,dvb,evb,hcvb,hdvb,hAvb,hDvb⟩:=(hs.f.q.q.q.r.2.1).at_ ((ss.getD k ost0).b.toNat) (by simp only[tvals_len,tders_len];omega);replace hs:=hs.aP hAvb hDvb;refine eRq (ty:=97) (sz:=3) (c:=svc) (m:=(tv).length) (b:=zl) (cs:=(tv).flatMap rqc) 19 86 0 (rG (vB_ ss at_ k) Avb cvb Dvb dvb) (rqx (vB_ ss at_ k) Avb cvb Dvb dvb) hs ((row_el (f:=rqc) (sz:=3) (fun _=>rfl) rqd tv ((ss.getD k ost0).b.toNat) oM).trans (rtv_cells evb)) (eV 20 87 (qS (sB zm) ((td).length) sdc) (eV 21 88 (qP za 2) (eO 22 89 [(0,2,1)] (iV ((ss.getD k ost0).b)) hs (eX 23 90 (sB zm) ((td).length) sdc 3 ((ss.getD k ost0).b) ((ss.getD k ost0).b.toNat) rfl ?_))));obtain ⟨Adb,cdb,Ddb,ddb,edb,hcdb,hddb,hAdb,hDdb⟩:=(hs.f.q.q.q.q.r.1).at_ ((ss.getD k ost0).b.toNat) (by simp only[tvals_len,tders_len];omega);replace hs:=hs.aP hAdb hDdb;refine eRq (ty:=97) (sz:=3) (c:=sdc) (m:=(td).length) (b:=zm) (cs:=(td).flatMap rqc) 24 91 1 (rG (dB_ ss at_ way k) Adb cdb Ddb ddb) (rqx (dB_ ss at_ way k) Adb cdb Ddb ddb) hs ((row_el (f:=rqc) (sz:=3) (fun _=>rfl) rqd td ((ss.getD k ost0).b.toNat) oM).trans (rtv_cells edb)) (Rg.par [(14,81)] [(25,92)] (fun Γ_ G_ F_=>∃ zp:Nat,G_=(81,qS (sB zp) 2 2)::Γ_∧F_=fun h=>Seg h zp 0 ([.bool (ineg (vA_ ss at_ k).num),qS Ava ((lim (iabs (vA_ ss at_ k).num)).length) cva,qS Dva ((lim (vA_ ss at_ k).den).length) dva,.bool (ineg (dA_ ss at_ way k).num),qS Ada ((lim (iabs (dA_ ss at_ way k).num)).length) cda,qS Dda ((lim (dA_ ss at_ way k).den).length) dda])∧True) (fun Γ_ G_ F_=>∃ zn:Nat,G_=(92,qS (sB zn) 2 2)::Γ_∧F_=fun h=>Seg h zn 0 ([.bool (ineg (vB_ ss at_ k).num),qS Avb ((lim (iabs (vB_ ss at_ k).num)).length) cvb,qS Dvb ((lim (vB_ ss at_ k).den).length) dvb,.bool (ineg (dB_ ss at_ way k).num),qS Adb ((lim (iabs (dB_ ss at_ way k).num)).length) cdb,qS Ddb ((lim (dB_ ss at_ way k).den).length) ddb])∧True) mT mT trivial trivial (Ch.row 14 81 97 2 ([.bool (ineg (vA_ ss at_ k).num),qS Ava ((lim (iabs (vA_ ss at_ k).num)).length) cva,qS Dva ((lim (vA_ ss at_ k).den).length) dva,.bool (ineg (dA_ ss at_ way k).num),qS Ada ((lim (iabs (dA_ ss at_ way k).num)).length) cda,qS Dda ((lim (dA_ ss at_ way k).den).length) dda]) mT (fun zp=>⟨zp,rfl,rfl⟩)) (Ch.row 25 92 97 2 ([.bool (ineg (vB_ ss at_ k).num),qS Avb ((lim (iabs (vB_ ss at_ k).num)).length) cvb,qS Dvb ((lim (vB_ ss at_ k).den).length) dvb,.bool (ineg (dB_ ss at_ way k).num),qS Adb ((lim (iabs (dB_ ss at_ way k).num)).length) cdb,qS Ddb ((lim (dB_ ss at_ way k).den).length) ddb]) mT (fun zn=>⟨zn,rfl,rfl⟩)) ?_);rintro _ _ _ _ _ _ u89 ⟨zp,rfl,rfl⟩ ⟨zn,rfl,rfl⟩ ⟨zT,-⟩ ⟨zU,-⟩;refine ⟨_,fun _ ka kb=>Kn.app [(92,qS (sB zn) 2 2)] ka kb,?_⟩;replace hs:=hs.step u89;replace hs:=hs.a_Seg zT;replace hs:=hs.a_Seg zU;replace hs:=hs.aS (SlO.of_flat (sz:=3) (f:=rqc) (d:=rqd) (b:=zp) (o:=0) (l:=([((ineg (vA_ ss at_ k).num,qS Ava ((lim (iabs (vA_ ss at_ k).num)).length) cva,qS Dva ((lim (vA_ ss at_ k).den).length) dva):RT),((ineg (dA_ ss at_ way k).num,qS Ada ((lim (iabs (dA_ ss at_ way k).num)).length) cda,qS Dda ((lim (dA_ ss at_ way k).den).length) dda):RT)]:List RT)) (fun _=>rfl) hs.f.2.1);have hl94:([((ineg (vA_ ss at_ k).num,qS Ava ((lim (iabs (vA_ ss at_ k).num)).length) cva,qS Dva ((lim (vA_ ss at_ k).den).length) dva):RT),((ineg (dA_ ss at_ way k).num,qS Ada ((lim (iabs (dA_ ss at_ way k).num)).length) cda,qS Dda ((lim (dA_ ss at_ way k).den).length) dda):RT)]:List RT).length=2:=rfl;have hl95:([(vA_ ss at_ k),(dA_ ss at_ way k)]:List Rat).length=2:=rfl;replace hs:=hs.aT (RTs.snoc (RTs.snoc RTs.nil (rqOk hcva hdva hs.f.q.q.r.1 hs.f.q.q.2.1)) (rqOk hcda hdda hs.f.q.q.1 hs.f.q.r.2.1));replace hs:=hs.aS (SlO.of_flat (sz:=3) (f:=rqc) (d:=rqd) (b:=zn) (o:=0) (l:=([((ineg (vB_ ss at_ k).num,qS Avb ((lim (iabs (vB_ ss at_ k).num)).length) cvb,qS Dvb ((lim (vB_ ss at_ k).den).length) dvb):RT),((ineg (dB_ ss at_ way k).num,qS Adb ((lim (iabs (dB_ ss at_ way k).num)).length) cdb,qS Ddb ((lim (dB_ ss at_ way k).den).length) ddb):RT)]:List RT)) (fun _=>rfl) hs.f.r.1);have hl98:([((ineg (vB_ ss at_ k).num,qS Avb ((lim (iabs (vB_ ss at_ k).num)).length) cvb,qS Dvb ((lim (vB_ ss at_ k).den).length) dvb):RT),((ineg (dB_ ss at_ way k).num,qS Adb ((lim (iabs (dB_ ss at_ way k).num)).length) cdb,qS Ddb ((lim (dB_ ss at_ way k).den).length) ddb):RT)]:List RT).length=2:=rfl;have hl99:([(vB_ ss at_ k),(dB_ ss at_ way k)]:List Rat).length=2:=rfl;replace hs:=hs.aT (RTs.snoc (RTs.snoc RTs.nil (rqOk hcvb hdvb hs.f.q.q.1 hs.f.q.r.2.1)) (rqOk hcdb hddb hs.f.q.r.1 hs.f.q.2.1));refine eC 26 93 hs (fun _ _ hs=>rOfSeries (ss.getD k ost0).op (ss.getD k ost0).n (sB zp) 2 [(vA_ ss at_ k),(dA_ ss at_ way k)] ([((ineg (vA_ ss at_ k).num,qS Ava ((lim (iabs (vA_ ss at_ k).num)).length) cva,qS Dva ((lim (vA_ ss at_ k).den).length) dva):RT),((ineg (dA_ ss at_ way k).num,qS Ada ((lim (iabs (dA_ ss at_ way k).num)).length) cda,qS Dda ((lim (dA_ ss at_ way k).den).length) dda):RT)]:List RT) (sB zn) 2 [(vB_ ss at_ k),(dB_ ss at_ way k)] ([((ineg (vB_ ss at_ k).num,qS Avb ((lim (iabs (vB_ ss at_ k).num)).length) cvb,qS Dvb ((lim (vB_ ss at_ k).den).length) dvb):RT),((ineg (dB_ ss at_ way k).num,qS Adb ((lim (iabs (dB_ ss at_ way k).num)).length) cdb,qS Ddb ((lim (dB_ ss at_ way k).den).length) ddb):RT)]:List RT) (nR _) (nR _) 100000 2000000 oM oM oM oM oM rfl rfl (hLb (ss.getD k ost0).a.toNat) (lq_lst oM ((hLb (ss.getD k ost0).a.toNat).mono oM) (hDb (ss.getD k ost0).a.toNat)) (lq_lst oM ((hLb (ss.getD k ost0).b.toNat).mono oM) (hDb (ss.getD k ost0).b.toNat)) _ _ hs.g hs.f.r.2.1 hs.f.r.1 hs.f.2.1 hs.f.1) ?_;rintro _ _ _ _ _ hs ⟨zq,zr,zb,rfl,hc103,zI,zJ⟩;replace hs:=((hs.aS zI).aT zJ);refine eV 27 66 (.tuple #[qS zq zb.length zr,iV (ofsE (ss.getD k ost0).op (ss.getD k ost0).n (vA_ ss at_ k) (vB_ ss at_ k))]) (eV 28 94 (qS zq zb.length zr) (eV 29 95 (iV (ofsE (ss.getD k ost0).op (ss.getD k ost0).n (vA_ ss at_ k) (vB_ ss at_ k))) (eD0 hs (fun _ zW hs=>tV 30 14 (qS zq zb.length zr) (tV 31 15 (iV (ofsE (ss.getD k ost0).op (ss.getD k ost0).n (vA_ ss at_ k) (vB_ ss at_ k))) (tN (cTo [(1,qS X tAt.length cX),(2,qS Y tWy.length cY),(3,pB b1),(11,nV k),(9,qS (sB zl) ((tv).length) svc),(10,qS (sB zm) ((td).length) sdc),(13,qS Aq 2 2),(14,qS zq zb.length zr),(15,iV (ofsE (ss.getD k ost0).op (ss.getD k ost0).n (vA_ ss at_ k) (vB_ ss at_ k)))] ?_)))))));refine cQ (cSL (lL hs [.m 96 15] ?_));cases zo:((ofsE (ss.getD k ost0).op (ss.getD k ost0).n (vA_ ss at_ k) (vB_ ss at_ k):Int) != (0:Int))
     ·
      have zx:=eqOfBne zo;refine lB 97 zo (lN (cIF (cK (kQ (lL hs [.m 99 14,.m 13 99] (lD ?_))))));have hE0:ofsE (ss.getD k ost0).op (ss.getD k ost0).n (vA_ ss at_ k) (vB_ ss at_ k)=0:=by omega
      have hoL:=(ofs_L (op:=(ss.getD k ost0).op) (n:=(ss.getD k ost0).n) (xs:=[(vA_ ss at_ k),(dA_ ss at_ way k)]) (ys:=[(vB_ ss at_ k),(dB_ ss at_ way k)]) hE0).trans (fin_k oM oM);intro a_ ka;have zX:zb.length=2:=(by rw[(hs.f.1).len,hoL];rfl);replace hs:=((hs.tl.tl.tl.tl.tl.tl.tl.tl.tl.tl.tl.tl.tl.tl.tl.tl.add (K:=Rt zb (finL_ ss at_ way k)) (by rw[←hoL];exact hs.f.1)).aS hs.f.2.1);exact ⟨_,⟨zq,zb.length,zr,zb,zW,rfl,hs.to _ _,zX,((serr_ofs (s:=(ss.getD k ost0).stp) (show (ss.getD k ost0).op≠2 by omega)).trans hE0)⟩,ka.to _ kR⟩
     have zx:=neOfBne zo;refine lB 97 zo (lN (cIT (cSL (lL hs [.m 98 15,.v 6 (sZ),.v 7 (sZ),.m 8 98] (lN (kX ?_))))));have hend:terr true (ss.map OSt.stp) at_ (ss.map OSt.stp).length=ofsE (ss.getD k ost0).op (ss.getD k ost0).n (vA_ ss at_ k) (vB_ ss at_ k):=terr_stopL hter (by rw[List.length_map];omega) (fun _=>rfl) (by rw[stp_getD oM];exact serr_ofs (s:=(ss.getD k ost0).stp) (by show (ss.getD k ost0).op≠2;omega)) oM;exact hs.ret [] (.tuple #[sZ,sZ,iV (ofsE (ss.getD k ost0).op (ss.getD k ost0).n (vA_ ss at_ k) (vB_ ss at_ k))]) (by obtain ⟨e1,e2,e3⟩:=for_e (inp:=inp) (l:=(ss.map OSt.stp)) (os:=os) (at_:=at_) (way:=way) hck oM oM (by rw[hend];omega);rw[e1,e2,e3,hend];exact ⟨none,0,[],none,0,[],rfl,nR _,nR _,SlO.nil,SlO.nil,RTs.nil,RTs.nil⟩)
    rintro _ _ ⟨Az,nz,cz,tz,_,rfl,hs,hnz,hse⟩;have hlz:tz.length=2:=(hs.f.2.1).len;refine cSL (lL hs [.m 100 9,.m 101 13] (lX 102 Az nz cz 3 0 0 ((hs.f.1).ok oM) ?_));obtain ⟨Ay0,cy0,Dy0,dy0,ey0,hcy0,hdy0,hAy0,hDy0⟩:=(hs.f.2.1).at_ 0 oM;replace hs:=hs.aP hAy0 hDy0;refine lHe 103 (rA (tz.getD 0 rqd)) hs ((hs.f.r.1).el 0 oM) ey0 (lR 104 97 1 (rqx ((finL_ ss at_ way k).getD 0 0) Ay0 cy0 Dy0 dy0) hs (fun zA _ _ hs=>?_));replace hs:=hs.aS (SlO.of_flat (sz:=3) (f:=rqc) (d:=rqd) (b:=zA) (o:=0) (l:=([((ineg ((finL_ ss at_ way k).getD 0 0).num,qS Ay0 ((lim (iabs ((finL_ ss at_ way k).getD 0 0).num)).length) cy0,qS Dy0 ((lim ((finL_ ss at_ way k).getD 0 0).den).length) dy0):RT)]:List RT)) (fun _=>rfl) hs.f.1);have hl123:([((ineg ((finL_ ss at_ way k).getD 0 0).num,qS Ay0 ((lim (iabs ((finL_ ss at_ way k).getD 0 0).num)).length) cy0,qS Dy0 ((lim ((finL_ ss at_ way k).getD 0 0).den).length) dy0):RT)]:List RT).length=1:=rfl;have hl124:([((finL_ ss at_ way k).getD 0 0)]:List Rat).length=1:=rfl;replace hs:=hs.aT (RTs.snoc RTs.nil (rqOk hcy0 hdy0 hs.f.r.2.1 hs.f.r.1));refine lY 105 0 97 3 svc svA tv rqc ((ineg ((finL_ ss at_ way k).getD 0 0).num,qS Ay0 ((lim (iabs ((finL_ ss at_ way k).getD 0 0).num)).length) cy0,qS Dy0 ((lim ((finL_ ss at_ way k).getD 0 0).den).length) dy0):RT) 56 zA (.agg #[qF,sZ,sZ]) hs hs.f.r.1 (fun ya yb _ _ hs=>lL hs [.m 9 105] (lN (kQ (lL hs [.m 106 10,.m 107 13] (lX 108 Az nz cz 3 1 1 ((hs.f.q.2.1).ok oM) ?_)))));obtain ⟨Ay1,cy1,Dy1,dy1,ey1,hcy1,hdy1,hAy1,hDy1⟩:=(hs.f.q.r.1).at_ 1 oM;replace hs:=hs.aP hAy1 hDy1;refine lHe 109 (rA (tz.getD 1 rqd)) hs ((hs.f.q.r.2.1).el 1 oM) ey1 (lR 110 97 1 (rqx ((finL_ ss at_ way k).getD 1 0) Ay1 cy1 Dy1 dy1) hs (fun zB _ _ hs=>?_));replace hs:=hs.aS (SlO.of_flat (sz:=3) (f:=rqc) (d:=rqd) (b:=zB) (o:=0) (l:=([((ineg ((finL_ ss at_ way k).getD 1 0).num,qS Ay1 ((lim (iabs ((finL_ ss at_ way k).getD 1 0).num)).length) cy1,qS Dy1 ((lim ((finL_ ss at_ way k).getD 1 0).den).length) dy1):RT)]:List RT)) (fun _=>rfl) hs.f.1);have hl136:([((ineg ((finL_ ss at_ way k).getD 1 0).num,qS Ay1 ((lim (iabs ((finL_ ss at_ way k).getD 1 0).num)).length) cy1,qS Dy1 ((lim ((finL_ ss at_ way k).getD 1 0).den).length) dy1):RT)]:List RT).length=1:=rfl;have hl137:([((finL_ ss at_ way k).getD 1 0)]:List Rat).length=1:=rfl;replace hs:=hs.aT (RTs.snoc RTs.nil (rqOk hcy1 hdy1 hs.f.r.2.1 hs.f.r.1));refine lY 111 1 97 3 sdc sdA td rqc ((ineg ((finL_ ss at_ way k).getD 1 0).num,qS Ay1 ((lim (iabs ((finL_ ss at_ way k).getD 1 0).num)).length) cy1,qS Dy1 ((lim ((finL_ ss at_ way k).getD 1 0).den).length) dy1):RT) 56 zB (.agg #[qF,sZ,sZ]) hs hs.f.r.1 (fun yc yd _ ye hs=>lL hs [.m 10 111] (lN (kQ (lL hs [.m 36 11] (lIn 37 ((k:Nat)+1) (k+1) ?_)))));refine lL hs [.m 11 37] (lD ?_);intro a_ ka;replace hs:=((hs.tl.tl.tl.tl.tl.tl.tl.tl.tl.tl.tl.tl.tl.tl.tl.tl.tl.tl.tl.tl.tl.tl.tl.tl.tl.add (K:=Rt (td++[((ineg ((finL_ ss at_ way k).getD 1 0).num,qS Ay1 ((lim (iabs ((finL_ ss at_ way k).getD 1 0).num)).length) cy1,qS Dy1 ((lim ((finL_ ss at_ way k).getD 1 0).den).length) dy1):RT)]) (tders (ss.map OSt.stp) at_ way (k+1))) (by show RTs _ _ ((tders (ss.map OSt.stp) at_ way k)++[sder ((ss.map OSt.stp).getD k stp0) way (tvals (ss.map OSt.stp) at_ k) (tders (ss.map OSt.stp) at_ way k)]);rw[stp_getD oM];exact (hs.f.q.q.q.q.q.q.1).snoc (rqOk hcy1 hdy1 hs.f.q.1 hs.f.r.2.1))).add (K:=Rt (tv++[((ineg ((finL_ ss at_ way k).getD 0 0).num,qS Ay0 ((lim (iabs ((finL_ ss at_ way k).getD 0 0).num)).length) cy0,qS Dy0 ((lim ((finL_ ss at_ way k).getD 0 0).den).length) dy0):RT)]) (tvals (ss.map OSt.stp) at_ (k+1))) (by show RTs _ _ ((tvals (ss.map OSt.stp) at_ k)++[sval ((ss.map OSt.stp).getD k stp0) at_ (tvals (ss.map OSt.stp) at_ k)]);rw[stp_getD oM];exact (hs.f.q.q.q.q.q.r.2.1).snoc (rqOk hcy0 hdy0 hs.f.q.q.2.1 hs.f.q.q.1)));replace hs:=hs.drop 1 0;refine ⟨_,_,?_,⟨k+1,ya,yb,tv++[((ineg ((finL_ ss at_ way k).getD 0 0).num,qS Ay0 ((lim (iabs ((finL_ ss at_ way k).getD 0 0).num)).length) cy0,qS Dy0 ((lim ((finL_ ss at_ way k).getD 0 0).den).length) dy0):RT)],yc,yd,td++[((ineg ((finL_ ss at_ way k).getD 1 0).num,qS Ay1 ((lim (iabs ((finL_ ss at_ way k).getD 1 0).num)).length) cy1,qS Dy1 ((lim ((finL_ ss at_ way k).getD 1 0).den).length) dy1):RT)],ye,rfl,rfl,hs.to _ _,oM,(terr_step hter (by rw[stp_getD oM];exact hse))⟩,ka.to _ kR⟩
    omega
   have phb8:=neOfBne hb8;exact lB 29 hb8 (lL hs [.v 30 qT] (lN (cIT (cSL (lL hs [.v 6 (sZ),.v 7 (sZ),.v 8 (iV 5)] (lN (kX (hs.ret [] (.tuple #[sZ,sZ,iV 5]) (by obtain ⟨e1,e2,e3⟩:=for_5 (inp:=inp) (l:=(ss.map OSt.stp)) (os:=os) (at_:=at_) (way:=way) oM oM;rw[e1,e2,e3];exact ⟨none,0,[],none,0,[],rfl,nR _,nR _,SlO.nil,SlO.nil,RTs.nil,RTs.nil⟩)))))))))
  have phb7:=neOfBne hb7;refine lB 23 hb7 (lL hs [.m 24 23] (lG 25 ?_));exact lG 26 (lG 27 (lG 28 (lG 29 (lL hs [.v 30 qT] (lN (cIT (cSL (lL hs [.v 6 (sZ),.v 7 (sZ),.v 8 (iV 5)] (lN (kX (hs.ret [] (.tuple #[sZ,sZ,iV 5]) (by obtain ⟨e1,e2,e3⟩:=for_5 (inp:=inp) (l:=(ss.map OSt.stp)) (os:=os) (at_:=at_) (way:=way) oM oM;rw[e1,e2,e3];exact ⟨none,0,[],none,0,[],rfl,nR _,nR _,SlO.nil,SlO.nil,RTs.nil,RTs.nil⟩))))))))))))
 have phb6:=neOfBne hb6;exact lB 18 hb6 (lN (cIT (cSL (lL hs [.v 6 (sZ),.v 7 (sZ),.v 8 (iV 1)] (lN (kX (hs.ret [] (.tuple #[sZ,sZ,iV 1]) (by obtain ⟨e1,e2,e3⟩:=for_1 (inp:=inp) (l:=(ss.map OSt.stp)) (os:=os) (at_:=at_) (way:=way) oM;rw[e1,e2,e3];exact ⟨none,0,[],none,0,[],rfl,nR _,nR _,SlO.nil,SlO.nil,RTs.nil,RTs.nil⟩))))))))
theorem dotq_set {b d:List Rat}{a:Nat}{y:Rat}(ha:a<b.length):∀ n,dotq (b.set a y) d n=dotq b d n+(if a<n then (y-b.getD a 0)*d.getD a 0 else 0)
  | 0=>by show (0:Rat)=0+_;rw[if_neg (Nat.not_lt_zero a)];grind
  | n+1=>by
    show dotq (b.set a y) d n+(b.set a y).getD n 0*d.getD n 0=(dotq b d n+b.getD n 0*d.getD n 0)+_
    rw[dotq_set ha n,getD_set_ ha]
    rcases Nat.lt_trichotomy a n with h|h|h
    · rw[if_neg (by omega:¬n=a),if_pos h,if_pos oM];grind
    · subst h;rw[if_pos rfl,if_neg (Nat.lt_irrefl _),if_pos oM];grind
    · rw[if_neg oM,if_neg oM,if_neg oM];grind
theorem dotq_set' {b d:List Rat}{a n:Nat}{y x:Rat}(ha:a<b.length)(hn:a<n)(hy:y=b.getD a 0+x):dotq (b.set a y) d n=dotq b d n+x*d.getD a 0:=by
  rw[dotq_set ha,if_pos hn,hy];grind
theorem tders_get (l:List Stp)(at_ way:List Rat)(k:Nat):∀ n,k≤n→∀ j,j<k→(tders l at_ way n).getD j 0=(tders l at_ way k).getD j 0:=fun n hn=>by
  induction hn with
  | refl=>intro j _;rfl
  | @step n hn ih =>
    intro j hj;have hn':k≤n:=hn
    show (tders l at_ way n++[_]).getD j 0=_
    rw[getD_snoc,tders_len,if_pos oM];exact ih j hj
section
variable {l:List Stp} {at_ way bar g:List Rat} {k:Nat}
theorem ders_at (hk:k<l.length)(ho:Opr k (l.getD k stp0)):(tders l at_ way l.length).getD k 0=sder (l.getD k stp0) way (tvals l at_ l.length) (tders l at_ way l.length):=by
  rw[tders_get l at_ way (k+1) l.length oM k oM]
  show (tders l at_ way k++[_]).getD k 0=_
  rw[getD_snoc,tders_len,if_neg (Nat.lt_irrefl k),if_pos rfl]
  unfold sder
  split
  · rfl
  · obtain ⟨o1,o2,o3,_⟩:=ho
    by_cases h:0<ari (l.getD k stp0).op
    · rw[if_pos h,if_pos h,←tvals_get l at_ k l.length oM _ (o1 h),←tvals_get l at_ k l.length oM _ (o3 h),←tders_get l at_ way k l.length oM _ (o1 h)]
      by_cases h2:1<ari (l.getD k stp0).op
      · rw[if_pos h2,if_pos h2,←tders_get l at_ way k l.length oM _ (o2 h2)]
      · rw[if_neg h2,if_neg h2]
    · rw[if_neg h,if_neg h,if_neg oM,if_neg oM]
def Bk (l:List Stp)(at_:List Rat)(inp:Nat)(T:List Rat→Rat)(k:Nat)(bar g:List Rat):Prop :=
  ∀ way,dotq bar (tders l at_ way l.length) k+dotq g way inp=T way
section
variable {inp:Nat} {T:List Rat→Rat} (B:Bk l at_ inp T (k+1) bar g) (hk:k<l.length)
include B
theorem Bk.skip (h0:bar.getD k 0=0):Bk l at_ inp T k bar g:=fun way=>by
  have:=B way
  change dotq bar _ k+bar.getD k 0*_+_=_ at this
  rw[h0] at this;rw[←this];grind
theorem Bk.step {x:Rat}(d:∀ way,(tders l at_ way l.length).getD k 0=sder (l.getD k stp0) way (tvals l at_ l.length) (tders l at_ way l.length))(hx:x=bar.getD k 0):∀ way,dotq bar (tders l at_ way l.length) k+x*sder (l.getD k stp0) way (tvals l at_ l.length) (tders l at_ way l.length)+dotq g way inp=T way:=fun way=>by
  have:=B way
  change dotq bar _ k+bar.getD k 0*_+_=_ at this
  rw[d way] at this
  rw[hx];exact this
include hk
theorem Bk.name (ho:Opr k (l.getD k stp0))(h2:(l.getD k stp0).op=2)(hg:(l.getD k stp0).n.toNat<g.length)(hi:(l.getD k stp0).n.toNat<inp):Bk l at_ inp T k bar (g.set (l.getD k stp0).n.toNat (g.getD (l.getD k stp0).n.toNat 0+bar.getD k 0)):=fun way=>by
  have:=B.step (fun way=>ders_at hk ho) rfl way
  unfold sder at this
  rw[if_pos h2] at this
  rw[dotq_set' hg hi rfl,←this];grind
theorem Bk.num (ho:Opr k (l.getD k stp0))(h2:(l.getD k stp0).op≠2)(ha:¬0<ari (l.getD k stp0).op):Bk l at_ inp T k bar g:=fun way=>by
  have:=B.step (fun way=>ders_at hk ho) rfl way
  unfold sder at this
  rw[if_neg h2,if_neg ha,if_neg oM] at this
  rw[←this];grind
theorem Bk.one {x:Rat}(ho:Opr k (l.getD k stp0))(h2:(l.getD k stp0).op≠2)(ha:0<ari (l.getD k stp0).op)(hb:¬1<ari (l.getD k stp0).op)(hl:k≤bar.length)
    (hx:x=sla (l.getD k stp0).op (l.getD k stp0).n ((tvals l at_ l.length).getD (l.getD k stp0).a.toNat 0) ((tvals l at_ l.length).getD (l.getD k stp0).b.toNat 0)) :
    Bk l at_ inp T k (bar.set (l.getD k stp0).a.toNat (bar.getD (l.getD k stp0).a.toNat 0+bar.getD k 0*x)) g:=fun way=>by
  have:=B.step (fun way=>ders_at hk ho) rfl way;have oa:=ho.1 ha
  unfold sder at this
  rw[if_neg h2,if_pos ha,if_neg hb,←hx] at this
  rw[dotq_set' oM oa rfl,←this];grind
theorem Bk.two {x y:Rat}(ho:Opr k (l.getD k stp0))(h2:(l.getD k stp0).op≠2)(hb:1<ari (l.getD k stp0).op)(hl:k<bar.length)
    (hx:x=sla (l.getD k stp0).op (l.getD k stp0).n ((tvals l at_ l.length).getD (l.getD k stp0).a.toNat 0) ((tvals l at_ l.length).getD (l.getD k stp0).b.toNat 0))
    (hy:y=slb (l.getD k stp0).op ((tvals l at_ l.length).getD (l.getD k stp0).a.toNat 0) ((tvals l at_ l.length).getD (l.getD k stp0).b.toNat 0)){b1:List Rat}
    (h1:b1=bar.set (l.getD k stp0).a.toNat (bar.getD (l.getD k stp0).a.toNat 0+bar.getD k 0*x)) :
    Bk l at_ inp T k (b1.set (l.getD k stp0).b.toNat (b1.getD (l.getD k stp0).b.toNat 0+b1.getD k 0*y)) g:=fun way=>by
  have:=B.step (fun way=>ders_at hk ho) rfl way;have oa:=ho.1 oM;have ob:=ho.2.1 hb
  unfold sder at this
  rw[if_neg h2,if_pos oM,if_pos hb,←hx,←hy] at this
  have e:b1.getD k 0=bar.getD k 0:=by rw[h1,getD_set_ oM,if_neg oM]
  rw[dotq_set' (by rw[h1,List.length_set];omega) ob rfl,e,h1,dotq_set' oM oa rfl,←this];grind
end
end
def upd (f:Nat→Nat)(a x:Nat):Nat→Nat:=fun j=>if j=a then f a+x else f j
def pot (wt f:Nat→Nat):Nat→Nat
  | 0=>0
  | k+1=>pot wt f k+f k*wt k
theorem pot_upd (wt f:Nat→Nat)(a x:Nat):∀ k,pot wt (upd f a x) k=pot wt f k+(if a<k then x*wt a else 0)
  | 0=>by rw[if_neg (Nat.not_lt_zero a)];rfl
  | k+1=>by
    show pot wt (upd f a x) k+upd f a x k*wt k=pot wt f k+f k*wt k+_
    rw[pot_upd wt f a x k];unfold upd
    rcases Nat.lt_trichotomy a k with h|h|h
    · rw[if_pos h,if_neg (by omega:¬k=a),if_pos oM];omega
    · subst h;rw[if_neg (Nat.lt_irrefl _),if_pos rfl,if_pos oM,Nat.add_mul];omega
    · rw[if_neg oM,if_neg oM,if_neg oM];omega
theorem pot_le (wt f:Nat→Nat):∀ k,(∀ j,j<k→1≤wt j)→∀ j,j<k→f j≤pot wt f k
  | k+1,hw,j,hj=>by
    show f j≤pot wt f k+f k*wt k
    by_cases e:j=k
    · subst e;have:=Nat.mul_le_mul_left (f j) (hw j hj);omega
    · have:=pot_le wt f k (fun i hi=>hw i oM) j oM;omega
def Wt (l:List Stp)(wt:Nat→Nat):Prop:=∀ k,k<l.length→1≤wt k∧(0<ari (l.getD k stp0).op→wt (l.getD k stp0).a.toNat≤wt k)∧(1<ari (l.getD k stp0).op→wt (l.getD k stp0).a.toNat+wt (l.getD k stp0).b.toNat≤wt k)
def rem_ (wt sg:Nat→Nat):Nat→Nat:=pot wt (fun k=>sg k+2)
def Bz (wt sg:Nat→Nat)(C:Nat)(k:Nat)(bar g:List Rat):Prop :=
  ∃ f:Nat→Nat,∃ E,(∀ j,LQ (f j) (bar.getD j 0))∧(∀ j,LQ E (g.getD j 0))∧E+pot wt f k+rem_ wt sg k≤C
section
variable {l:List Stp} {bar g:List Rat} {wt sg:Nat→Nat} {C k:Nat}
theorem lq_upd {f:Nat→Nat}{a x:Nat}{y:Rat}(h:∀ j,LQ (f j) (bar.getD j 0))(hy:LQ (f a+x) y)(j:Nat):LQ (upd f a x j) ((bar.set a y).getD j 0):=by
  unfold upd
  by_cases ha:a<bar.length
  · rw[getD_set_ ha]
    by_cases e:j=a
    · rw[if_pos e,if_pos e];exact hy
    · rw[if_neg e,if_neg e];exact h j
  · rw[List.set_eq_of_length_le oM]
    by_cases e:j=a
    · rw[if_pos e,e];exact (h a).mono oM
    · rw[if_neg e];exact h j
theorem Bz.lb (Z:Bz wt sg C k bar g)(hw:∀ j,j<k→1≤wt j):∀ j,j<k→LQ C (bar.getD j 0):=fun j hj=>by
  obtain ⟨f,E,hf,hE,hC⟩:=Z;have:=pot_le wt f k hw j hj;exact (hf j).mono oM
theorem Bz.lg (Z:Bz wt sg C k bar g):∀ j,LQ C (g.getD j 0):=fun j=>by
  obtain ⟨f,E,hf,hE,hC⟩:=Z;exact (hE j).mono oM
theorem rem_s (wt sg:Nat→Nat)(k:Nat):rem_ wt sg (k+1)=rem_ wt sg k+(sg k+2)*wt k:=rfl
theorem Bz.skip (Z:Bz wt sg C (k+1) bar g):Bz wt sg C k bar g:=by
  obtain ⟨f,E,hf,hE,hC⟩:=Z;rw[rem_s] at hC
  change E+(pot wt f k+_)+_≤_ at hC
  exact ⟨f,E,hf,hE,by omega⟩
theorem Bz.mul (Z:Bz wt sg C (k+1) bar g)(hw:1≤wt k){x:Rat}(hx:LQ (sg k) x):LQ C (bar.getD k 0*x):=by
  obtain ⟨f,E,hf,hE,hC⟩:=Z;rw[rem_s] at hC
  change E+(pot wt f k+f k*wt k)+_≤_ at hC
  have h1:=Nat.mul_le_mul_left (f k) hw;have h2:=Nat.mul_le_mul_left (sg k+2) hw;exact ((hf k).mul hx).mono oM
theorem Bz.name (Z:Bz wt sg C (k+1) bar g)(hw:1≤wt k)(n:Nat):Bz wt sg C k bar (g.set n (g.getD n 0+bar.getD k 0)):=by
  obtain ⟨f,E,hf,hE,hC⟩:=Z;rw[rem_s] at hC
  change E+(pot wt f k+f k*wt k)+_≤_ at hC
  have h1:=Nat.mul_le_mul_left (f k) hw;have h2:=Nat.mul_le_mul_left (sg k+2) hw;exact ⟨f,E+f k+1,hf,lq_set (fun j=>(hE j).mono oM) ((hE n).add (hf k)),by omega⟩
theorem Bz.one (Z:Bz wt sg C (k+1) bar g){a:Nat}(ha:wt a≤wt k)(hak:a<k){x:Rat}(hx:LQ (sg k) x):Bz wt sg C k (bar.set a (bar.getD a 0+bar.getD k 0*x)) g:=by
  obtain ⟨f,E,hf,hE,hC⟩:=Z;rw[rem_s] at hC
  change E+(pot wt f k+f k*wt k)+_≤_ at hC
  refine ⟨upd f a (f k+sg k+1),E,lq_upd hf (((hf a).add ((hf k).mul hx)).mono oM),hE,?_⟩;rw[pot_upd,if_pos hak];have h1:=Nat.mul_le_mul_left (f k+sg k+1) ha;rw[show (f k+sg k+1)*wt k=f k*wt k+(sg k+1)*wt k by rw[show f k+sg k+1=f k+(sg k+1) by omega,Nat.add_mul]] at h1
  rw[Nat.add_mul (sg k) 2] at hC
  rw[Nat.add_mul (sg k) 1] at h1
  omega
theorem Bz.two (Z:Bz wt sg C (k+1) bar g){a b:Nat}(hw:1≤wt k)(hws:∀ j,j<k→1≤wt j)(ha:wt a+wt b≤wt k)(hak:a<k)(hbk:b<k)(hl:k<bar.length){x y:Rat}(hx:LQ (sg k) x)(hy:LQ (sg k) y){b1:List Rat}(h1:b1=bar.set a (bar.getD a 0+bar.getD k 0*x)) :
    LQ C (b1.getD k 0)∧LQ C (b1.getD b 0)∧LQ C (b1.getD k 0*y)∧Bz wt sg C k (b1.set b (b1.getD b 0+b1.getD k 0*y)) g:=by
  have e:b1.getD k 0=bar.getD k 0:=by rw[h1,getD_set_ oM,if_neg oM]
  have z1:=Z.mul hw hy
  have z0:LQ C (bar.getD k 0):=by
    obtain ⟨f,E,hf,hE,hC⟩:=Z
    change E+(pot wt f k+f k*wt k)+_≤_ at hC
    have h1:=Nat.mul_le_mul_left (f k) hw;exact (hf k).mono oM
  rw[e];obtain ⟨f,E,hf,hE,hC⟩:=Z;rw[rem_s] at hC
  change E+(pot wt f k+f k*wt k)+_≤_ at hC
  have hf1:∀ j,LQ (upd f a (f k+sg k+1) j) (b1.getD j 0):=by
    rw[h1];exact lq_upd hf (((hf a).add ((hf k).mul hx)).mono oM)
  have hp:pot wt (upd (upd f a (f k+sg k+1)) b (f k+sg k+1)) k≤pot wt f k+(f k*wt k+(sg k+1)*wt k):=by
    rw[pot_upd,pot_upd,if_pos hak,if_pos hbk];have h2:=Nat.mul_le_mul_left (f k+sg k+1) ha;rw[Nat.mul_add,show (f k+sg k+1)*wt k=f k*wt k+(sg k+1)*wt k by rw[show f k+sg k+1=f k+(sg k+1) by omega,Nat.add_mul]] at h2
    omega
  have hp1:upd f a (f k+sg k+1) b≤pot wt f k+(f k*wt k+(sg k+1)*wt k):=by
    have h3:=pot_le wt (upd f a (f k+sg k+1)) k hws b hbk;rw[pot_upd,if_pos hak] at h3
    have h2:=Nat.mul_le_mul_left (f k+sg k+1) (show wt a≤wt k by omega);rw[show (f k+sg k+1)*wt k=f k*wt k+(sg k+1)*wt k by rw[show f k+sg k+1=f k+(sg k+1) by omega,Nat.add_mul]] at h2
    omega
  refine ⟨z0,(hf1 b).mono ?_,z1,upd (upd f a (f k+sg k+1)) b (f k+sg k+1),E,lq_upd hf1 (((hf1 b).add ((hf k).mul hy)).mono oM),hE,?_⟩
  · rw[Nat.add_mul (sg k) 2] at hC;rw[Nat.add_mul (sg k) 1] at hp1;omega
  · rw[Nat.add_mul (sg k) 2] at hC;rw[Nat.add_mul (sg k) 1] at hp;omega
end
theorem lq_sel {c:Prop}[Decidable c]{a b:Rat}{k:Nat}(ha:c→LQ k a)(hb:¬c→LQ k b):LQ k (if c then a else b):=by
  by_cases h:c
  · rw[if_pos h];exact ha h
  · rw[if_neg h];exact hb h
section
variable {a b q:Rat} {op n:Int} {K M:Nat}
theorem lq_powM (ha:LQ K a)(hn:n.natAbs≤M):LQ (M*K+2) (powq a n):=by
  have h1:LQ 1 (((1:Int):Rat)):=LQ.lit (z:=1) kD;have e:=Nat.mul_le_mul_right K hn
  unfold powq
  exact lq_sel (fun _=>(lq_powN ha _).mono oM) fun _=>(h1.div (lq_powN ha _)).mono oM
theorem lq_opv (hK:1≤K)(hM:2≤M)(ha:LQ K a)(hb:LQ K b)(hq:LQ 1 q)(hn:op=8→n.natAbs≤M):LQ (M*K+2) (opv op n q a b):=by
  have h1:LQ 1 (((1:Int):Rat)):=LQ.lit (z:=1) kD;have e:=Nat.mul_le_mul_right K hM
  unfold opv
  exact lq_sel (fun _=>hq.mono oM) fun _=>lq_sel (fun _=>(ha.add hb).mono oM) fun _=>lq_sel (fun _=>(ha.sub hb).mono oM) fun _=>lq_sel (fun _=>(ha.mul hb).mono oM) fun _=>lq_sel (fun _=>(ha.div hb).mono oM) fun _ =>
    lq_sel (fun _=>ha.neg.mono oM) fun _=>lq_sel (fun h=>lq_powM ha (hn h)) fun _=>lq_sel (fun _=>ha.abs.mono oM) fun _=>lq_sel (fun _=>(LQ.maxR ha (lq0 hK)).mono oM) fun _ =>
    lq_sel (fun _=>(ha.div (ha.abs.add h1)).mono oM) fun _=>lq_sel (fun _=>(LQ.maxR ha hb).mono oM) fun _=>by
      unfold minR;exact lq_sel (fun _=>hb.mono oM) fun _=>ha.mono oM
theorem lq_slaM (hK:1≤K)(hM:2≤M)(hM2:M≤12)(ha:LQ K a)(hb:LQ K b)(hn:op=8→n.natAbs≤M):LQ ((M+1)*K+5) (sla op n a b):=by
  have h1:LQ 1 (((1:Int):Rat)):=LQ.lit (z:=1) kD;have h0:LQ ((M+1)*K+5) (0:Rat):=lq0 oM;have hs:=sign_bd a.num;have h2:=h1.div (h1.add ha.abs);have e:=Nat.mul_le_mul_right K (show 3≤M+1 by omega)
  unfold sla
  exact lq_ite (fun _=>h1.mono oM) fun _=>lq_ite (fun _=>h1.mono oM) fun _=>lq_ite (fun _=>hb.mono oM) fun _=>lq_ite (fun _=>(h1.div hb).mono oM) fun _=>lq_ite (fun _=>h1.neg.mono oM) fun _ =>
    lq_ite (fun e=>lq_ite (fun _=>h0) fun _=>((lq_powM (n:=n-1) (M:=M+1) ha (by have:=hn e;omega)).mul (LQ.int (z:=n) (by have:=hn e;omega) (by have:=hn e;omega))).mono oM) fun _ =>
    lq_ite (fun _=>(LQ.int oM oM).mono oM) fun _=>lq_ite (fun _=>(LQ.int oM oM).mono oM) fun _=>lq_ite (fun _=>(h2.mul h2).mono oM) fun _ =>
    lq_ite (fun _=>lq_ite (fun _=>h1.mono oM) fun _=>h0) fun _=>lq_ite (fun _=>lq_ite (fun _=>h0) fun _=>h1.mono oM) fun _=>h0
theorem lq_slbM (hK:1≤K)(hM:2≤M)(ha:LQ K a)(hb:LQ K b):LQ ((M+1)*K+5) (slb op a b):=by
  have h1:LQ 1 (((1:Int):Rat)):=LQ.lit (z:=1) kD;have h0:LQ ((M+1)*K+5) (0:Rat):=lq0 oM;have h2:=h1.div hb;have e:=Nat.mul_le_mul_right K (show 3≤M+1 by omega)
  unfold slb
  exact lq_ite (fun _=>h1.mono oM) fun _=>lq_ite (fun _=>h1.neg.mono oM) fun _=>lq_ite (fun _=>ha.mono oM) fun _=>lq_ite (fun _=>((ha.mul h2).mul h2).neg.mono oM) fun _ =>
    lq_ite (fun _=>lq_ite (fun _=>h0) fun _=>h1.mono oM) fun _=>lq_ite (fun _=>lq_ite (fun _=>h1.mono oM) fun _=>h0) fun _=>h0
end
def Tame (z:Nat)(l:List Stp):Prop:=∀ k,k<l.length→(l.getD k stp0).op=8→(k=z → -12≤(l.getD k stp0).n∧(l.getD k stp0).n≤12)∧(k≠z → -1≤(l.getD k stp0).n∧(l.getD k stp0).n≤2)
def vb (z k:Nat):Nat:=(if k≤z then 3 else 18)*2^k-2
def sg_ (z k:Nat):Nat:=if k=z then 13*vb z k+5 else 3*vb z k+5
theorem vb_1 (z k:Nat):1≤vb z k:=by
  unfold vb
  have:=Nat.one_le_two_pow (n:=k)
  split<;>omega
theorem vb_s (z k:Nat):(if k=z then 12*vb z k+2 else 2*vb z k+2)≤vb z (k+1)∧vb z k≤vb z (k+1):=by
  unfold vb
  have:=Nat.one_le_two_pow (n:=k);rw[Nat.pow_succ]
  rcases Nat.lt_trichotomy k z with h|h|h
  · rw[if_neg oM,if_pos oM,if_pos oM];omega
  · rw[if_pos h,if_pos oM,if_neg oM];omega
  · rw[if_neg oM,if_neg oM,if_neg oM];omega
theorem vb_le {z k n:Nat}(h:k≤n):vb z k≤vb z n:=by
  induction h with
  | refl=>exact Nat.le_refl _
  | step _ ih=>exact Nat.le_trans ih (vb_s z _).2
theorem lq_snoc {v:List Rat}{x:Rat}{K:Nat}(h:∀ j,LQ K (v.getD j 0))(hx:LQ K x)(h1:1≤K)(j:Nat):LQ K ((v++[x]).getD j 0):=by
  rw[getD_snoc]
  split
  · exact h j
  · split
    · exact hx
    · exact lq0 h1
theorem sg_le (z k:Nat):sg_ z k+2≤55*2^k∧(k<z→sg_ z k+2≤10*2^k):=by
  unfold sg_ vb
  have:=Nat.one_le_two_pow (n:=k);refine ⟨?_,fun h=>?_⟩
  · split
    · rw[if_pos oM];omega
    · split<;>omega
  · rw[if_neg oM,if_pos oM];omega
theorem lq_slopes {z:Nat}{l:List Stp}(ht:Tame z l){k:Nat}(hk:k<l.length){u v:Rat}(hu:LQ (vb z k) u)(hv:LQ (vb z k) v):LQ (sg_ z k) (sla (l.getD k stp0).op (l.getD k stp0).n u v)∧LQ (sg_ z k) (slb (l.getD k stp0).op u v):=by
  have h1:=vb_1 z k
  unfold sg_
  by_cases ez:k=z
  · rw[if_pos ez]
    exact ⟨lq_slaM (M:=12) h1 oM oM hu hv (fun e8=>by have:=(ht k hk e8).1 ez;omega),lq_slbM (M:=12) h1 oM hu hv⟩
  · rw[if_neg ez]
    exact ⟨lq_slaM (M:=2) h1 oM oM hu hv (fun e8=>by have:=(ht k hk e8).2 ez;omega),lq_slbM (M:=2) h1 oM hu hv⟩
section
variable {z:Nat} {l:List Stp} {at_ way:List Rat} (ht:Tame z l) (hq:∀ i,LQ 1 (l.getD i stp0).q) (ha:∀ j,LQ 1 (at_.getD j 0))
include ht hq ha
theorem lq_tvals:∀ k,k≤l.length→∀ j,LQ (vb z k) ((tvals l at_ k).getD j 0)
  | 0,_,j=>by
    show LQ _ (([]:List Rat).getD j 0)
    rw[getD_outR (by simp)];exact lq0 (vb_1 z 0)
  | k + 1,hk,j=>by
    have ih:=lq_tvals k oM;have h1:=vb_1 z k;obtain ⟨h2,h3⟩:=vb_s z k;refine lq_snoc (fun j=>(ih j).mono h3) ?_ (vb_1 z (k+1)) j
    unfold sval
    by_cases e:(l.getD k stp0).op=2
    · rw[if_pos e];exact (ha _).mono oM
    · rw[if_neg e]
      by_cases ez:k=z
      · rw[if_pos ez] at h2
        exact (lq_opv (M:=12) h1 oM (ih _) (ih _) (hq k) (fun e8=>by have:=(ht k oM e8).1 ez;omega)).mono h2
      · rw[if_neg ez] at h2
        exact (lq_opv (M:=2) h1 oM (ih _) (ih _) (hq k) (fun e8=>by have:=(ht k oM e8).2 ez;omega)).mono h2
theorem lq_tders (hw:∀ j,LQ 1 (way.getD j 0)):∀ k,k≤l.length→∀ j,LQ (2^k*(1+56*k)) ((tders l at_ way k).getD j 0)
  | 0,_,j=>by
    show LQ _ (([]:List Rat).getD j 0)
    rw[getD_outR (by simp)];exact lq0 kD
  | k + 1,hk,j=>by
    have ih:=lq_tders hw k oM;have hv:=lq_tvals ht hq ha k oM;have h1:=Nat.one_le_two_pow (n:=k);have hs:=(sg_le z k).1
    have e:2^(k+1)*(1+56*(k+1))=2*(2^k*(1+56*k))+112*2^k:=by
      rw[Nat.pow_succ,Nat.mul_add 56 k 1,←Nat.add_assoc,Nat.mul_add (2^k*2)];rw[Nat.mul_comm (2^k) 2,Nat.mul_assoc];omega
    have hD:1≤2^k*(1+56*k):=Nat.mul_le_mul h1 (show 1≤1+56*k by omega);rw[e];refine lq_snoc (fun j=>(ih j).mono oM) ?_ oM j
    unfold sder
    by_cases e:(l.getD k stp0).op=2
    · rw[if_pos e];exact (hw _).mono oM
    · rw[if_neg e]
      obtain ⟨s1,s2⟩:=lq_slopes ht (by omega:k<l.length) (hv (l.getD k stp0).a.toNat) (hv (l.getD k stp0).b.toNat);refine LQ.mono (LQ.add (lq_ite (k:=sg_ z k+2^k*(1+56*k)) (fun _=>s1.mul (ih _)) (fun _=>lq0 oM)) (lq_ite (k:=sg_ z k+2^k*(1+56*k)) (fun _=>s2.mul (ih _)) (fun _=>lq0 oM))) ?_
      omega
end
theorem wt_two {inp:Int}{l:List Stp}(h:∀ k,k<l.length→Formed inp k (l.getD k stp0)):Wt l (fun k=>2^k):=fun k hk=>by
  obtain ⟨f0,⟨f1,_⟩,⟨f2,_⟩,_⟩:=h k hk;have pw:∀ j,j<k→2^j*2≤2^k:=fun j hj=>by rw[←Nat.pow_succ];exact Nat.pow_le_pow_right kD hj
  refine ⟨Nat.one_le_two_pow,fun h1=>?_,fun h1=>?_⟩
  · have:=f1 h1;have:=pw (l.getD k stp0).a.toNat oM;show 2^_≤2^_;omega
  · have:=f1 oM;have:=f2 h1
    have:=pw (l.getD k stp0).a.toNat oM;have:=pw (l.getD k stp0).b.toNat oM;show 2^_+2^_≤2^_;omega
theorem rem_55 (z:Nat):∀ k,3*rem_ (fun k=>2^k) (sg_ z) k+55≤55*4^k
  | 0=>by show 3*0+55≤55*1;omega
  | k+1=>by
    have ih:=rem_55 z k;have h:=Nat.mul_le_mul_right (2^k) (sg_le z k).1;have e:55*2^k*2^k=55*4^k:=by rw[Nat.mul_assoc,←Nat.mul_pow]
    rw[e] at h
    rw[rem_s,Nat.pow_succ]
    omega
theorem rem_10 (z:Nat):∀ k,k≤z→3*rem_ (fun k=>2^k) (sg_ z) k+10≤10*4^k
  | 0,_=>by show 3*0+10≤10*1;omega
  | k+1,hz=>by
    have ih:=rem_10 z k oM;have h:=Nat.mul_le_mul_right (2^k) ((sg_le z k).2 oM);have e:10*2^k*2^k=10*4^k:=by rw[Nat.mul_assoc,←Nat.mul_pow]
    rw[e] at h
    rw[rem_s,Nat.pow_succ]
    omega
theorem dotq_comm (a b:List Rat):∀ n,dotq a b n=dotq b a n
  | 0=>rfl
  | n+1=>by show dotq a b n+_=dotq b a n+_;rw[dotq_comm a b n,Rat.mul_comm]
theorem dotq_rep0 (m:Nat)(b:List Rat):∀ n,dotq (List.replicate m 0) b n=0
  | 0=>rfl
  | n+1=>by show dotq _ b n+_=_;rw[dotq_rep0 m b n,rep_zero];grind
def unitv (n j:Nat):List Rat:=(List.replicate n (0:Rat)).set j ((1:Int):Rat)
theorem dotq_unit {g:List Rat}{n j:Nat}(h:j<n):dotq g (unitv n j) n=g.getD j 0:=by
  rw[dotq_comm];unfold unitv;rw[dotq_set' (x:=((1:Int):Rat)) (by simpa using h) h (by rw[rep_zero];grind),dotq_rep0,show ((1:Int):Rat)=1 from rfl];grind
def tgt (l:List Stp)(os:List Int)(at_ by_ way:List Rat):Rat:=dotq by_ (pickL (tders l at_ way l.length) os) os.length
def gradT (inp:Nat)(l:List Stp)(os:List Int)(at_ by_:List Rat):List Rat:=(List.range inp).map fun j=>tgt l os at_ by_ (unitv inp j)
def backE (inp:Int)(l:List Stp)(os:List Int)(at_ by_:List Rat):Int:=if chkTp inp l os=0 then (if (at_.length:Int)=inp∧by_.length=os.length then terr true l at_ l.length else 5) else 1
def backO (inp:Int)(l:List Stp)(os:List Int)(at_ by_:List Rat):List Rat:=if backE inp l os at_ by_=0 then pickL (tvals l at_ l.length) os else []
def backG (inp:Int)(l:List Stp)(os:List Int)(at_ by_:List Rat):List Rat:=if backE inp l os at_ by_=0 then gradT inp.toNat l os at_ by_ else []
section
variable {inp:Int} {l:List Stp} {os:List Int} {at_ by_:List Rat}
theorem back_n {e:Int}(h:backE inp l os at_ by_=e)(he:e≠0):backE inp l os at_ by_=e∧backO inp l os at_ by_=[]∧backG inp l os at_ by_=[] :=
  ⟨h,if_neg (by rw[h];exact he),if_neg (by rw[h];exact he)⟩
theorem back_1 (h:chkTp inp l os≠0):backE inp l os at_ by_=1∧backO inp l os at_ by_=[]∧backG inp l os at_ by_=[]:=back_n (if_neg h) kD
theorem back_5 (h:chkTp inp l os=0)(h2:¬((at_.length:Int)=inp∧by_.length=os.length)):backE inp l os at_ by_=5∧backO inp l os at_ by_=[]∧backG inp l os at_ by_=[]:=back_n (by unfold backE;rw[if_pos h,if_neg h2]) kD
theorem back_e (h:chkTp inp l os=0)(h2:(at_.length:Int)=inp)(h3:by_.length=os.length)(h4:terr true l at_ l.length≠0):backE inp l os at_ by_=terr true l at_ l.length∧backO inp l os at_ by_=[]∧backG inp l os at_ by_=[]:=back_n (by unfold backE;rw[if_pos h,if_pos ⟨h2,h3⟩]) h4
theorem back_0 (h:chkTp inp l os=0)(h2:(at_.length:Int)=inp)(h3:by_.length=os.length)(h4:terr true l at_ l.length=0):backE inp l os at_ by_=0∧backO inp l os at_ by_=pickL (tvals l at_ l.length) os∧backG inp l os at_ by_=gradT inp.toNat l os at_ by_:=by
  have e:backE inp l os at_ by_=0:=by unfold backE;rw[if_pos h,if_pos ⟨h2,h3⟩,h4]
  exact ⟨e,if_pos e,if_pos e⟩
end
theorem pick_get {vs:List Rat}{os:List Int}{i:Nat}(h:i<os.length):(pickL vs os).getD i 0=vs.getD (os.getD i 0).toNat 0:=by
  unfold pickL;simp[List.getD_eq_getElem?_getD,h]
def Bo (l:List Stp)(os:List Int)(at_ by_:List Rat)(i:Nat)(bar:List Rat):Prop :=
  ∀ way,dotq bar (tders l at_ way l.length) l.length=dotq by_ (pickL (tders l at_ way l.length) os) i
def Bos (wt:Nat→Nat)(n W i:Nat)(bar:List Rat):Prop:=∃ f:Nat→Nat,(∀ j,LQ (f j) (bar.getD j 0))∧pot wt f n≤pot wt (fun _=>1) n+i*(2*W)
section
variable {l:List Stp} {os:List Int} {at_ by_ bar:List Rat} {i:Nat}
theorem Bo.init:Bo l os at_ by_ 0 (List.replicate l.length 0):=fun way=>by rw[dotq_rep0];rfl
theorem Bo.step (B:Bo l os at_ by_ i bar)(hi:i<os.length)(ho:(os.getD i 0).toNat<l.length)(hl:bar.length=l.length):Bo l os at_ by_ (i+1) (bar.set (os.getD i 0).toNat (bar.getD (os.getD i 0).toNat 0+by_.getD i 0)):=fun way=>by
  show _=dotq by_ _ i+_
  rw[dotq_set' oM ho rfl,B way,pick_get hi]
theorem Bos.init (wt:Nat→Nat)(n W:Nat):Bos wt n W 0 (List.replicate n 0):=⟨fun _=>1,fun j=>by rw[rep_zero];exact lq0 (k:=1) (Nat.le_refl 1),Nat.le_add_right _ _⟩
theorem Bos.step {wt:Nat→Nat}{n W o:Nat}{y:Rat}(Z:Bos wt n W i bar)(ho:o<n)(hW:wt o≤W)(hy:LQ 1 y):Bos wt n W (i+1) (bar.set o (bar.getD o 0+y)):=by
  obtain ⟨f,hf,hp⟩:=Z;refine ⟨upd f o 2,lq_upd hf ((hf o).add hy),?_⟩;rw[pot_upd,if_pos ho,Nat.add_mul];omega
theorem Bos.lb {wt:Nat→Nat}{n W C:Nat}(Z:Bos wt n W i bar)(hw:∀ j,j<n→1≤wt j)(hC:pot wt (fun _=>1) n+i*(2*W)≤C):∀ j,j<n→LQ C (bar.getD j 0):=fun j hj=>by
  obtain ⟨f,hf,hp⟩:=Z;have:=pot_le wt f n hw j hj;exact (hf j).mono oM
theorem Bos.bz {wt sg:Nat→Nat}{n W C inp:Nat}(Z:Bos wt n W i bar)(hC:1+pot wt (fun _=>1) n+i*(2*W)+rem_ wt sg n≤C):Bz wt sg C n bar (List.replicate inp 0):=by
  obtain ⟨f,hf,hp⟩:=Z;exact ⟨f,1,hf,fun j=>by rw[rep_zero];exact lq0 oM,by omega⟩
theorem Bo.bk (B:Bo l os at_ by_ os.length bar)(inp:Nat):Bk l at_ inp (tgt l os at_ by_) l.length bar (List.replicate inp 0):=fun way=>by
  rw[B way,dotq_rep0,Rat.add_zero];rfl
theorem Bk.fin {inp:Nat}{g:List Rat}(B:Bk l at_ inp (tgt l os at_ by_) 0 bar g)(hg:g.length=inp):g=gradT inp l os at_ by_∧∀ way,dotq g way inp=tgt l os at_ by_ way:=by
  have h1:∀ way,dotq g way inp=tgt l os at_ by_ way:=fun way=>by
    have:=B way
    change (0:Rat)+_=_ at this
    rw[←this];grind
  refine ⟨list_ext (by unfold gradT;rw[List.length_map,List.length_range,hg]) fun j=>?_,h1⟩
  by_cases hj:j<inp
  · unfold gradT
    rw[←dotq_unit hj,h1];simp[hj]
  · rw[getD_outR oM,getD_outR (by unfold gradT;rw[List.length_map,List.length_range];omega)]
end
theorem slopes_ok {inp:Int}{z:Nat}{l:List Stp}{at_:List Rat}(ht:Tame z l)(hq:∀ i,LQ 1 (l.getD i stp0).q)(ha:∀ j,LQ 1 (at_.getD j 0))(hF:∀ k,k<l.length→Formed inp k (l.getD k stp0))(k:Nat)(hk:k<l.length)(h2:(l.getD k stp0).op≠2) :
    LQ (sg_ z k) (sla (l.getD k stp0).op (l.getD k stp0).n ((tvals l at_ l.length).getD (l.getD k stp0).a.toNat 0) ((tvals l at_ l.length).getD (l.getD k stp0).b.toNat 0))∧LQ (sg_ z k) (slb (l.getD k stp0).op ((tvals l at_ l.length).getD (l.getD k stp0).a.toNat 0) ((tvals l at_ l.length).getD (l.getD k stp0).b.toNat 0)):=by
  obtain ⟨o1,o2,o3,o4⟩:=(hF k hk).opr
  by_cases h0:0<ari (l.getD k stp0).op
  · rw[tvals_get l at_ k l.length oM _ (o1 h0),tvals_get l at_ k l.length oM _ (o3 h0)]
    exact lq_slopes ht hk (lq_tvals ht hq ha k oM _) (lq_tvals ht hq ha k oM _)
  · have e:(l.getD k stp0).op=1:=by have:=ari_cases (l.getD k stp0).op;have:=o4 h2;omega
    have hs:1≤sg_ z k:=by unfold sg_;split<;>omega
    rw[e];exact ⟨lq0 hs,lq0 hs⟩
theorem vb_12 {z k:Nat}(h:k≤12):vb z k≤100000:=Nat.le_trans (vb_le h) (by unfold vb;split<;>decide)
theorem dv_10 {k:Nat}(h:k≤10):2^k*(1+56*k)≤2000000:=Nat.le_trans (Nat.mul_le_mul (Nat.pow_le_pow_right kD h) (show 1+56*k≤561 by omega)) kD
theorem pot_one:∀ n,pot (fun k=>2^k) (fun _=>1) n+1=2^n
  | 0=>rfl
  | n+1=>by
    have:=pot_one n
    show pot _ _ n+1*2^n+1=_
    rw[Nat.pow_succ];omega
theorem hc_10 {z n m:Nat}(hn:n≤10)(hm:m≤3):1+pot (fun k=>2^k) (fun _=>1) n+m*(2*4096)+rem_ (fun k=>2^k) (sg_ z) n≤100000000:=by
  have h1:=pot_one n;have h2:=rem_55 z n;have h3:2^n≤1024:=Nat.pow_le_pow_right kD hn;have h4:4^n≤1048576:=Nat.pow_le_pow_right kD hn
  omega
theorem hc_12 {z n m:Nat}(hn:n≤12)(hz:n≤z)(hm:m≤3):1+pot (fun k=>2^k) (fun _=>1) n+m*(2*4096)+rem_ (fun k=>2^k) (sg_ z) n≤100000000:=by
  have h1:=pot_one n;have h2:=rem_10 z n hz;have h3:2^n≤4096:=Nat.pow_le_pow_right kD hn;have h4:4^n≤16777216:=Nat.pow_le_pow_right kD hn
  omega
theorem w_12 {n:Nat}(hn:n≤12):∀ j,j<n→2^j≤4096:=fun j hj=>Nat.le_trans (Nat.pow_le_pow_right kD (show j≤12 by omega)) kD
theorem take_set_rt {L:List RT}{k:Nat}{x:RT}(h:k<L.length):(L.set k x).take (k+1)=L.take k++[x]:=by
  rw[List.take_add_one,List.take_set_of_le (Nat.le_refl k)]
  simp[h]
theorem RTs.set {h:Hp}{ts:List RT}{qs:List Rat}(r:RTs h ts qs)(i:Nat){t:RT}{q:Rat}(hq:RQ h (rtv t) q):RTs h (ts.set i t) (qs.set i q):=⟨by rw[List.length_set,List.length_set];exact r.len,fun j hj=>by
  rw[List.length_set] at hj
  have hl:=r.len
  by_cases e:j=i
  · subst e
    rw[List.getD_eq_getElem?_getD,List.getElem?_set_self oM,List.getD_eq_getElem?_getD,List.getElem?_set_self oM];exact hq
  · rw[List.getD_eq_getElem?_getD,List.getElem?_set_ne (Ne.symm e),List.getD_eq_getElem?_getD,List.getElem?_set_ne (Ne.symm e),←List.getD_eq_getElem?_getD,←List.getD_eq_getElem?_getD];exact r.at_ j hj⟩
theorem rep0 (n i:Nat):(List.replicate n ((0:Int):Rat)).getD i 0=0:=by
  rw[show ((0:Int):Rat)=0 from rfl,rep_zero]
theorem unit_1 {n i:Nat}:(List.replicate n ((0:Int):Rat)).getD i 0+((1:Int):Rat)=((1:Int):Rat):=by
  rw[rep0];exact Rat.zero_add _
theorem lq_rep0 (n i:Nat):LQ 1 ((List.replicate n ((0:Int):Rat)).getD i 0):=by rw[rep0];exact lq0 oM
theorem rUnit1 (n:Nat)(hn:n≤1000)(i:Nat)(hin:i<n)(L:Option Addr)(cL:Nat)(w:World)(h:Hp)(g:G w h)(hL:Si L [(i:Int)] h):CR 62 #[nV n,.slice L 1 cL] w h (fun v h1=>∃ A c ts,v=.slice A (ts:List RT).length c∧ts.length≤c∧Sr A ts h1∧RTs h1 ts (unitv n i)):=by
 have hs:=((sS g).aS hL);have hlL:[(i:Int)].length=1:=rfl;refine go Tryz.func62 [(0,nV n),(1,qS L 1 cL)] rfl (cSL (lL hs [.v 4 (sZ)] (lNS (lL hs [.m 8 0] (lK 9 97 n 3 56 (.agg #[qF,sZ,sZ]) rqc ((false,sZ,sZ):RT) hs (fun b1 w2 h3 hs=>?_))))));have hl4:(List.replicate n ((false,sZ,sZ):RT)).length=n:=by simp
 refine lL hs [.m 5 9] (lN (cQ (cSL (lL hs [.v 6 (iV 0)] (lN (kZ ?_))))));replace hs:=hs.aT (RTs.nil);refine cTo _ (CG.loop (fun μ_ Γ w_=>∃ (k:Nat) (al:List RT) (h_:Hp),μ_=n-k∧Γ=[(0,nV n),(1,qS L 1 cL),(4,sZ),(5,qS (sB b1) n n),(6,nV k)]∧SS w h w_ h_ [⟨b1,97,(al).flatMap rqc⟩] [] [Rt (al.take k) (List.replicate k ((0:Int):Rat)),Si L [(i:Int)]]∧k≤n∧al.length=n) _ ⟨0,List.replicate n ((false,sZ,sZ):RT),h3,rfl,rfl,hs.to _ _,Nat.zero_le _,(by simp)⟩ ?_);rintro _ _ w5 ⟨k,al,h6,hm7,rfl,hs,hk,hal⟩;refine cQ (cSL (lL hs [.m 10 6,.m 11 0] ?_));cases hb8:(decide ((k:Int)<(n:Int)))
 ·
  have phb8:=oF hb8;refine lB 12 hb8 (lN (cIF (CG.exit ?_)))
  show CG _ _ _ _ _ _ _ _
  refine cQ (cSL (lL hs [.v 7 (iV 0)] (lN (kZ (cU ?_)))));refine cN (cQ (cSL (lL hs [.m 19 7,.m 20 1,.v 21 (iV 1),.v 22 qT] (lN (cIT (cK (cQ (kZ (cR 14 [] mixed hs al_nil ?_)))))))));refine eV 0 25 (qS (sB b1) n n) (eV 1 26 (qS L 1 cL) (eV 2 27 (iV 0) (eX 3 28 L 1 cL 1 0 0 ((hs.f.2.1).ok oM) (eH 4 29 (nV i) hs ((hs.f.2.1).el 0 oM) (eV 5 30 (qS (sB b1) n n) (eV 6 31 (qS L 1 cL) (eV 7 32 (iV 0) (eX 8 33 L 1 cL 1 0 0 ((hs.f.2.1).ok oM) (eH 9 34 (nV i) hs ((hs.f.2.1).el 0 oM) (eX 10 35 (sB b1) n n 3 (i:Nat) i rfl ?_))))))))));have hkn_:k=n:=by omega
  obtain ⟨Au,cu,Du,du,eu,hcu,hdu,hAu,hDu⟩:=(show RTs _ al (List.replicate n ((0:Int):Rat)) from by have q_:=(hs.f.1);rw[hkn_,List.take_of_length_le oM] at q_;exact q_).at_ i (by rw[List.length_replicate];omega);replace hs:=hs.aP hAu hDu;refine eQe 11 36 0 al rqc 3 rqd i (rA (al.getD i rqd)) (rG ((List.replicate n ((0:Int):Rat)).getD i 0) Au cu Du du) hs oM eu (eC 12 37 hs (fun _ _ hs=>rOf 1 oM oM _ _ hs.g) ?_);rintro _ _ _ _ _ hs ⟨A9,zj,zk,zl,rfl,zm,zn,zo,zp⟩;replace hs:=hs.aP zo zp;have hq19:=LQ.add (lq_rep0 n i) (LQ.lit (z:=1) kD);refine eC 13 38 hs (fun _ _ hs=>rAdd ((List.replicate n ((0:Int):Rat)).getD i 0) Au cu Du du hcu hdu (nl (lq_rep0 n i)) (nD (lq_rep0 n i)) ((1:Int):Rat) A9 zj zk zl zm zn (nl (LQ.lit (z:=1) kD)) (nD (LQ.lit (z:=1) kD)) _ _ hs.g hs.f.r.2.1 hs.f.r.1 hs.f.2.1 hs.f.1) ?_;rintro _ _ _ _ _ hs ⟨za,zb,zc,zd,rfl,zq,zr,zs,zt⟩;replace hs:=hs.aP zs zt;refine eD0 hs (fun _ _ hs=>tX 14 39 (sB b1) n n 3 (i:Nat) i rfl (tW 15 0 al rqc 3 i ((ineg (((List.replicate n ((0:Int):Rat)).getD i 0)+((1:Int):Rat)).num,qS za ((lim (iabs (((List.replicate n ((0:Int):Rat)).getD i 0)+((1:Int):Rat)).num)).length) zb,qS zc ((lim (((List.replicate n ((0:Int):Rat)).getD i 0)+((1:Int):Rat)).den).length) zd):RT) hs oM (fun _ hs=>?_)));have zu:((al).set i ((ineg (((List.replicate n ((0:Int):Rat)).getD i 0)+((1:Int):Rat)).num,qS za ((lim (iabs (((List.replicate n ((0:Int):Rat)).getD i 0)+((1:Int):Rat)).num)).length) zb,qS zc ((lim (((List.replicate n ((0:Int):Rat)).getD i 0)+((1:Int):Rat)).den).length) zd):RT)).length=n:=by rw[List.length_set];exact hal
  replace hs:=hs.to [⟨b1,97,((al).set i ((ineg (((List.replicate n ((0:Int):Rat)).getD i 0)+((1:Int):Rat)).num,qS za ((lim (iabs (((List.replicate n ((0:Int):Rat)).getD i 0)+((1:Int):Rat)).num)).length) zb,qS zc ((lim (((List.replicate n ((0:Int):Rat)).getD i 0)+((1:Int):Rat)).den).length) zd):RT)).flatMap rqc⟩] [];refine tN (kQ (lL hs [.m 23 7,.v 24 (iV 1),.m 7 24] (lD (CL.to [(1,qS L 1 cL),(4,sZ),(5,qS (sB b1) n n),(7,iV 1),(19,iV 0),(20,qS L 1 cL),(21,iV 1),(22,qT),(25,qS (sB b1) n n),(26,qS L 1 cL),(27,iV 0),(28,.pointer (some ⟨(aB L),aO L+0*1,none⟩)),(29,nV i),(30,qS (sB b1) n n),(31,qS L 1 cL),(32,iV 0),(33,.pointer (some ⟨(aB L),aO L+0*1,none⟩)),(34,nV i),(35,qP b1 (0+i*3)),(36,rG ((List.replicate n ((0:Int):Rat)).getD i 0) Au cu Du du),(37,rG ((1:Int):Rat) A9 zj zk zl),(38,rG (((List.replicate n ((0:Int):Rat)).getD i 0)+((1:Int):Rat)) za zb zc zd),(39,qP b1 (0+i*3)),(23,iV 0),(24,iV 1)] ?_))));replace hs:=hs.to [⟨b1,97,((al).set i ((ineg (((List.replicate n ((0:Int):Rat)).getD i 0)+((1:Int):Rat)).num,qS za ((lim (iabs (((List.replicate n ((0:Int):Rat)).getD i 0)+((1:Int):Rat)).num)).length) zb,qS zc ((lim (((List.replicate n ((0:Int):Rat)).getD i 0)+((1:Int):Rat)).den).length) zd):RT)).flatMap rqc⟩] [];refine cN (cQ (cSL (lL hs [.m 19 7,.m 20 1,.v 21 (iV 1),.v 22 qF] (lN (cIF (CG.exit ?_))))))
  show CG _ _ _ _ _ _ _ _
  refine cSL (lL hs [.m 40 5,.m 4 40] (lN (kX ?_)));have hkn:k=n:=by omega
  obtain ⟨_,hs,sg35,lo36,bc37⟩:=hs.pub 0;replace hs:=(hs.to [] []).aS (SlO.of_flat (sz:=3) (f:=rqc) (d:=rqd) (b:=b1) (o:=0) (l:=(al).set i ((ineg (((List.replicate n ((0:Int):Rat)).getD i 0)+((1:Int):Rat)).num,qS za ((lim (iabs (((List.replicate n ((0:Int):Rat)).getD i 0)+((1:Int):Rat)).num)).length) zb,qS zc ((lim (((List.replicate n ((0:Int):Rat)).getD i 0)+((1:Int):Rat)).den).length) zd):RT)) (fun _=>rfl) sg35);exact hs.ret [] (qS (sB b1) n n) (⟨_,_,(al).set i ((ineg (((List.replicate n ((0:Int):Rat)).getD i 0)+((1:Int):Rat)).num,qS za ((lim (iabs (((List.replicate n ((0:Int):Rat)).getD i 0)+((1:Int):Rat)).num)).length) zb,qS zc ((lim (((List.replicate n ((0:Int):Rat)).getD i 0)+((1:Int):Rat)).den).length) zd):RT),by rw[zu],by omega,hs.f.1,(by have q_:=(hs.f.q.r.2.1);rw[hkn,List.take_of_length_le oM] at q_;exact q_.set i (RQ.eq (rqOk zq zr hs.f.r.1 hs.f.2.1) unit_1))⟩)
 have phb8:=oT hb8;refine lB 12 hb8 (lN (cIT (cK (cQ (kZ (kQ (lL hs [.m 15 5,.m 16 6] (lC 17 hs (rOf 0 oM oM _ _ hs.g) ?_))))))));rintro _ _ zD hs ⟨ze,zf,zg,zi,rfl,zv,zw,zx,zA⟩;replace hs:=hs.aP zx zA;refine lX 18 (sB b1) n n 3 (k:Nat) k rfl (lW 0 al rqc 3 k ((ineg ((0:Int):Rat).num,qS ze ((lim (iabs ((0:Int):Rat).num)).length) zf,qS zg ((lim ((0:Int):Rat).den).length) zi):RT) hs oM (fun _ hs=>?_));have zB:((al).set k ((ineg ((0:Int):Rat).num,qS ze ((lim (iabs ((0:Int):Rat).num)).length) zf,qS zg ((lim ((0:Int):Rat).den).length) zi):RT)).length=n:=by rw[List.length_set];exact hal
 replace hs:=hs.to [⟨b1,97,((al).set k ((ineg ((0:Int):Rat).num,qS ze ((lim (iabs ((0:Int):Rat).num)).length) zf,qS zg ((lim ((0:Int):Rat).den).length) zi):RT)).flatMap rqc⟩] [];refine lN (kQ (lL hs [.m 13 6] (lIn 14 ((k:Nat)+1) (k+1) ?_)));refine lL hs [.m 6 14] (lD ?_);intro a_ ka;replace hs:=(hs.tl.tl.tl.add (K:=Rt (((al).set k ((ineg ((0:Int):Rat).num,qS ze ((lim (iabs ((0:Int):Rat).num)).length) zf,qS zg ((lim ((0:Int):Rat).den).length) zi):RT)).take (k+1)) (List.replicate (k+1) ((0:Int):Rat))) (by rw[take_set_rt oM,List.replicate_succ'];exact (hs.f.r.1).snoc (rqOk zv zw hs.f.2.1 hs.f.1)));refine ⟨_,_,?_,⟨k+1,(al).set k ((ineg ((0:Int):Rat).num,qS ze ((lim (iabs ((0:Int):Rat).num)).length) zf,qS zg ((lim ((0:Int):Rat).den).length) zi):RT),zD,rfl,rfl,hs.to _ _,oM,zB⟩,ka.to _ kR⟩
 omega
section
variable {inp:Int} {l:List Stp} {os:List Int} {at_ way by_:List Rat}
theorem turn_e (h1:(at_.length:Int)=inp)(h2:by_.length=os.length)(h3:(way.length:Int)=inp):forE inp l os at_ way=backE inp l os at_ by_:=by
  unfold forE backE
  rw[if_pos (⟨h1,h3⟩:_∧_),if_pos (⟨h1,h2⟩:_∧_)]
theorem turn_o (h1:(at_.length:Int)=inp)(h2:by_.length=os.length)(h3:(way.length:Int)=inp):forL inp l os at_ way (tvals l at_ l.length)=backO inp l os at_ by_:=by
  unfold forL backO;rw[turn_e h1 h2 h3]
theorem turn_d (h1:(at_.length:Int)=inp)(h2:by_.length=os.length)(h3:(way.length:Int)=inp)(h:backE inp l os at_ by_=0)(vs:List Rat):forL inp l os at_ way vs=pickL vs os:=by
  unfold forL;rw[turn_e h1 h2 h3,if_pos h]
theorem back_ok (h:backE inp l os at_ by_=0):chkTp inp l os=0∧terr true l at_ l.length=0:=by
  unfold backE at h
  split at h
  · rename_i hc
    split at h
    · exact ⟨hc,h⟩
    · exact absurd h kD
  · exact absurd h kD
end
theorem lq_unitv (n i:Nat):∀ j,LQ 1 ((unitv n i).getD j 0):=by
  unfold unitv
  exact lq_set (fun j=>by rw[rep_zero];exact lq0 oM) (LQ.lit (z:=1) kD)
theorem unitv_len (n i:Nat):(unitv n i).length=n:=by unfold unitv;rw[List.length_set,List.length_replicate]
theorem lq_pick {v:List Rat}{os:List Int}{K:Nat}(hK:1≤K)(h:∀ j,LQ K (v.getD j 0))(j:Nat):LQ K ((pickL v os).getD j 0):=by
  by_cases e:j<os.length
  · rw[pick_get e];exact h _
  · rw[getD_outR (by unfold pickL;rw[List.length_map];omega)];exact lq0 hK
theorem pick_len (v:List Rat)(os:List Int):(pickL v os).length=os.length:=List.length_map _
theorem lq_gradT {inp K:Nat}{l:List Stp}{os:List Int}{at_ by_:List Rat}(hK:1≤K)(ho:os.length≤3)(hb:∀ j,LQ 1 (by_.getD j 0))(hd:∀ i j,LQ K ((tders l at_ (unitv inp i) l.length).getD j 0))(j:Nat):LQ (3*K+7) ((gradT inp l os at_ by_).getD j 0):=by
  unfold gradT
  by_cases hj:j<inp
  · have e:((List.range inp).map fun j=>tgt l os at_ by_ (unitv inp j)).getD j 0=tgt l os at_ by_ (unitv inp j):=by simp[hj]
    rw[e];unfold tgt;refine (LQ.dot (n:=os.length) (fun i _=>hb i) (fun i _=>lq_pick hK (hd j) i) _ (Nat.le_refl _)).mono ?_;have:=Nat.mul_le_mul_right (1+K+1) ho
    omega
  · rw[getD_outR (by rw[List.length_map,List.length_range];omega)];exact lq0 oM
theorem rBackTapeN (n_:Nat)(A:Option Addr)(c:Nat)(ts:List RSt)(ss:List OSt)(O:Option Addr)(d:Nat)(os:List Int)(at_:List Rat)(tAt:List RT)(X:Option Addr)(cX:Nat)(by_:List Rat)(tBy:List RT)(Y:Option Addr)(cY:Nat)(hl:ss.length≤65536)(ho:os.length≤3)(hat2:at_.length≤1000000)(hby:∀ i,LQ 1 (by_.getD i 0))(hB:chkTp (n_:Int) (ss.map OSt.stp) os=0→(at_.length:Int)=(n_:Int)→∀ k,k≤(ss.map OSt.stp).length→terr true (ss.map OSt.stp) at_ k=0→∀ j,LQ 100000 ((tvals (ss.map OSt.stp) at_ k).getD j 0))(hBd:chkTp (n_:Int) (ss.map OSt.stp) os=0→(at_.length:Int)=(n_:Int)→∀ way:List Rat,(∀ j,LQ 1 (way.getD j 0))→∀ k,k≤(ss.map OSt.stp).length→terr true (ss.map OSt.stp) at_ k=0→∀ j,LQ 2000000 ((tders (ss.map OSt.stp) at_ way k).getD j 0))(w:World)(h:Hp)(g:G w h)(hA:SlO 7 rsc rst0 h A ts)(hT:RSs h ts ss)(hO:Si O os h)(hX:Sr X tAt h)(hTat:RTs h tAt at_)(hY:Sr Y tBy h)(hTby:RTs h tBy by_):CR 20 #[.agg #[nV n_,.slice A ts.length c,.slice O os.length d],.slice X tAt.length cX,.slice Y tBy.length cY] w h (fun v h1=>∃ A c ts B d us,v=.tuple #[.slice A (ts:List RT).length c,.slice B (us:List RT).length d,iV (backE (n_:Int) (ss.map OSt.stp) os at_ by_)]∧ts.length≤c∧us.length≤d∧Sr A ts h1∧Sr B us h1∧RTs h1 ts (backO (n_:Int) (ss.map OSt.stp) os at_ by_)∧RTs h1 us (backG (n_:Int) (ss.map OSt.stp) os at_ by_)):=by
 have hs:=((((((((sS g).aS hA).add (K:=fun h_=>RSs h_ ts ss) hT).aS hO).aS hX).aT hTat).aS hY).aT hTby);have hlt:=(hs.f.q.2.1).len;have hla:=(hs.f.r.1).len;have hlb:=(hs.f.1).len;have hll:(ss.map OSt.stp).length=ss.length:=List.length_map _;refine go Tryz.func20 [(0,.agg #[nV n_,qS A ts.length c,qS O os.length d]),(1,qS X tAt.length cX),(2,qS Y tBy.length cY)] rfl (cSL (lA 3 25 ([nV n_,qS A ts.length c,qS O os.length d]) hs (fun b1 w2 h3 hs=>lL hs [.v 6 (sZ),.v 7 (sZ),.v 8 (iV 0)] (lN (cQ (cSL (lL hs [.o 17 (.agg #[nV n_,qS A ts.length c,qS O os.length d]) 0 0 3] (lC 18 hs (rCheckTape (n_:Int) A c ts ss O d os oM oM _ _ hs.g hs.f.q.r.1 hs.f.q.2.1 hs.f.q.1) ?_))))))));rintro _ w4 h5 hs rfl;cases hb6:((chkTp (n_:Int) (ss.map OSt.stp) os:Int) != (0:Int))
 ·
  have phb6:=eqOfBne hb6;refine lB 19 hb6 (lN (cIF (cK (cQ (cSL (lL hs [.m 20 1,.v 21 (nV tAt.length),.v 22 (pB b1),.o 23 (nV n_) 0 0 1] ?_))))));cases hb7:((tAt.length:Int) != (n_:Int))
  ·
   have phb7:=eqOfBne hb7;refine lB 24 hb7 (lL hs [.m 25 24,.m 26 2,.v 27 (nV tBy.length),.v 28 (qP b1 2),.o 29 (qS O os.length d) 0 2 1,.v 30 (nV os.length)] ?_);cases hb8:((tBy.length:Int) != (os.length:Int))
   ·
    have phb8:=eqOfBne hb8;refine lB 31 hb8 (lL hs [.v 32 qF] (lN (cIF (cK (cQ (cR 10 [] mixed hs al_nil ?_))))));refine eO 0 34 [(0,0,3)] (.agg #[nV n_,qS A ts.length c,qS O os.length d]) hs (eV 1 35 (qS X tAt.length cX) (eV 2 36 (pB b1) (eO 3 37 [(0,0,1)] (nV n_) hs ?_)));have hck:chkTp (n_:Int) (ss.map OSt.stp) os=0:=by omega
    have hn1:=(chk_formed hck).2.2.2.1;have hrn:(List.replicate n_ (0:Rat)).length=n_:=List.length_replicate;refine eC 4 38 hs (fun _ _ hs=>rUnit0 n_ oM _ _ hs.g) ?_;rintro _ _ _ w9 _ hs ⟨Du,cu,tu,rfl,hcu,hDu,hTu⟩;replace hs:=((hs.aS hDu).aT hTu);refine eC 5 39 hs (fun _ _ hs=>(by have q_:=rForthTape (n_:Int) A c ts ss O d os at_ tAt X cX (List.replicate n_ (0:Rat)) tu Du cu oM oM oM oM hB (fun h1 h2 _=>hBd h1 h2 (List.replicate n_ (0:Rat)) (fun j=>by rw[rep_zero];exact lq0 oM)) _ _ hs.g hs.f.q.q.1 hs.f.q.r.2.1 hs.f.q.r.1 hs.f.q.2.1 hs.f.q.1 hs.f.2.1 (hs.f.1);rw[turn_e (by_:=by_) oM oM (by rw[List.length_replicate]),turn_o (by_:=by_) oM oM (by rw[List.length_replicate])] at q_;exact q_)) ?_;rintro _ _ _ _ _ hs ⟨Af0,cf0,tf0,Ad0,cd0,td0,rfl,hcf0,hcd0,hAf0,hAd0,hTf0,hTd0⟩;replace hs:=((((hs.aS hAf0).aS hAd0).aT hTf0).aT hTd0);have hlf0:=(hs.f.2.1).len;have hld0:=(hs.f.1).len;refine eV 6 33 (.tuple #[qS Af0 tf0.length cf0,qS Ad0 td0.length cd0,iV (backE (n_:Int) (ss.map OSt.stp) os at_ by_)]) (eV 7 40 (qS Af0 tf0.length cf0) (eV 8 41 (qS Ad0 td0.length cd0) (eV 9 42 (iV (backE (n_:Int) (ss.map OSt.stp) os at_ by_)) (eD0 hs (fun _ zp hs=>tV 10 9 (qS Af0 tf0.length cf0) (tV 11 10 (qS Ad0 td0.length cd0) (tV 12 11 (iV (backE (n_:Int) (ss.map OSt.stp) os at_ by_)) (tN (cQ (cSL (lL hs [.m 43 11] ?_)))))))))));cases za:((backE (n_:Int) (ss.map OSt.stp) os at_ by_:Int) != (0:Int))
    ·
     have zg:=eqOfBne za;refine lB 44 za (lN (cIF (cK (cSL (lL hs [.v 12 (sZ)] (lN (cQ (cSL (lL hs [.v 13 (iV 0)] (lN (kZ ?_)))))))))));replace hs:=hs.nil 97 3;refine cTo [(1,qS X tAt.length cX),(2,qS Y tBy.length cY),(3,pB b1),(6,sZ),(7,sZ),(8,iV 0),(9,qS Af0 tf0.length cf0),(13,iV 0),(12,sZ)] ?_;have hbe:backE (n_:Int) (ss.map OSt.stp) os at_ by_=0:=by omega
     have hte:=(back_ok hbe).2;replace hs:=hs.aT (RTs.nil);refine CG.loop (fun μ_ Γ w_=>∃ (i:Nat) (sgA:Option Addr) (sgc:Nat) (tg:List RT) (h_:Hp),μ_=n_-i∧Γ=[(1,qS X tAt.length cX),(2,qS Y tBy.length cY),(3,pB b1),(6,sZ),(7,sZ),(8,iV 0),(9,qS Af0 tf0.length cf0),(13,nV i),(12,qS sgA ((tg).length) sgc)]∧SS w h w_ h_ [⟨b1,25,[nV n_,qS A ts.length c,qS O os.length d]⟩] [⟨97,3,sgA,sgc,(tg).length,(tg).flatMap rqc⟩] [Rt tg ((List.range i).map fun j=>tgt (ss.map OSt.stp) os at_ by_ (unitv n_ j)),Rt td0 (forL (n_:Int) (ss.map OSt.stp) os at_ (List.replicate n_ (0:Rat)) (tders (ss.map OSt.stp) at_ (List.replicate n_ (0:Rat)) (ss.map OSt.stp).length)),Rt tf0 (backO (n_:Int) (ss.map OSt.stp) os at_ by_),Sr Ad0 td0,Sr Af0 tf0,Rt tu (List.replicate n_ 0),Sr Du tu,Rt tBy by_,Sr Y tBy,Rt tAt at_,Sr X tAt,Si O os,fun h_=>RSs h_ ts ss,fun h_=>SlO 7 rsc rst0 h_ A ts]∧i≤n_) _ ⟨0,none,0,[],zp,rfl,rfl,hs.to _ _,Nat.zero_le _⟩ ?_;rintro _ _ _ ⟨i,sgA,sgc,tg,_,hm18,rfl,hs,hi_⟩;have hlg:=(hs.f.1).len;rw[List.length_map,List.length_range] at hlg
     refine cQ (cSL (lL hs [.m 46 13,.v 47 (pB b1),.o 48 (nV n_) 0 0 1] ?_));cases zb:(decide ((i:Int)<(n_:Int)))
     ·
      have zi:=oF zb;refine lB 49 zb (lN (cIF (CG.exit ?_)))
      show CG _ _ _ _ _ _ _ _
      refine cSL ?_;obtain ⟨_,hs,zk⟩:=hs.pubr 0 (A:=sgA) (c:=sgc) (l:=tg) (f:=rqc) (ty:=97) (sz:=3) rqd (fun _=>rfl);refine lL hs [.m 70 9,.m 71 12,.m 6 70,.m 7 71,.v 8 (iV 0)] (lN (kX ?_));have hin_:i=n_:=by omega
      exact hs.ret [] (.tuple #[qS Af0 tf0.length cf0,qS sgA ((tg).length) sgc,iV 0]) (by obtain ⟨e1,e2,e3⟩:=back_0 (inp:=(n_:Int)) (l:=(ss.map OSt.stp)) (os:=os) (at_:=at_) (by_:=by_) hck oM oM hte;rw[e1,e3];exact ⟨_,_,_,_,_,_,rfl,hcf0,zk,hs.f.q.2.1,hs.f.1,hs.f.r.2.1,(by have q_:=(hs.f.2.1);rw[hin_] at q_;exact q_)⟩)
     have zi:=oT zb;refine lB 49 zb (lN (cIT (cK (cQ (kZ (cQ (cR 12 [] mixed hs al_nil ?_)))))));refine eO 0 53 [(0,0,3)] (.agg #[nV n_,qS A ts.length c,qS O os.length d]) hs (eV 1 54 (qS X tAt.length cX) (eV 2 55 (pB b1) (eO 3 56 [(0,0,1)] (nV n_) hs (eV 4 57 (nV i) (eR 5 58 3 1 ([nV i]) hs (fun zj _ _ hs=>?_))))));replace hs:=hs.aS (SlO.of_flat (sz:=1) (f:=i64c) (d:=0) (b:=zj) (o:=0) (l:=[(i:Int)]) (fun _=>rfl) hs.f.1);refine eC 6 59 hs (fun _ _ hs=>rUnit1 n_ oM i oM (sB zj) 1 _ _ hs.g hs.f.1) ?_;rintro _ _ _ _ _ hs ⟨Dv,cv,tv,rfl,hcv,hDv,hTv⟩;replace hs:=((hs.aS hDv).aT hTv);have hun:=unitv_len n_ i;refine eC 7 60 hs (fun _ _ hs=>(by have q_:=rForthTape (n_:Int) A c ts ss O d os at_ tAt X cX (unitv n_ i) tv Dv cv oM oM oM oM hB (fun h1 h2 _=>hBd h1 h2 (unitv n_ i) (lq_unitv n_ i)) _ _ hs.g hs.f.q.q.q.q.2.1 hs.f.q.q.q.q.1 hs.f.q.q.q.r.2.1 hs.f.q.q.q.r.1 hs.f.q.q.q.2.1 hs.f.2.1 (hs.f.1);rw[turn_e (by_:=by_) oM oM (by rw[unitv_len]),turn_o (by_:=by_) oM oM (by rw[unitv_len])] at q_;exact q_)) ?_;rintro _ _ _ _ _ hs ⟨Af1,cf1,tf1,Ad1,cd1,td1,rfl,hcf1,hcd1,hAf1,hAd1,hTf1,hTd1⟩;replace hs:=((((hs.aS hAf1).aS hAd1).aT hTf1).aT hTd1);have hlf1:=(hs.f.2.1).len;have hld1:=(hs.f.1).len;refine eV 8 52 (.tuple #[qS Af1 tf1.length cf1,qS Ad1 td1.length cd1,iV (backE (n_:Int) (ss.map OSt.stp) os at_ by_)]) (eV 9 61 (qS Af1 tf1.length cf1) (eV 10 62 (qS Ad1 td1.length cd1) (eV 11 63 (iV (backE (n_:Int) (ss.map OSt.stp) os at_ by_)) (eD0 hs (fun _ _ hs=>tV 12 14 (qS Af1 tf1.length cf1) (tV 13 15 (qS Ad1 td1.length cd1) (tV 14 16 (iV (backE (n_:Int) (ss.map OSt.stp) os at_ by_)) (tN (kQ (lL hs [.m 64 12,.m 65 2,.m 66 15] (lC 67 hs ((by have q_:=rDot Y cY by_ tBy Ad1 cd1 (pickL (tders (ss.map OSt.stp) at_ (unitv n_ i) (ss.map OSt.stp).length) os) td1 1 2000000 (by rw[pick_len];omega) oM oM (fun i _=>hby i) (fun j _=>lq_pick oM (fun j=>hBd hck oM (unitv n_ i) (lq_unitv n_ i) (ss.map OSt.stp).length (nR _) hte j) j) _ _ hs.g hs.f.q.q.q.q.1 hs.f.q.q.q.r.2.1 hs.f.r.1 (by rw[←turn_d (way:=unitv n_ i) (by_:=by_) oM oM (by rw[unitv_len]) hbe];exact hs.f.1);rw[show by_.length=os.length by omega] at q_;exact q_)) ?_)))))))))));rintro _ _ _ hs ⟨zc,zd,ze,zf,rfl,zl,zm,zn,zo⟩;replace hs:=hs.aP zn zo;refine lR 68 97 1 (rqx (tgt (ss.map OSt.stp) os at_ by_ (unitv n_ i)) zc zd ze zf) hs (fun zq _ _ hs=>lY 69 0 97 3 sgc sgA tg rqc ((ineg (tgt (ss.map OSt.stp) os at_ by_ (unitv n_ i)).num,qS zc ((lim (iabs (tgt (ss.map OSt.stp) os at_ by_ (unitv n_ i)).num)).length) zd,qS ze ((lim (tgt (ss.map OSt.stp) os at_ by_ (unitv n_ i)).den).length) zf):RT) 56 zq (.agg #[qF,sZ,sZ]) hs hs.f.1 (fun zr zs _ zt hs=>lL hs [.m 12 69] (lN (kQ (lL hs [.m 50 13] (lIn 51 ((i:Nat)+1) (i+1) ?_))))));refine lL hs [.m 13 51] (lD ?_);intro a_ ka;replace hs:=(hs.tl.tl.tl.tl.tl.tl.tl.tl.tl.tl.tl.tl.add (K:=Rt (tg++[((ineg (tgt (ss.map OSt.stp) os at_ by_ (unitv n_ i)).num,qS zc ((lim (iabs (tgt (ss.map OSt.stp) os at_ by_ (unitv n_ i)).num)).length) zd,qS ze ((lim (tgt (ss.map OSt.stp) os at_ by_ (unitv n_ i)).den).length) zf):RT)]) ((List.range (i+1)).map fun j=>tgt (ss.map OSt.stp) os at_ by_ (unitv n_ j))) (by rw[List.range_succ,List.map_append];exact (hs.f.q.q.r.2.1).snoc (rqOk zl zm hs.f.r.1 hs.f.2.1)));refine ⟨_,_,?_,⟨i+1,zr,zs,tg++[((ineg (tgt (ss.map OSt.stp) os at_ by_ (unitv n_ i)).num,qS zc ((lim (iabs (tgt (ss.map OSt.stp) os at_ by_ (unitv n_ i)).num)).length) zd,qS ze ((lim (tgt (ss.map OSt.stp) os at_ by_ (unitv n_ i)).den).length) zf):RT)],zt,rfl,rfl,hs.to _ _,oM⟩,ka.to _ kR⟩
     omega
    have zg:=neOfBne za;exact lB 44 za (lN (cIT (cSL (lL hs [.m 45 11,.v 6 (sZ),.v 7 (sZ),.m 8 45] (lN (kX (hs.ret [] (.tuple #[sZ,sZ,iV (backE (n_:Int) (ss.map OSt.stp) os at_ by_)]) (by obtain ⟨e1,e2,e3⟩:=back_n (inp:=(n_:Int)) (l:=(ss.map OSt.stp)) (os:=os) (at_:=at_) (by_:=by_) rfl oM;rw[e2,e3];exact ⟨none,0,[],none,0,[],rfl,nR _,nR _,SlO.nil,SlO.nil,RTs.nil,RTs.nil⟩))))))))
   have phb8:=neOfBne hb8;exact lB 31 hb8 (lL hs [.v 32 qT] (lN (cIT (cSL (lL hs [.v 6 (sZ),.v 7 (sZ),.v 8 (iV 5)] (lN (kX (hs.ret [] (.tuple #[sZ,sZ,iV 5]) (by obtain ⟨e1,e2,e3⟩:=back_5 (inp:=(n_:Int)) (l:=(ss.map OSt.stp)) (os:=os) (at_:=at_) (by_:=by_) oM oM;rw[e2,e3,e1];exact ⟨none,0,[],none,0,[],rfl,nR _,nR _,SlO.nil,SlO.nil,RTs.nil,RTs.nil⟩)))))))))
  have phb7:=neOfBne hb7;refine lB 24 hb7 (lL hs [.m 25 24] (lG 26 ?_));exact lG 27 (lG 28 (lG 29 (lG 30 (lG 31 (lL hs [.v 32 qT] (lN (cIT (cSL (lL hs [.v 6 (sZ),.v 7 (sZ),.v 8 (iV 5)] (lN (kX (hs.ret [] (.tuple #[sZ,sZ,iV 5]) (by obtain ⟨e1,e2,e3⟩:=back_5 (inp:=(n_:Int)) (l:=(ss.map OSt.stp)) (os:=os) (at_:=at_) (by_:=by_) oM oM;rw[e2,e3,e1];exact ⟨none,0,[],none,0,[],rfl,nR _,nR _,SlO.nil,SlO.nil,RTs.nil,RTs.nil⟩)))))))))))))
 have phb6:=neOfBne hb6;exact lB 19 hb6 (lN (cIT (cSL (lL hs [.v 6 (sZ),.v 7 (sZ),.v 8 (iV 1)] (lN (kX (hs.ret [] (.tuple #[sZ,sZ,iV 1]) (by obtain ⟨e1,e2,e3⟩:=back_1 (inp:=(n_:Int)) (l:=(ss.map OSt.stp)) (os:=os) (at_:=at_) (by_:=by_) oM;rw[e2,e3,e1];exact ⟨none,0,[],none,0,[],rfl,nR _,nR _,SlO.nil,SlO.nil,RTs.nil,RTs.nil⟩))))))))
theorem rBackTapeM (inp:Int)(A:Option Addr)(c:Nat)(ts:List RSt)(ss:List OSt)(O:Option Addr)(d:Nat)(os:List Int)(at_:List Rat)(tAt:List RT)(X:Option Addr)(cX:Nat)(by_:List Rat)(tBy:List RT)(Y:Option Addr)(cY:Nat)(hl:ss.length≤65536)(ho:os.length≤3)(hneg:inp<0)(w:World)(h:Hp)(g:G w h)(hA:SlO 7 rsc rst0 h A ts)(hT:RSs h ts ss)(hO:Si O os h)(hX:Sr X tAt h)(hTat:RTs h tAt at_)(hY:Sr Y tBy h)(hTby:RTs h tBy by_):CR 20 #[.agg #[iV inp,.slice A ts.length c,.slice O os.length d],.slice X tAt.length cX,.slice Y tBy.length cY] w h (fun v h1=>∃ A c ts B d us,v=.tuple #[.slice A (ts:List RT).length c,.slice B (us:List RT).length d,iV (backE inp (ss.map OSt.stp) os at_ by_)]∧ts.length≤c∧us.length≤d∧Sr A ts h1∧Sr B us h1∧RTs h1 ts (backO inp (ss.map OSt.stp) os at_ by_)∧RTs h1 us (backG inp (ss.map OSt.stp) os at_ by_)):=by
 have hs:=((((((((sS g).aS hA).add (K:=fun h_=>RSs h_ ts ss) hT).aS hO).aS hX).aT hTat).aS hY).aT hTby);have hlt:=(hs.f.q.2.1).len;have hla:=(hs.f.r.1).len;have hlb:=(hs.f.1).len;have hll:(ss.map OSt.stp).length=ss.length:=List.length_map _;have hck:chkTp inp (ss.map OSt.stp) os≠0:=by rw[chkTp_shape oM];decide
 refine go Tryz.func20 [(0,.agg #[iV inp,qS A ts.length c,qS O os.length d]),(1,qS X tAt.length cX),(2,qS Y tBy.length cY)] rfl (cSL (lA 3 25 ([iV inp,qS A ts.length c,qS O os.length d]) hs (fun b1 w2 h3 hs=>lL hs [.v 6 (sZ),.v 7 (sZ),.v 8 (iV 0)] (lN (cQ (cSL (lL hs [.o 17 (.agg #[iV inp,qS A ts.length c,qS O os.length d]) 0 0 3] (lC 18 hs (rCheckTape inp A c ts ss O d os oM oM _ _ hs.g hs.f.q.r.1 hs.f.q.2.1 hs.f.q.1) ?_))))))));rintro _ w4 h5 hs rfl;have hb6:((chkTp inp (ss.map OSt.stp) os:Int) != (0:Int))=true:=bneT oM;have phb6:=neOfBne hb6;exact lB 19 hb6 (lN (cIT (cSL (lL hs [.v 6 (sZ),.v 7 (sZ),.v 8 (iV 1)] (lN (kX (hs.ret [] (.tuple #[sZ,sZ,iV 1]) (by obtain ⟨e1,e2,e3⟩:=back_1 (inp:=inp) (l:=(ss.map OSt.stp)) (os:=os) (at_:=at_) (by_:=by_) hck;rw[e1,e2,e3];exact ⟨none,0,[],none,0,[],rfl,nR _,nR _,SlO.nil,SlO.nil,RTs.nil,RTs.nil⟩))))))))
theorem rBackTape (inp:Int)(A:Option Addr)(c:Nat)(ts:List RSt)(ss:List OSt)(O:Option Addr)(d:Nat)(os:List Int)(at_:List Rat)(tAt:List RT)(X:Option Addr)(cX:Nat)(by_:List Rat)(tBy:List RT)(Y:Option Addr)(cY:Nat)(hl:ss.length≤65536)(ho:os.length≤3)(hat2:at_.length≤1000000)(hby:∀ i,LQ 1 (by_.getD i 0))(hB:chkTp inp (ss.map OSt.stp) os=0→(at_.length:Int)=inp→∀ k,k≤(ss.map OSt.stp).length→terr true (ss.map OSt.stp) at_ k=0→∀ j,LQ 100000 ((tvals (ss.map OSt.stp) at_ k).getD j 0))(hBd:chkTp inp (ss.map OSt.stp) os=0→(at_.length:Int)=inp→∀ way:List Rat,(∀ j,LQ 1 (way.getD j 0))→∀ k,k≤(ss.map OSt.stp).length→terr true (ss.map OSt.stp) at_ k=0→∀ j,LQ 2000000 ((tders (ss.map OSt.stp) at_ way k).getD j 0))(w:World)(h:Hp)(g:G w h)(hA:SlO 7 rsc rst0 h A ts)(hT:RSs h ts ss)(hO:Si O os h)(hX:Sr X tAt h)(hTat:RTs h tAt at_)(hY:Sr Y tBy h)(hTby:RTs h tBy by_):CR 20 #[.agg #[iV inp,.slice A ts.length c,.slice O os.length d],.slice X tAt.length cX,.slice Y tBy.length cY] w h (fun v h1=>∃ A c ts B d us,v=.tuple #[.slice A (ts:List RT).length c,.slice B (us:List RT).length d,iV (backE inp (ss.map OSt.stp) os at_ by_)]∧ts.length≤c∧us.length≤d∧Sr A ts h1∧Sr B us h1∧RTs h1 ts (backO inp (ss.map OSt.stp) os at_ by_)∧RTs h1 us (backG inp (ss.map OSt.stp) os at_ by_)):=by
  by_cases hs:0≤inp
  · obtain ⟨n,rfl⟩:=Int.eq_ofNat_of_zero_le hs
    exact rBackTapeN n A c ts ss O d os at_ tAt X cX by_ tBy Y cY hl ho hat2 hby hB hBd w h g hA hT hO hX hTat hY hTby
  · exact rBackTapeM inp A c ts ss O d os at_ tAt X cX by_ tBy Y cY hl ho oM w h g hA hT hO hX hTat hY hTby
theorem sgn0 {a:Rat}(h:a.num.sign=0):a=0:=by
  rw[←Rat.num_eq_zero];exact Int.sign_eq_zero_iff_zero.1 h
theorem Bz.sgb {wt sg:Nat→Nat}{C k:Nat}{bar g:List Rat}(Z:Bz wt sg C (k+1) bar g)(hw:1≤wt k):sg k≤C:=by
  obtain ⟨f,E,hf,hE,hC⟩:=Z;rw[rem_s] at hC
  have h2:=Nat.mul_le_mul_left (sg k+2) hw
  omega
theorem tBackN (n_:Nat)(A:Option Addr)(c:Nat)(l:List Stp)(O:Option Addr)(d:Nat)(os:List Int)(at_:List Rat)(X:Option Addr)(cX:Nat)(by_:List Rat)(Y:Option Addr)(cY:Nat)(wt sg:Nat→Nat)(W_:Nat)(hl:l.length≤65536)(ho:os.length≤300)(hat2:at_.length≤1000000)(hbt2:by_.length≤1000000)(hq:∀ i,LQ 1 (l.getD i stp0).q)(hby:∀ i,LQ 1 (by_.getD i 0))(hB:chkTp (n_:Int) l os=0→(at_.length:Int)=(n_:Int)→∀ k,k≤l.length→terr true l at_ k=0→∀ j,LQ 1000000 ((tvals l at_ k).getD j 0))(hwt:chkTp (n_:Int) l os=0→Wt l wt)(hW:∀ j,j<l.length→wt j≤W_)(hSg:chkTp (n_:Int) l os=0→(at_.length:Int)=(n_:Int)→terr true l at_ l.length=0→∀ k,k<l.length→(l.getD k stp0).op≠2→LQ (sg k) (sla (l.getD k stp0).op (l.getD k stp0).n ((tvals l at_ l.length).getD (l.getD k stp0).a.toNat 0) ((tvals l at_ l.length).getD (l.getD k stp0).b.toNat 0))∧LQ (sg k) (slb (l.getD k stp0).op ((tvals l at_ l.length).getD (l.getD k stp0).a.toNat 0) ((tvals l at_ l.length).getD (l.getD k stp0).b.toNat 0)))(hC:chkTp (n_:Int) l os=0→1+pot wt (fun _=>1) l.length+os.length*(2*W_)+rem_ wt sg l.length≤100000000)(w:World)(h:Hp)(g:G w h)(hA:SlO 9 stc stp0 h A l)(hO:Si O os h)(hX:Sq X at_ h)(hY:Sq Y by_ h)(tb:Tab h):CR 19 #[.agg #[nV n_,.slice A ((l).length) c,.slice O ((os).length) d],.slice X at_.length cX,.slice Y by_.length cY] w h (fun v h1=>∃ A c B d,v=.tuple #[.slice A (backO (n_:Int) l os at_ by_).length c,.slice B (backG (n_:Int) l os at_ by_).length d,iV (backE (n_:Int) l os at_ by_)]∧(backO (n_:Int) l os at_ by_).length≤c∧(backG (n_:Int) l os at_ by_).length≤d∧Sq A (backO (n_:Int) l os at_ by_) h1∧Sq B (backG (n_:Int) l os at_ by_) h1∧(backE (n_:Int) l os at_ by_=0→∀ way,dotq (backG (n_:Int) l os at_ by_) way ((n_:Int)).toNat=tgt l os at_ by_ way)):=by
 have hs:=((((((sS g).aS hA).aS hO).aS hX).aS hY).aB tb);refine go Tryz.func19 [(0,.agg #[nV n_,qS A ((l).length) c,qS O ((os).length) d]),(1,qS X at_.length cX),(2,qS Y by_.length cY)] rfl (cSL (lA 3 36 ([nV n_,qS A ((l).length) c,qS O ((os).length) d]) hs (fun b1 w2 h3 hs=>lL hs [.v 6 (sZ),.v 7 (sZ),.v 8 (iV 0)] (lN (cQ (cSL (lL hs [.o 17 (.agg #[nV n_,qS A ((l).length) c,qS O ((os).length) d]) 0 0 3] (lC 18 hs (tCheck (n_:Int) A c l O d os oM oM (fun i _=>hq i) _ _ hs.g hs.f.q.1 hs.f.r.2.1) ?_))))))));rintro _ w4 h5 hs rfl;cases hb6:((chkTp (n_:Int) l os:Int) != (0:Int))
 ·
  have phb6:=eqOfBne hb6;refine lB 19 hb6 (lN (cIF (cK (cQ (cSL (lL hs [.m 20 1,.v 21 (nV at_.length),.v 22 (pB b1),.o 23 (nV n_) 0 0 1] ?_))))));cases hb7:((at_.length:Int) != (n_:Int))
  ·
   have phb7:=eqOfBne hb7;refine lB 24 hb7 (lL hs [.m 25 24,.m 26 2,.v 27 (nV by_.length),.v 28 (qP b1 2),.o 29 (qS O ((os).length) d) 0 2 1,.v 30 (nV ((os).length))] ?_);cases hb8:((by_.length:Int) != (((os).length:Nat):Int))
   ·
    have phb8:=eqOfBne hb8;refine lB 31 hb8 (lL hs [.v 32 qF] (lN (cIF (cK (cSL (lL hs [.o 34 (.agg #[nV n_,qS A ((l).length) c,qS O ((os).length) d]) 0 0 3,.m 35 1] ?_))))));have hck:chkTp (n_:Int) l os=0:=by omega
    refine lC 36 hs (tValues_true (n_:Int) A c l O d os at_ X cX (chk_formed hck).1 oM oM hq (hB hck oM) _ _ hs.g hs.f.q.1 hs.f.r.2.1 hs.f.r.1 hs.f.1) ?_;rintro _ w9 _ hs ⟨Av,cv,rfl,hcv,hAv⟩;replace hs:=hs.aS hAv;refine lL hs [.m 33 36,.v 37 (qS Av ((vlist true l at_).length) cv),.v 38 (iV (terr true l at_ l.length)),.m 9 37,.m 8 38] (lN (cQ (cSL (lL hs [.m 39 8] ?_))));cases zd:((terr true l at_ l.length:Int) != (0:Int))
    ·
     have zo:=eqOfBne zd;refine lB 40 zd (lN (cIF (cK (cSL (lL hs [.v 42 (pB b1),.o 43 (nV n_) 0 0 1] (lK 44 55 n_ 5 56 (.agg #[qF,uV 0,eS,uV 0,eS]) qc 0 hs (fun zb _ _ hs=>?_)))))));have hl15:(List.replicate n_ 0).length=n_:=by simp
     refine lL hs [.m 7 44] (lNS (lL hs [.v 45 (qP b1 1),.o 46 (qS A ((l).length) c) 1 1 1,.v 47 (nV ((l).length))] (lK 48 55 ((l).length) 5 56 (.agg #[qF,uV 0,eS,uV 0,eS]) qc 0 hs (fun za _ zD hs=>?_))));have hl19:(List.replicate ((l).length) 0).length=((l).length):=by simp
     refine lL hs [.m 10 48] (lN (cQ (cSL (lL hs [.v 49 (qP b1 2),.o 50 (qS O ((os).length) d) 2 2 1,.v 51 (nV ((os).length)),.v 52 (iV 0)] (lN (cTo [(2,qS Y by_.length cY),(3,pB b1),(6,sZ),(7,qS (sB zb) n_ n_),(8,iV (terr true l at_ l.length)),(9,qS Av ((vlist true l at_).length) cv),(10,qS (sB za) ((l).length) ((l).length)),(50,qS O ((os).length) d),(51,nV ((os).length)),(52,iV 0)] ?_))))));refine kZ ?_;have hter:terr true l at_ l.length=0:=by omega
     have hvl:vlist true l at_=tvals l at_ l.length:=if_pos hter;have hLb:∀ j,LQ 1000000 ((vlist true l at_).getD j 0):=fun j=>by rw[hvl];exact hB hck oM l.length (nR _) hter j
     have hvn:(vlist true l at_).length=l.length:=by rw[hvl,tvals_len]
     have hWt:=hwt hck;have hw1:=fun j (hj:j<l.length)=>(hWt j hj).1
     have hSgk:=hSg hck oM hter;have hCC:=hC hck;have hOok:=(chk_formed hck).2.1;refine cTo _ (CG.loop (fun μ_ Γ w_=>∃ (i:Nat) (bar:List Rat) (h_:Hp),μ_=os.length-i∧Γ=[(2,qS Y by_.length cY),(3,pB b1),(6,sZ),(7,qS (sB zb) n_ n_),(8,iV (terr true l at_ l.length)),(9,qS Av ((vlist true l at_).length) cv),(10,qS (sB za) ((l).length) ((l).length)),(50,qS O ((os).length) d),(51,nV ((os).length)),(52,nV i)]∧SS w h w_ h_ [⟨za,55,(bar).flatMap qc⟩,⟨zb,55,(List.replicate n_ 0).flatMap qc⟩,⟨b1,36,[nV n_,qS A ((l).length) c,qS O ((os).length) d]⟩] [] [Sq Av (vlist true l at_),fun h_=>Tab h_,Sq Y by_,Sq X at_,Si O os,fun h_=>SlO 9 stc stp0 h_ A l]∧i≤os.length∧bar.length=l.length∧Bo l os at_ by_ i bar∧Bos wt l.length W_ i bar) _ ⟨0,List.replicate l.length (0:Rat),zD,rfl,rfl,hs.to _ _,Nat.zero_le _,(by simp),Bo.init,Bos.init _ _ _⟩ ?_);rintro _ _ _ ⟨i,bar,zE,hm22,rfl,hs,hik,hbl,hBo,hBs⟩;have hiW:=Nat.mul_le_mul_right (2*W_) hik;have hiC:pot wt (fun _=>1) l.length+i*(2*W_)≤100000000:=by omega
     have hok:=fun h0=>hOok i h0
     refine cSL ?_;cases ze:(decide ((i:Int)<(((os).length:Nat):Int)))
     ·
      have zp:=oF ze;refine lB 53 ze (lN (cQ (cIF (CG.exit ?_))))
      show CG _ _ _ _ _ _ _ _
      refine cQ (cSL (lL hs [.v 70 (qP b1 1),.o 71 (qS A ((l).length) c) 2 1 1,.v 72 (nV ((l).length))] (lI 73 (((l).length:Nat)-1) ?_)));refine lL hs [.m 13 73] (lN (kZ ?_));have hie:i=os.length:=by omega
      rw[hie] at hBo hBs
      refine cTo _ (CG.loop (fun μ_ Γ w_=>∃ (k:Nat) (g:List Rat) (bar:List Rat) (h_:Hp),μ_=k∧Γ=[(3,pB b1),(6,sZ),(7,qS (sB zb) n_ n_),(8,iV (terr true l at_ l.length)),(9,qS Av ((vlist true l at_).length) cv),(10,qS (sB za) ((l).length) ((l).length)),(13,iV ((k:Nat)-1))]∧SS w h w_ h_ [⟨za,55,(bar).flatMap qc⟩,⟨zb,55,(g).flatMap qc⟩,⟨b1,36,[nV n_,qS A ((l).length) c,qS O ((os).length) d]⟩] [] [Sq Av (vlist true l at_),fun h_=>Tab h_,Sq Y by_,Sq X at_,Si O os,fun h_=>SlO 9 stc stp0 h_ A l]∧k≤l.length∧g.length=n_∧bar.length=l.length∧Bk l at_ n_ (tgt l os at_ by_) k bar g∧Bz wt sg 100000000 k bar g) _ ⟨l.length,List.replicate n_ (0:Rat),bar,zE,rfl,rfl,hs.to _ _,nR _,(by simp),hbl,(hBo.bk n_),(hBs.bz oM)⟩ ?_);rintro _ _ _ ⟨k,g,bar,_,hm26,rfl,hs,hk,hgl,hbl,hBk,hZ⟩;have hw1k:=fun j (hj:j<k)=>hw1 j oM
      refine cQ (cSL (lL hs [.m 74 13] ?_));cases zf:(decide ((0:Int)≤((k:Nat)-1:Int)))
      ·
       have zq:=oF zf;refine lB 75 zf (lN (cIF (CG.exit ?_)))
       show CG _ _ _ _ _ _ _ _
       refine cSL ?_;have hkn:k=0:=by omega
       rw[hkn] at hBk
       have hfin:=hBk.fin hgl;have hgd:g=gradT n_ l os at_ by_:=hfin.1;rw[hgd] at hfin
       obtain ⟨_,hs,sg29,lo30,bc31⟩:=hs.pub 1;replace hs:=(hs.to [⟨za,55,(bar).flatMap qc⟩,⟨b1,36,[nV n_,qS A ((l).length) c,qS O ((os).length) d]⟩] []).aS (SlO.of_flat (sz:=5) (f:=qc) (d:=0) (b:=zb) (o:=0) (l:=g) (fun _=>rfl) sg29);replace hs:=hs.aS (show Sq (sB zb) (gradT n_ l os at_ by_) _ from by rw[←hgd];exact hs.f.1);have hgn:(gradT n_ l os at_ by_).length=n_:=by rw[←hgd];exact hgl
       have hcd:(gradT n_ l os at_ by_).length≤n_:=by omega
       refine lL hs [.o 161 (.agg #[nV n_,qS A ((l).length) c,qS O ((os).length) d]) 1 0 3,.m 162 9] (lC 163 hs (tOuts (n_:Int) A c l O d os (vlist true l at_) Av cv oM (by rw[hvl,tvals_len];exact (chk_formed hck).2.1) _ _ hs.g hs.f.q.r.2.1 hs.f.q.r.1 hs.f.r.1) ?_);rintro _ _ _ hs ⟨Ao,co,rfl,hco,hAo⟩;replace hs:=hs.aS hAo;exact lL hs [.m 164 7,.m 6 163,.m 7 164,.v 8 (iV 0)] (lN (kX (hs.ret [] (.tuple #[qS Ao ((pickL (vlist true l at_) os).length) co,qS (sB zb) n_ n_,iV 0]) (by obtain ⟨e1,e2,e3⟩:=back_0 (inp:=(n_:Int)) (l:=l) (os:=os) (at_:=at_) (by_:=by_) hck oM oM hter;rw[e1,e2,e3,←hvl];exact ⟨_,_,_,_,(by rw[show (gradT (n_:Int).toNat l os at_ by_).length=n_ from hgn]),hco,hcd,hs.f.1,hs.f.2.1,fun _=>hfin.2⟩))))
      have zq:=oT zf;refine lB 75 zf (lN (cIT (cK (cQ (kZ (cSL ?_))))));have hk1:k-1+1=k:=by omega
      have hB1:Bk l at_ n_ (tgt l os at_ by_) (k-1+1) bar g:=by rw[hk1];exact hBk
      have hZ1:Bz wt sg 100000000 (k-1+1) bar g:=by rw[hk1];exact hZ
      have hwk:=hw1 (k-1) oM;have fk:=(chk_formed hck).1 (k-1) oM;have hopr:=fk.opr;have hok_:=ok_at hter (by omega:k-1<l.length) (chk_formed hck).1;obtain ⟨hx1,hx2,hx3,hx4⟩:=fk.ix;refine lL hs [.v 78 (qP b1 1),.o 79 (qS A ((l).length) c) 2 1 1,.m 80 13] (lX 81 A ((l).length) c 9 ((k:Nat)-1) (k-1) ((hs.f.q.2.1).ok oM) ?_);refine lH 82 (.agg #[iV ((l.getD (k-1) stp0).op),iV ((l.getD (k-1) stp0).a),iV ((l.getD (k-1) stp0).b),iV ((l.getD (k-1) stp0).n),.bool (ineg ((l.getD (k-1) stp0).q).num),uV (lo (iabs ((l.getD (k-1) stp0).q).num)),.string (hi (iabs ((l.getD (k-1) stp0).q).num)),uV (lo (qd ((l.getD (k-1) stp0).q))),.string (hi (qd ((l.getD (k-1) stp0).q)))]) hs ((hs.f.q.2.1).el (k-1) oM) (lA 14 110 ([iV 0,iV 0,iV 0,iV 0,qF,uV 0,eS,uV 0,eS]) hs (fun zc _ _ hs=>lP 0 0 ([iV ((l.getD (k-1) stp0).op),iV ((l.getD (k-1) stp0).a),iV ((l.getD (k-1) stp0).b),iV ((l.getD (k-1) stp0).n),.bool (ineg ((l.getD (k-1) stp0).q).num),uV (lo (iabs ((l.getD (k-1) stp0).q).num)),.string (hi (iabs ((l.getD (k-1) stp0).q).num)),uV (lo (qd ((l.getD (k-1) stp0).q))),.string (hi (qd ((l.getD (k-1) stp0).q)))]) hs (fun _ hs=>lN (cQ (cSL (lL hs [.m 83 10,.m 84 13] (lX 85 (sB za) ((l).length) ((l).length) 5 ((k:Nat)-1) (k-1) rfl ?_)))))));refine lQ 86 1 bar qc 5 0 (k-1) (qv ((bar).getD (k-1) 0)) hs oM (lC 87 hs (fSign ((bar).getD (k-1) 0) (LQ.mono (hZ.lb hw1k (k-1) oM) oM) _ _ hs.g) ?_);rintro _ _ zF hs rfl;cases zg:((((bar).getD (k-1) 0).num.sign:Int) == (0:Int))
      ·
       have zr:=neOfBeq zg;refine lB 88 zg (lN (cIF (cK (cQ (cSL (lL hs [.v 89 (pB zc),.o 90 (iV ((l.getD (k-1) stp0).op)) 0 0 1] ?_))))));cases zi:(((l.getD (k-1) stp0).op:Int) == (2:Int))
       ·
        have zs:=neOfBeq zi;refine lB 91 zi (lN (cIF (cK (cQ ?_))));have hsr:=hs;refine cR 17 [⟨15,15,.cells (List.toArray [qF,uV 0,eS,uV 0,eS]) 55 (0,0)⟩,⟨16,16,.cells (List.toArray [qF,uV 0,eS,uV 0,eS]) 55 (0,0)⟩] mixed hs (al_cons (alOk kR (fun _ _=>by kernel_rfl)) (al_cons (alOk kR (fun _ _=>by kernel_rfl)) al_nil)) ?_;have ho2:(l.getD (k-1) stp0).op≠2:=by omega
        obtain ⟨hok6,hok8⟩:=ok_use hvl hok_ ho2 oM fk.o68.1 fk.o68.2;have hsg8:sg (k-1)≤100000000:=hZ1.sgb hwk;refine eO 0 107 [(0,0,9)] (.agg #[iV ((l.getD (k-1) stp0).op),iV ((l.getD (k-1) stp0).a),iV ((l.getD (k-1) stp0).b),iV ((l.getD (k-1) stp0).n),.bool (ineg ((l.getD (k-1) stp0).q).num),uV (lo (iabs ((l.getD (k-1) stp0).q).num)),.string (hi (iabs ((l.getD (k-1) stp0).q).num)),uV (lo (qd ((l.getD (k-1) stp0).q))),.string (hi (qd ((l.getD (k-1) stp0).q)))]) hs (eV 1 108 (qS Av ((vlist true l at_).length) cv) (eV 2 109 (qP zc 1) (eO 3 110 [(0,1,1)] (iV ((l.getD (k-1) stp0).a)) hs (eX 4 111 Av ((vlist true l at_).length) cv 5 ((l.getD (k-1) stp0).a) ((l.getD (k-1) stp0).a.toNat) ((hs.f.1).ok oM) (eH 5 112 (qv ((vlist true l at_).getD ((l.getD (k-1) stp0).a.toNat) 0)) hs ((hs.f.1).el ((l.getD (k-1) stp0).a.toNat) oM) (eV 6 113 (qS Av ((vlist true l at_).length) cv) (eV 7 114 (qP zc 2) (eO 8 115 [(0,2,1)] (iV ((l.getD (k-1) stp0).b)) hs (eX 9 116 Av ((vlist true l at_).length) cv 5 ((l.getD (k-1) stp0).b) ((l.getD (k-1) stp0).b.toNat) ((hs.f.1).ok oM) (eH 10 117 (qv ((vlist true l at_).getD ((l.getD (k-1) stp0).b.toNat) 0)) hs ((hs.f.1).el ((l.getD (k-1) stp0).b.toNat) oM) (eC 11 118 hs (fun _ _ hs=>tSlopesX (l.getD (k-1) stp0) ((vlist true l at_).getD (l.getD (k-1) stp0).a.toNat 0) ((vlist true l at_).getD (l.getD (k-1) stp0).b.toNat 0) 1000000 oM (hLb _) (hLb _) (hq (k-1)) kD (fk.op_ ho2) fk.2.2.2.2.2.1 hok6 hok8 _ _ hs.g hs.f.2.1) ?_)))))))))));rintro _ _ _ _ _ hs ⟨da,db,rfl,hda,hdb⟩;obtain ⟨hsa,hsb⟩:=hSgk (k-1) oM oM;rw[←hvl,←hda] at hsa
        rw[←hvl,←hdb] at hsb
        refine eV 12 106 (.tuple #[qv da,qv db]) (eV 13 119 (qv da) (eV 14 120 (qv db) (eD2 hsr hs 55 [qF,uV 0,eS,uV 0,eS] 55 [qF,uV 0,eS,uV 0,eS] (fun _ _ zl zm hs=>tP 17 0 0 (qc da) hs (fun _ hs=>tP 18 1 0 (qc db) hs (fun _ hs=>tN (cTo [(3,pB b1),(6,sZ),(7,qS (sB zb) n_ n_),(8,iV (terr true l at_ l.length)),(9,qS Av ((vlist true l at_).length) cv),(10,qS (sB za) ((l).length) ((l).length)),(13,iV ((k:Nat)-1)),(14,pB zc),(16,pB zm),(15,pB zl)] ?_)))))));refine cQ (cSL (lL hs [.v 121 (pB zc),.o 122 (iV ((l.getD (k-1) stp0).op)) 2 0 1] (lC 123 hs (tArity (l.getD (k-1) stp0).op _ _ hs.g) ?_)));rintro _ _ _ hs rfl;cases zj:(decide ((0:Int)<(ari (l.getD (k-1) stp0).op:Int)))
        ·
         have zt:=oF zj;refine lB 124 zj (lN (cIF (cK (cSL (lL hs [.v 141 (pB zc),.o 142 (iV ((l.getD (k-1) stp0).op)) 2 0 1] (lC 143 hs (tArity (l.getD (k-1) stp0).op _ _ hs.g) ?_))))));rintro _ _ zG hs rfl;have ⟨zx,phb56⟩:=dF (p:=(1:Int)<(ari (l.getD (k-1) stp0).op:Int)) oM;refine lB 144 zx (lN (cIF (cK (kQ (lL hs [.m 76 13] (lI 77 (((k:Nat)-1)-1) ?_))))));refine lE (ik:=.i64) 13 (show (k:Int)-1-1=((k-1:Nat):Int)-1 by omega) (lD ?_);intro a_ ka;replace hs:=hs.drop 3 0;refine ⟨_,_,?_,⟨k-1,g,bar,zG,rfl,rfl,hs.to _ _,oM,hgl,hbl,(by first|exact hB1.skip (sgn0 oM)|exact hB1.num oM hopr oM oM),hZ1.skip⟩,ka.to _ kR⟩
         omega
        have zt:=oT zj;refine lB 124 zj (lN (cIT (cR 15 [] mixed hs al_nil ?_)));refine eV 0 125 (qS (sB za) ((l).length) ((l).length)) (eV 1 126 (qP zc 1) (eO 2 127 [(2,1,1)] (iV ((l.getD (k-1) stp0).a)) hs (eV 3 128 (qS (sB za) ((l).length) ((l).length)) (eV 4 129 (qP zc 1) (eO 5 130 [(2,1,1)] (iV ((l.getD (k-1) stp0).a)) hs (eX 6 131 (sB za) ((l).length) ((l).length) 5 ((l.getD (k-1) stp0).a) ((l.getD (k-1) stp0).a.toNat) rfl (eQ 7 132 3 bar qc 5 0 ((l.getD (k-1) stp0).a.toNat) (qv ((bar).getD ((l.getD (k-1) stp0).a.toNat) 0)) hs oM (eV 8 133 (qS (sB za) ((l).length) ((l).length)) (eV 9 134 (iV ((k:Nat)-1)) (eX 10 135 (sB za) ((l).length) ((l).length) 5 ((k:Nat)-1) (k-1) rfl (eQ 11 136 3 bar qc 5 0 (k-1) (qv ((bar).getD (k-1) 0)) hs oM (eO 12 137 [(0,0,5)] (qv da) hs ?_))))))))))));have hq62:=LQ.mul (hZ.lb hw1k (k-1) oM) hsa;refine eC 13 138 hs (fun _ _ hs=>fMul ((bar).getD (k-1) 0) da (LQ.mono (hZ.lb hw1k (k-1) oM) oM) (LQ.mono hsa oM) _ _ hs.g hs.f.2.1) ?_;rintro _ _ _ _ _ hs rfl;have hq65:=LQ.add (hZ.lb hw1k ((l.getD (k-1) stp0).a.toNat) oM) (hZ1.mul hwk hsa);refine eC 14 139 hs (fun _ _ hs=>fAdd ((bar).getD ((l.getD (k-1) stp0).a.toNat) 0) (((bar).getD (k-1) 0)*da) (LQ.mono (hZ.lb hw1k ((l.getD (k-1) stp0).a.toNat) oM) oM) (LQ.mono (hZ1.mul hwk hsa) oM) _ _ hs.g hs.f.2.1) ?_;rintro _ _ _ _ _ hs rfl;refine eD0 hs (fun _ _ hs=>tX 15 140 (sB za) ((l).length) ((l).length) 5 ((l.getD (k-1) stp0).a) ((l.getD (k-1) stp0).a.toNat) rfl (tW 16 3 bar qc 5 ((l.getD (k-1) stp0).a.toNat) (((bar).getD ((l.getD (k-1) stp0).a.toNat) 0)+(((bar).getD (k-1) 0)*da)) hs oM (fun _ hs=>?_)));have zn:((bar).set ((l.getD (k-1) stp0).a.toNat) (((bar).getD ((l.getD (k-1) stp0).a.toNat) 0)+(((bar).getD (k-1) 0)*da))).length=((l).length):=by rw[List.length_set];exact hbl
        replace hs:=hs.to [⟨zl,55,qc da⟩,⟨zm,55,qc db⟩,⟨zc,110,[iV ((l.getD (k-1) stp0).op),iV ((l.getD (k-1) stp0).a),iV ((l.getD (k-1) stp0).b),iV ((l.getD (k-1) stp0).n),.bool (ineg ((l.getD (k-1) stp0).q).num),uV (lo (iabs ((l.getD (k-1) stp0).q).num)),.string (hi (iabs ((l.getD (k-1) stp0).q).num)),uV (lo (qd ((l.getD (k-1) stp0).q))),.string (hi (qd ((l.getD (k-1) stp0).q)))]⟩,⟨za,55,((bar).set ((l.getD (k-1) stp0).a.toNat) (((bar).getD ((l.getD (k-1) stp0).a.toNat) 0)+(((bar).getD (k-1) 0)*da))).flatMap qc⟩,⟨zb,55,(g).flatMap qc⟩,⟨b1,36,[nV n_,qS A ((l).length) c,qS O ((os).length) d]⟩] [];refine tNS (lL hs [.v 141 (pB zc),.o 142 (iV ((l.getD (k-1) stp0).op)) 2 0 1] (lC 143 hs (tArity (l.getD (k-1) stp0).op _ _ hs.g) ?_));rintro _ _ zH hs rfl;cases zk:(decide ((1:Int)<(ari (l.getD (k-1) stp0).op:Int)))
        ·
         have zu:=oF zk;refine lB 144 zk (lN (cIF (cK (kQ (lL hs [.m 76 13] (lI 77 (((k:Nat)-1)-1) ?_))))));refine lE (ik:=.i64) 13 (show (k:Int)-1-1=((k-1:Nat):Int)-1 by omega) (lD ?_);intro a_ ka;replace hs:=hs.drop 3 0;refine ⟨_,_,?_,⟨k-1,g,(bar).set ((l.getD (k-1) stp0).a.toNat) (((bar).getD ((l.getD (k-1) stp0).a.toNat) 0)+(((bar).getD (k-1) 0)*da)),zH,rfl,rfl,hs.to _ _,oM,hgl,zn,(hB1.one oM hopr oM oM oM oM (by rw[hda,hvl])),(hZ1.one ((hWt _ oM).2.1 oM) (hopr.1 oM) hsa)⟩,ka.to _ kR⟩
         omega
        have zu:=oT zk;refine lB 144 zk (lN (cIT (cR 15 [] mixed hs al_nil ?_)));have hT2:=hZ1.two (a:=(l.getD (k-1) stp0).a.toNat) (b:=(l.getD (k-1) stp0).b.toNat) hwk (fun j hj=>hw1 j oM) ((hWt _ oM).2.2 oM) (hopr.1 oM) (hopr.2.1 oM) oM hsa hsb rfl;refine eV 0 145 (qS (sB za) ((l).length) ((l).length)) (eV 1 146 (qP zc 2) (eO 2 147 [(2,2,1)] (iV ((l.getD (k-1) stp0).b)) hs (eV 3 148 (qS (sB za) ((l).length) ((l).length)) (eV 4 149 (qP zc 2) (eO 5 150 [(2,2,1)] (iV ((l.getD (k-1) stp0).b)) hs (eX 6 151 (sB za) ((l).length) ((l).length) 5 ((l.getD (k-1) stp0).b) ((l.getD (k-1) stp0).b.toNat) rfl (eQ 7 152 3 ((bar).set ((l.getD (k-1) stp0).a.toNat) (((bar).getD ((l.getD (k-1) stp0).a.toNat) 0)+(((bar).getD (k-1) 0)*da))) qc 5 0 ((l.getD (k-1) stp0).b.toNat) (qv (((bar).set ((l.getD (k-1) stp0).a.toNat) (((bar).getD ((l.getD (k-1) stp0).a.toNat) 0)+(((bar).getD (k-1) 0)*da))).getD ((l.getD (k-1) stp0).b.toNat) 0)) hs oM (eV 8 153 (qS (sB za) ((l).length) ((l).length)) (eV 9 154 (iV ((k:Nat)-1)) (eX 10 155 (sB za) ((l).length) ((l).length) 5 ((k:Nat)-1) (k-1) rfl (eQ 11 156 3 ((bar).set ((l.getD (k-1) stp0).a.toNat) (((bar).getD ((l.getD (k-1) stp0).a.toNat) 0)+(((bar).getD (k-1) 0)*da))) qc 5 0 (k-1) (qv (((bar).set ((l.getD (k-1) stp0).a.toNat) (((bar).getD ((l.getD (k-1) stp0).a.toNat) 0)+(((bar).getD (k-1) 0)*da))).getD (k-1) 0)) hs oM (eO 12 157 [(1,0,5)] (qv db) hs ?_))))))))))));have hq80:=LQ.mul hT2.1 hsb;refine eC 13 158 hs (fun _ _ hs=>fMul (((bar).set ((l.getD (k-1) stp0).a.toNat) (((bar).getD ((l.getD (k-1) stp0).a.toNat) 0)+(((bar).getD (k-1) 0)*da))).getD (k-1) 0) db (LQ.mono hT2.1 oM) (LQ.mono hsb oM) _ _ hs.g hs.f.2.1) ?_;rintro _ _ _ _ _ hs rfl;have hq83:=LQ.add hT2.2.1 hT2.2.2.1;refine eC 14 159 hs (fun _ _ hs=>fAdd (((bar).set ((l.getD (k-1) stp0).a.toNat) (((bar).getD ((l.getD (k-1) stp0).a.toNat) 0)+(((bar).getD (k-1) 0)*da))).getD ((l.getD (k-1) stp0).b.toNat) 0) ((((bar).set ((l.getD (k-1) stp0).a.toNat) (((bar).getD ((l.getD (k-1) stp0).a.toNat) 0)+(((bar).getD (k-1) 0)*da))).getD (k-1) 0)*db) (LQ.mono hT2.2.1 oM) (LQ.mono hT2.2.2.1 oM) _ _ hs.g hs.f.2.1) ?_;rintro _ _ _ _ _ hs rfl;refine eD0 hs (fun _ zI hs=>tX 15 160 (sB za) ((l).length) ((l).length) 5 ((l.getD (k-1) stp0).b) ((l.getD (k-1) stp0).b.toNat) rfl (tW 16 3 ((bar).set ((l.getD (k-1) stp0).a.toNat) (((bar).getD ((l.getD (k-1) stp0).a.toNat) 0)+(((bar).getD (k-1) 0)*da))) qc 5 ((l.getD (k-1) stp0).b.toNat) ((((bar).set ((l.getD (k-1) stp0).a.toNat) (((bar).getD ((l.getD (k-1) stp0).a.toNat) 0)+(((bar).getD (k-1) 0)*da))).getD ((l.getD (k-1) stp0).b.toNat) 0)+((((bar).set ((l.getD (k-1) stp0).a.toNat) (((bar).getD ((l.getD (k-1) stp0).a.toNat) 0)+(((bar).getD (k-1) 0)*da))).getD (k-1) 0)*db)) hs oM (fun _ hs=>?_)));have zA:(((bar).set ((l.getD (k-1) stp0).a.toNat) (((bar).getD ((l.getD (k-1) stp0).a.toNat) 0)+(((bar).getD (k-1) 0)*da))).set ((l.getD (k-1) stp0).b.toNat) ((((bar).set ((l.getD (k-1) stp0).a.toNat) (((bar).getD ((l.getD (k-1) stp0).a.toNat) 0)+(((bar).getD (k-1) 0)*da))).getD ((l.getD (k-1) stp0).b.toNat) 0)+((((bar).set ((l.getD (k-1) stp0).a.toNat) (((bar).getD ((l.getD (k-1) stp0).a.toNat) 0)+(((bar).getD (k-1) 0)*da))).getD (k-1) 0)*db))).length=((l).length):=by rw[List.length_set];exact zn
        replace hs:=hs.to [⟨zl,55,qc da⟩,⟨zm,55,qc db⟩,⟨zc,110,[iV ((l.getD (k-1) stp0).op),iV ((l.getD (k-1) stp0).a),iV ((l.getD (k-1) stp0).b),iV ((l.getD (k-1) stp0).n),.bool (ineg ((l.getD (k-1) stp0).q).num),uV (lo (iabs ((l.getD (k-1) stp0).q).num)),.string (hi (iabs ((l.getD (k-1) stp0).q).num)),uV (lo (qd ((l.getD (k-1) stp0).q))),.string (hi (qd ((l.getD (k-1) stp0).q)))]⟩,⟨za,55,(((bar).set ((l.getD (k-1) stp0).a.toNat) (((bar).getD ((l.getD (k-1) stp0).a.toNat) 0)+(((bar).getD (k-1) 0)*da))).set ((l.getD (k-1) stp0).b.toNat) ((((bar).set ((l.getD (k-1) stp0).a.toNat) (((bar).getD ((l.getD (k-1) stp0).a.toNat) 0)+(((bar).getD (k-1) 0)*da))).getD ((l.getD (k-1) stp0).b.toNat) 0)+((((bar).set ((l.getD (k-1) stp0).a.toNat) (((bar).getD ((l.getD (k-1) stp0).a.toNat) 0)+(((bar).getD (k-1) 0)*da))).getD (k-1) 0)*db))).flatMap qc⟩,⟨zb,55,(g).flatMap qc⟩,⟨b1,36,[nV n_,qS A ((l).length) c,qS O ((os).length) d]⟩] [];refine tN (cTo [(3,pB b1),(6,sZ),(7,qS (sB zb) n_ n_),(8,iV (terr true l at_ l.length)),(9,qS Av ((vlist true l at_).length) cv),(10,qS (sB za) ((l).length) ((l).length)),(13,iV ((k:Nat)-1))] ?_);refine kQ (lL hs [.m 76 13] (lI 77 (((k:Nat)-1)-1) ?_));refine lE (ik:=.i64) 13 (show (k:Int)-1-1=((k-1:Nat):Int)-1 by omega) (lD ?_);intro a_ ka;replace hs:=hs.drop 3 0;refine ⟨_,_,?_,⟨k-1,g,((bar).set ((l.getD (k-1) stp0).a.toNat) (((bar).getD ((l.getD (k-1) stp0).a.toNat) 0)+(((bar).getD (k-1) 0)*da))).set ((l.getD (k-1) stp0).b.toNat) ((((bar).set ((l.getD (k-1) stp0).a.toNat) (((bar).getD ((l.getD (k-1) stp0).a.toNat) 0)+(((bar).getD (k-1) 0)*da))).getD ((l.getD (k-1) stp0).b.toNat) 0)+((((bar).set ((l.getD (k-1) stp0).a.toNat) (((bar).getD ((l.getD (k-1) stp0).a.toNat) 0)+(((bar).getD (k-1) 0)*da))).getD (k-1) 0)*db)),zI,rfl,rfl,hs.to _ _,oM,hgl,zA,(hB1.two oM hopr oM oM oM (by rw[hda,hvl]) (by rw[hdb,hvl]) rfl),hT2.2.2.2⟩,ka.to _ kR⟩
        omega
       have zs:=eq_of_beq zi;refine lB 91 zi (lN (cIT (cQ (cR 13 [] mixed hs al_nil ?_))));obtain ⟨hx5,hx6⟩:=fk.nm oM;refine eV 0 92 (qS (sB zb) n_ n_) (eV 1 93 (qP zc 3) (eO 2 94 [(0,3,1)] (iV ((l.getD (k-1) stp0).n)) hs (eV 3 95 (qS (sB zb) n_ n_) (eV 4 96 (qP zc 3) (eO 5 97 [(0,3,1)] (iV ((l.getD (k-1) stp0).n)) hs (eX 6 98 (sB zb) n_ n_ 5 ((l.getD (k-1) stp0).n) ((l.getD (k-1) stp0).n.toNat) rfl (eQ 7 99 2 g qc 5 0 ((l.getD (k-1) stp0).n.toNat) (qv ((g).getD ((l.getD (k-1) stp0).n.toNat) 0)) hs oM (eV 8 100 (qS (sB za) ((l).length) ((l).length)) (eV 9 101 (iV ((k:Nat)-1)) (eX 10 102 (sB za) ((l).length) ((l).length) 5 ((k:Nat)-1) (k-1) rfl (eQ 11 103 1 bar qc 5 0 (k-1) (qv ((bar).getD (k-1) 0)) hs oM ?_)))))))))));have hq95:=LQ.add (hZ.lg ((l.getD (k-1) stp0).n.toNat)) (hZ.lb hw1k (k-1) oM);refine eC 12 104 hs (fun _ _ hs=>fAdd ((g).getD ((l.getD (k-1) stp0).n.toNat) 0) ((bar).getD (k-1) 0) (LQ.mono (hZ.lg ((l.getD (k-1) stp0).n.toNat)) oM) (LQ.mono (hZ.lb hw1k (k-1) oM) oM) _ _ hs.g hs.f.2.1) ?_;rintro _ _ _ _ _ hs rfl;refine eD0 hs (fun _ zJ hs=>tX 13 105 (sB zb) n_ n_ 5 ((l.getD (k-1) stp0).n) ((l.getD (k-1) stp0).n.toNat) rfl (tW 14 2 g qc 5 ((l.getD (k-1) stp0).n.toNat) (((g).getD ((l.getD (k-1) stp0).n.toNat) 0)+((bar).getD (k-1) 0)) hs oM (fun _ hs=>?_)));have zv:((g).set ((l.getD (k-1) stp0).n.toNat) (((g).getD ((l.getD (k-1) stp0).n.toNat) 0)+((bar).getD (k-1) 0))).length=n_:=by rw[List.length_set];exact hgl
       replace hs:=hs.to [⟨zc,110,[iV ((l.getD (k-1) stp0).op),iV ((l.getD (k-1) stp0).a),iV ((l.getD (k-1) stp0).b),iV ((l.getD (k-1) stp0).n),.bool (ineg ((l.getD (k-1) stp0).q).num),uV (lo (iabs ((l.getD (k-1) stp0).q).num)),.string (hi (iabs ((l.getD (k-1) stp0).q).num)),uV (lo (qd ((l.getD (k-1) stp0).q))),.string (hi (qd ((l.getD (k-1) stp0).q)))]⟩,⟨za,55,(bar).flatMap qc⟩,⟨zb,55,((g).set ((l.getD (k-1) stp0).n.toNat) (((g).getD ((l.getD (k-1) stp0).n.toNat) 0)+((bar).getD (k-1) 0))).flatMap qc⟩,⟨b1,36,[nV n_,qS A ((l).length) c,qS O ((os).length) d]⟩] [];refine tN (CG.exit ?_)
       show CG _ _ _ _ _ _ _ _
       refine kQ (lL hs [.m 76 13] (lI 77 (((k:Nat)-1)-1) ?_));refine lE (ik:=.i64) 13 (show (k:Int)-1-1=((k-1:Nat):Int)-1 by omega) (lD ?_);intro a_ ka;replace hs:=hs.drop 1 0;refine ⟨_,_,?_,⟨k-1,(g).set ((l.getD (k-1) stp0).n.toNat) (((g).getD ((l.getD (k-1) stp0).n.toNat) 0)+((bar).getD (k-1) 0)),bar,zJ,rfl,rfl,hs.to _ _,oM,zv,hbl,(hB1.name oM hopr oM oM oM),(hZ1.name hwk _)⟩,ka.to _ kR⟩
       omega
      have zr:=eq_of_beq zg;refine lB 88 zg (lN (cIT (CG.exit ?_)))
      show CG _ _ _ _ _ _ _ _
      refine kQ (lL hs [.m 76 13] (lI 77 (((k:Nat)-1)-1) ?_));refine lE (ik:=.i64) 13 (show (k:Int)-1-1=((k-1:Nat):Int)-1 by omega) (lD ?_);intro a_ ka;replace hs:=hs.drop 1 0;refine ⟨_,_,?_,⟨k-1,g,bar,zF,rfl,rfl,hs.to _ _,oM,hgl,hbl,(by first|exact hB1.skip (sgn0 oM)|exact hB1.num oM hopr oM oM),hZ1.skip⟩,ka.to _ kR⟩
      omega
     have zp:=oT ze;refine lB 53 ze (lN (cQ (cIT (cK (cQ (kZ (cSL (lL hs [.m 54 52] (lX 55 O ((os).length) d 1 (i:Nat) i ((hs.f.q.1).ok oM) ?_)))))))));refine lH 56 (iV (os.getD i 0)) hs ((hs.f.q.1).el i oM) (lL hs [.m 11 54,.m 12 56] (lN (cR 11 [] mixed hs al_nil ?_)));refine eV 0 57 (qS (sB za) ((l).length) ((l).length)) (eV 1 58 (iV (os.getD i 0)) (eV 2 59 (qS (sB za) ((l).length) ((l).length)) (eV 3 60 (iV (os.getD i 0)) (eX 4 61 (sB za) ((l).length) ((l).length) 5 (os.getD i 0) ((os.getD i 0).toNat) rfl (eQ 5 62 0 bar qc 5 0 ((os.getD i 0).toNat) (qv ((bar).getD ((os.getD i 0).toNat) 0)) hs oM (eV 6 63 (qS Y by_.length cY) (eV 7 64 (nV i) (eX 8 65 Y by_.length cY 5 (i:Nat) i ((hs.f.r.1).ok oM) (eH 9 66 (qv (by_.getD i 0)) hs ((hs.f.r.1).el i oM) ?_)))))))));have hq112:=LQ.add (hBs.lb hw1 hiC ((os.getD i 0).toNat) oM) (hby i);refine eC 10 67 hs (fun _ _ hs=>fAdd ((bar).getD ((os.getD i 0).toNat) 0) (by_.getD i 0) (LQ.mono (hBs.lb hw1 hiC ((os.getD i 0).toNat) oM) oM) (LQ.mono (hby i) oM) _ _ hs.g hs.f.2.1) ?_;rintro _ _ _ _ _ hs rfl;refine eD0 hs (fun _ zB hs=>tX 11 68 (sB za) ((l).length) ((l).length) 5 (os.getD i 0) ((os.getD i 0).toNat) rfl (tW 12 0 bar qc 5 ((os.getD i 0).toNat) (((bar).getD ((os.getD i 0).toNat) 0)+(by_.getD i 0)) hs oM (fun _ hs=>?_)));have zw:((bar).set ((os.getD i 0).toNat) (((bar).getD ((os.getD i 0).toNat) 0)+(by_.getD i 0))).length=((l).length):=by rw[List.length_set];exact hbl
     replace hs:=hs.to [⟨za,55,((bar).set ((os.getD i 0).toNat) (((bar).getD ((os.getD i 0).toNat) 0)+(by_.getD i 0))).flatMap qc⟩,⟨zb,55,(List.replicate n_ 0).flatMap qc⟩,⟨b1,36,[nV n_,qS A ((l).length) c,qS O ((os).length) d]⟩] [];refine tN (kQ (lIn 69 ((i:Nat)+1) (i+1) ?_));refine lL hs [.m 52 69] (lD ?_);intro a_ ka;refine ⟨_,_,?_,⟨i+1,(bar).set ((os.getD i 0).toNat) (((bar).getD ((os.getD i 0).toNat) 0)+(by_.getD i 0)),zB,rfl,rfl,hs.to _ _,oM,zw,(hBo.step oM oM hbl),(hBs.step oM (hW _ oM) (hby _))⟩,ka.to _ kR⟩
     omega
    have zo:=neOfBne zd;exact lB 40 zd (lN (cIT (cSL (lL hs [.m 41 8,.v 6 (sZ),.v 7 (sZ),.m 8 41] (lN (kX (hs.ret [] (.tuple #[sZ,sZ,iV (terr true l at_ l.length)]) (by obtain ⟨e1,e2,e3⟩:=back_e (inp:=(n_:Int)) (l:=l) (os:=os) (at_:=at_) (by_:=by_) hck oM oM oM;rw[e1,e2,e3];exact ⟨none,0,none,0,rfl,nR _,nR _,SlO.nil,SlO.nil,fun h_=>absurd h_ oM⟩))))))))
   have phb8:=neOfBne hb8;exact lB 31 hb8 (lL hs [.v 32 qT] (lN (cIT (cSL (lL hs [.v 6 (sZ),.v 7 (sZ),.v 8 (iV 5)] (lN (kX (hs.ret [] (.tuple #[sZ,sZ,iV 5]) (by obtain ⟨e1,e2,e3⟩:=back_5 (inp:=(n_:Int)) (l:=l) (os:=os) (at_:=at_) (by_:=by_) oM oM;rw[e1,e2,e3];exact ⟨none,0,none,0,rfl,nR _,nR _,SlO.nil,SlO.nil,fun h_=>absurd h_ oM⟩)))))))))
  have phb7:=neOfBne hb7;refine lB 24 hb7 (lL hs [.m 25 24] (lG 26 ?_));exact lG 27 (lG 28 (lG 29 (lG 30 (lG 31 (lL hs [.v 32 qT] (lN (cIT (cSL (lL hs [.v 6 (sZ),.v 7 (sZ),.v 8 (iV 5)] (lN (kX (hs.ret [] (.tuple #[sZ,sZ,iV 5]) (by obtain ⟨e1,e2,e3⟩:=back_5 (inp:=(n_:Int)) (l:=l) (os:=os) (at_:=at_) (by_:=by_) oM oM;rw[e1,e2,e3];exact ⟨none,0,none,0,rfl,nR _,nR _,SlO.nil,SlO.nil,fun h_=>absurd h_ oM⟩)))))))))))))
 have phb6:=neOfBne hb6;exact lB 19 hb6 (lN (cIT (cSL (lL hs [.v 6 (sZ),.v 7 (sZ),.v 8 (iV 1)] (lN (kX (hs.ret [] (.tuple #[sZ,sZ,iV 1]) (by obtain ⟨e1,e2,e3⟩:=back_1 (inp:=(n_:Int)) (l:=l) (os:=os) (at_:=at_) (by_:=by_) oM;rw[e1,e2,e3];exact ⟨none,0,none,0,rfl,nR _,nR _,SlO.nil,SlO.nil,fun h_=>absurd h_ oM⟩))))))))
theorem tBackM (inp:Int)(A:Option Addr)(c:Nat)(l:List Stp)(O:Option Addr)(d:Nat)(os:List Int)(at_:List Rat)(X:Option Addr)(cX:Nat)(by_:List Rat)(Y:Option Addr)(cY:Nat)(hl:l.length≤65536)(ho:os.length≤300)(hq:∀ i,LQ 1 (l.getD i stp0).q)(hneg:inp<0)(w:World)(h:Hp)(g:G w h)(hA:SlO 9 stc stp0 h A l)(hO:Si O os h)(hX:Sq X at_ h)(hY:Sq Y by_ h)(tb:Tab h):CR 19 #[.agg #[iV inp,.slice A ((l).length) c,.slice O ((os).length) d],.slice X at_.length cX,.slice Y by_.length cY] w h (fun v h1=>∃ A c B d,v=.tuple #[.slice A (backO inp l os at_ by_).length c,.slice B (backG inp l os at_ by_).length d,iV (backE inp l os at_ by_)]∧(backO inp l os at_ by_).length≤c∧(backG inp l os at_ by_).length≤d∧Sq A (backO inp l os at_ by_) h1∧Sq B (backG inp l os at_ by_) h1∧(backE inp l os at_ by_=0→∀ way,dotq (backG inp l os at_ by_) way (inp).toNat=tgt l os at_ by_ way)):=by
 have hs:=((((((sS g).aS hA).aS hO).aS hX).aS hY).aB tb);have hck:chkTp inp l os≠0:=by rw[chkTp_shape oM];decide
 refine go Tryz.func19 [(0,.agg #[iV inp,qS A ((l).length) c,qS O ((os).length) d]),(1,qS X at_.length cX),(2,qS Y by_.length cY)] rfl (cSL (lA 3 36 ([iV inp,qS A ((l).length) c,qS O ((os).length) d]) hs (fun b1 w2 h3 hs=>lL hs [.v 6 (sZ),.v 7 (sZ),.v 8 (iV 0)] (lN (cQ (cSL (lL hs [.o 17 (.agg #[iV inp,qS A ((l).length) c,qS O ((os).length) d]) 0 0 3] (lC 18 hs (tCheck inp A c l O d os oM oM (fun i _=>hq i) _ _ hs.g hs.f.q.1 hs.f.r.2.1) ?_))))))));rintro _ w4 h5 hs rfl;have hb6:((chkTp inp l os:Int) != (0:Int))=true:=bneT oM;have phb6:=neOfBne hb6;exact lB 19 hb6 (lN (cIT (cSL (lL hs [.v 6 (sZ),.v 7 (sZ),.v 8 (iV 1)] (lN (kX (hs.ret [] (.tuple #[sZ,sZ,iV 1]) (by obtain ⟨e1,e2,e3⟩:=back_1 (inp:=inp) (l:=l) (os:=os) (at_:=at_) (by_:=by_) hck;rw[e1,e2,e3];exact ⟨none,0,none,0,rfl,nR _,nR _,SlO.nil,SlO.nil,fun h_=>absurd h_ kD⟩))))))))
theorem tBack (inp:Int)(A:Option Addr)(c:Nat)(l:List Stp)(O:Option Addr)(d:Nat)(os:List Int)(at_:List Rat)(X:Option Addr)(cX:Nat)(by_:List Rat)(Y:Option Addr)(cY:Nat)(wt sg:Nat→Nat)(W_:Nat)(hl:l.length≤65536)(ho:os.length≤300)(hat2:at_.length≤1000000)(hbt2:by_.length≤1000000)(hq:∀ i,LQ 1 (l.getD i stp0).q)(hby:∀ i,LQ 1 (by_.getD i 0))(hB:chkTp inp l os=0→(at_.length:Int)=inp→∀ k,k≤l.length→terr true l at_ k=0→∀ j,LQ 1000000 ((tvals l at_ k).getD j 0))(hwt:chkTp inp l os=0→Wt l wt)(hW:∀ j,j<l.length→wt j≤W_)(hSg:chkTp inp l os=0→(at_.length:Int)=inp→terr true l at_ l.length=0→∀ k,k<l.length→(l.getD k stp0).op≠2→LQ (sg k) (sla (l.getD k stp0).op (l.getD k stp0).n ((tvals l at_ l.length).getD (l.getD k stp0).a.toNat 0) ((tvals l at_ l.length).getD (l.getD k stp0).b.toNat 0))∧LQ (sg k) (slb (l.getD k stp0).op ((tvals l at_ l.length).getD (l.getD k stp0).a.toNat 0) ((tvals l at_ l.length).getD (l.getD k stp0).b.toNat 0)))(hC:chkTp inp l os=0→1+pot wt (fun _=>1) l.length+os.length*(2*W_)+rem_ wt sg l.length≤100000000)(w:World)(h:Hp)(g:G w h)(hA:SlO 9 stc stp0 h A l)(hO:Si O os h)(hX:Sq X at_ h)(hY:Sq Y by_ h)(tb:Tab h):CR 19 #[.agg #[iV inp,.slice A l.length c,.slice O os.length d],.slice X at_.length cX,.slice Y by_.length cY] w h (fun v h1=>∃ A c B d,v=.tuple #[.slice A (backO inp l os at_ by_).length c,.slice B (backG inp l os at_ by_).length d,iV (backE inp l os at_ by_)]∧(backO inp l os at_ by_).length≤c∧(backG inp l os at_ by_).length≤d∧Sq A (backO inp l os at_ by_) h1∧Sq B (backG inp l os at_ by_) h1∧(backE inp l os at_ by_=0→∀ way,dotq (backG inp l os at_ by_) way (inp).toNat=tgt l os at_ by_ way)):=by
  by_cases hs:0≤inp
  · obtain ⟨n,rfl⟩:=Int.eq_ofNat_of_zero_le hs
    exact tBackN n A c l O d os at_ X cX by_ Y cY wt sg W_ hl ho hat2 hbt2 hq hby hB hwt hW hSg hC w h g hA hO hX hY tb
  · exact tBackM inp A c l O d os at_ X cX by_ Y cY hl ho hq oM w h g hA hO hX hY tb
def sqN:Stp:=⟨2,0,0,0,0⟩
def sqM:Stp:=⟨5,0,0,0,0⟩
theorem sq_any {P:Nat→Prop}(h0:P 0)(h1:P 1):∀ k,k<[sqN,sqM].length→P k
  | 0,_=>h0
  | 1,_=>h1
  | k+2,h=>absurd h (by show ¬k+2<2;omega)
theorem sqF:∀ k,k<[sqN,sqM].length→Formed 1 k ([sqN,sqM].getD k stp0):=sq_any (P:=fun k=>Formed 1 k ([sqN,sqM].getD k stp0)) (by decide +kernel) (by decide +kernel)
theorem sqT:Tame 2 [sqN,sqM]:=sq_any (P:=fun k=>([sqN,sqM].getD k stp0).op=8→(k=2 → -12≤([sqN,sqM].getD k stp0).n∧([sqN,sqM].getD k stp0).n≤12)∧(k≠2 → -1≤([sqN,sqM].getD k stp0).n∧([sqN,sqM].getD k stp0).n≤2)) kD kD
theorem lq_one {z:Int}(h : -9223372036854775808≤z∧z≤9223372036854775807):∀ j,LQ 1 (([(z:Rat)]:List Rat).getD j 0)
  | 0=>LQ.lit h
  | j+1=>by show LQ 1 (([]:List Rat).getD j 0);rw[getD_outR (by simp)];exact lq0 oM
theorem sqQ:∀ i,LQ 1 ([sqN,sqM].getD i stp0).q
  | 0=>lq0 oM
  | 1=>lq0 oM
  | i+2=>by show LQ 1 (([]:List Stp).getD i stp0).q;simp;exact lq0 oM
theorem tBackS (A:Option Addr)(c:Nat)(O:Option Addr)(d:Nat)(X:Option Addr)(cX:Nat)(Y:Option Addr)(cY:Nat)(w:World)(h:Hp)(g:G w h)(hA:SlO 9 stc stp0 h A [sqN,sqM])(hO:Si O [1] h)(hX:Sq X [((3:Int):Rat)] h)(hY:Sq Y [((1:Int):Rat)] h)(tb:Tab h):CR 19 #[.agg #[iV 1,.slice A 2 c,.slice O 1 d],.slice X 1 cX,.slice Y 1 cY] w h (fun v h1=>∃ A1 c1 A2 c2,v=.tuple #[.slice A1 1 c1,.slice A2 1 c2,iV 0]∧1≤c1∧1≤c2∧Sq A1 [((9:Int):Rat)] h1∧Sq A2 [((6:Int):Rat)] h1):=by
  have e1:backE 1 [sqN,sqM] [1] [((3:Int):Rat)] [((1:Int):Rat)]=0:=by decide +kernel
  have e2:backO 1 [sqN,sqM] [1] [((3:Int):Rat)] [((1:Int):Rat)]=[((9:Int):Rat)]:=by decide +kernel
  have e3:backG 1 [sqN,sqM] [1] [((3:Int):Rat)] [((1:Int):Rat)]=[((6:Int):Rat)]:=by decide +kernel
  have h3:=lq_one (z:=3) kD;refine (tBack 1 A c [sqN,sqM] O d [1] [((3:Int):Rat)] X cX [((1:Int):Rat)] Y cY (fun k=>2^k) (sg_ 2) 4096 kD kD kD kD sqQ (lq_one kD) (fun _ _ k hk _ j=>(lq_tvals sqT sqQ h3 k hk j).mono (Nat.le_trans (vb_12 (Nat.le_trans hk kD)) kD)) (fun _=>wt_two sqF) (w_12 kD) (fun _ _ _ k hk h2=>slopes_ok sqT sqQ h3 sqF k hk h2) (fun _=>hc_12 kD (nR 2) kD) w h g hA hO hX hY tb).mono ?_;rintro _ w' ⟨_,h',rfl,u,A1,c1,A2,c2,rfl,k1,k2,k3,k4,_⟩;rw[e2] at k1 k3;rw[e3] at k2 k4
  refine ⟨_,h',rfl,u,A1,c1,A2,c2,?_,k1,k2,k3,k4⟩;rw[e1,e2,e3];rfl
theorem lSquare  (w:World)(h:Hp)(g:G w h):CR 58 #[] w h (fun v h1=>∃ A O,v=.agg #[iV 1,.slice A 2 2,.slice O 1 1]∧SlO 9 stc stp0 h1 A [sqN,sqM]∧Si O [1] h1):=by
 have hs:=sS g;refine go Tryz.func58 [] rfl (cSL (lA 0 36 ([iV 0,sZ,sZ]) hs (fun b1 w2 h3 hs=>lNS (lL hs [.v 1 (.agg #[iV 2,iV 0,iV 0,iV 0,qF,uV 0,eS,uV 0,eS]),.v 2 (.agg #[iV 5,iV 0,iV 0,iV 0,qF,uV 0,eS,uV 0,eS])] (lR 3 110 2 ([iV 2,iV 0,iV 0,iV 0,qF,uV 0,eS,uV 0,eS,iV 5,iV 0,iV 0,iV 0,qF,uV 0,eS,uV 0,eS]) hs (fun b4 w5 h6 hs=>?_))))));replace hs:=hs.aS (SlO.of_flat (sz:=9) (f:=stc) (d:=stp0) (b:=b4) (o:=0) (l:=[sqN,sqM]) (fun _=>rfl) hs.f.1);refine lR 4 3 1 ([iV 1]) hs (fun b8 w9 _ hs=>?_);replace hs:=hs.aS (SlO.of_flat (sz:=1) (f:=i64c) (d:=0) (b:=b8) (o:=0) (l:=[(1:Int)]) (fun _=>rfl) hs.f.1);exact lL hs [.v 5 (.agg #[iV 1,qS (sB b4) 2 2,qS (sB b8) 1 1])] (lP 0 0 ([iV 1,qS (sB b4) 2 2,qS (sB b8) 1 1]) hs (fun _ hs=>lN (kX (hs.ret [(0,0,3)] (.agg #[iV 1,qS (sB b4) 2 2,qS (sB b8) 1 1]) (⟨_,_,rfl,hs.f.r.1,hs.f.1⟩)))))
theorem lKnown28  (w:World)(h:Hp)(g:G w h)(tb:Tab h):CV 17 #[] w h (.bool true):=by
 have hs:=((sS g).aB tb);refine go Tryz.func17 [] rfl (cSL (lL hs [.v 0 qF] (lNS (lC 5 hs (lSquare _ _ hs.g) ?_))));rintro _ w1 h2 hs ⟨A,O,rfl,hA,hO⟩;replace hs:=hs.aP hA hO;refine lC 6 hs (fOf 3 oM oM _ _ hs.g) ?_;rintro _ w3 h4 hs rfl;refine lR 7 55 1 (qc ((3:Int):Rat)) hs (fun b5 w6 h7 hs=>?_);replace hs:=hs.aS (SlO.of_flat (sz:=5) (f:=qc) (d:=0) (b:=b5) (o:=0) (l:=([((3:Int):Rat)]:List Rat)) (fun _=>rfl) hs.f.1);refine lC 8 hs (fOf 1 oM oM _ _ hs.g) ?_;rintro _ _ _ hs rfl;refine lR 9 55 1 (qc ((1:Int):Rat)) hs (fun za _ _ hs=>?_);replace hs:=hs.aS (SlO.of_flat (sz:=5) (f:=qc) (d:=0) (b:=za) (o:=0) (l:=([((1:Int):Rat)]:List Rat)) (fun _=>rfl) hs.f.1);refine lC 10 hs (tBackS A 2 O 1 (sB b5) 1 (sB za) 1 _ _ hs.g hs.f.q.2.1 hs.f.q.1 hs.f.r.1 hs.f.1 hs.f.q.r.1) ?_;rintro _ _ _ hs ⟨Bo,co,Bg,cg,rfl,hco,hcg,hBo,hBg⟩;replace hs:=hs.aP hBo hBg;have hlb9:[((9:Int):Rat)].length=1:=rfl;have hlb6:[((6:Int):Rat)].length=1:=rfl;refine lL hs [.m 4 10,.v 11 (qS Bo 1 co),.v 12 (qS Bg 1 cg),.v 13 (iV 0),.m 1 11,.m 2 12,.m 3 13] (lNS (lL hs [.m 14 3,.v 15 qT,.m 16 15,.m 17 1,.v 18 (iV 1),.v 19 qT,.v 20 qT,.m 21 20,.m 22 1] (lX 23 Bo 1 co 5 0 0 ((hs.f.2.1).ok oM) ?_)));refine lH 24 (qv (([((9:Int):Rat)]).getD 0 0)) hs ((hs.f.2.1).el 0 oM) (lC 25 hs (hIs (([((9:Int):Rat)]).getD 0 0) 9 1 ⟨by decide +kernel,by decide +kernel⟩ kD kD kD kD kD _ _ hs.g) ?_);rintro _ _ _ hs rfl;have zb:(sameQ (([((9:Int):Rat)]).getD 0 0) (mkR 9 1))=true:=by decide +kernel
 rw[zb];refine lL hs [.v 26 qT,.m 27 26,.m 28 2,.v 29 (iV 1),.v 30 qT,.v 31 qT,.m 32 31,.m 33 2] (lX 34 Bg 1 cg 5 0 0 ((hs.f.1).ok oM) ?_);refine lH 35 (qv (([((6:Int):Rat)]).getD 0 0)) hs ((hs.f.1).el 0 oM) (lC 36 hs (hIs (([((6:Int):Rat)]).getD 0 0) 6 1 ⟨by decide +kernel,by decide +kernel⟩ kD kD kD kD kD _ _ hs.g) ?_);rintro _ _ _ hs rfl;have zc:(sameQ (([((6:Int):Rat)]).getD 0 0) (mkR 6 1))=true:=by decide +kernel
 rw[zc];exact lL hs [.v 37 qT,.m 0 37] (lN (kX (hs.ret [] qT rfl)))
theorem lNumbers (A:Option Addr)(c:Nat)(zs:List Int)(hl:zs.length≤9223372036854775807)(hz:I64s zs)(n:Nat)(hn:n≤1000)(odd:Int)(w:World)(h:Hp)(g:G w h)(hA:Si A zs h):CR 10 #[.slice A zs.length c,nV n,iV odd] w h (fun v h1=>∃ A c ts m,v=.slice A (ts:List RT).length c∧ts.length≤c∧Sr A ts h1∧RTs h1 ts (rowq zs m)∧m≤n+1):=by
 have hs:=((sS g).aS hA);refine go Tryz.func10 [(0,qS A zs.length c),(1,nV n),(2,iV odd)] rfl ?_;refine cSL (lL hs [.v 6 (sZ)] (lN (CG.join (fun Γ w_=>∃ (m:Nat) (h_:Hp),Γ=[(0,qS A zs.length c),(6,sZ),(1,nV m)]∧SS w h w_ h_ [] [] [Si A zs]∧m≤n+1) ?_ ?_)))
 ·
  refine cSL (lL hs [.m 7 2] (lC 8 hs (hPick (odd) 9 oM oM _ _ hs.g) ?_));rintro _ w2 h3 hs rfl;have lp1:=pick_lt (odd) 9 oM;cases hb4:(((pick (odd) 9:Nat):Int) == (8:Int))
  ·
   have phb4:=neOfBeq hb4;refine lB 9 hb4 (lN (cIF (CG.skip ?_)));intro a_ ka;exact ⟨_,⟨n,h3,rfl,hs.to _ _,oM⟩,ka.to _ kR⟩
  have phb4:=eq_of_beq hb4;refine lB 9 hb4 (lN (cIT (kQ (lL hs [.m 10 1] (lIn 11 ((n:Nat)+1) (n+1) ?_)))));refine lL hs [.m 1 11] (lD ?_);intro a_ ka;exact ⟨_,⟨(n+1),h3,rfl,hs.to _ _,oM⟩,ka.to _ kR⟩
 rintro _ w7 ⟨m,h8,rfl,hs,hm⟩;refine cSL (lL hs [.m 12 0,.m 13 1] (lC 14 hs (hRow A c zs m oM hl hz _ _ hs.g hs.f.1) ?_));rintro _ w9 _ hs ⟨Ar,cr,tr,rfl,hcr,hAr,hTr⟩;replace hs:=((hs.aS hAr).aT hTr);exact lL hs [.m 6 14] (lN (kX (hs.ret [] (qS Ar tr.length cr) (⟨_,_,tr,m,rfl,hcr,hs.f.2.1,hs.f.1,hm⟩))))
theorem oq_lq {ss:List OSt}(h:OSms ss)(i:Nat):LQ 1 ((ss.map OSt.stp).getD i stp0).q:=by
  by_cases e:i<ss.length
  · rw[stp_getD e];exact (h i e).q
  · rw[getD_outR (by rw[List.length_map];omega)];exact lq0 oM
theorem tame_of {inp:Int}{ss:List OSt}{os:List Int}{z:Nat}(hc:chkTp inp (ss.map OSt.stp) os=0)(hz:PwZ z ss):Tame z (ss.map OSt.stp):=fun k hk h8=>by
  have hF:=(chk_formed hc).1 k hk;rw[List.length_map] at hk
  have h1:=hz k hk;rw[stp_getD hk] at h8 hF ⊢
  exact ⟨fun _=>hF.2.2.2.2.2.1 h8,h1⟩
theorem lq_nil {K:Nat}(hK:1≤K)(j:Nat):LQ K (([]:List Rat).getD j 0):=by rw[getD_outR (by simp)];exact lq0 hK
theorem outs_snoc {ol:List Int}{n:Int}{x:Int}(h:∀ i,i<ol.length→0≤ol.getD i 0∧ol.getD i 0<n)(hx:0≤x∧x<n):∀ i,i<(ol++[x]).length→0≤(ol++[x]).getD i 0∧(ol++[x]).getD i 0<n:=fun i hi=>by
  rw[List.length_append,List.length_singleton] at hi
  rw[getD_snoc]
  by_cases e:i<ol.length
  · rw[if_pos e];exact h i e
  · rw[if_neg e,if_pos oM];exact hx
theorem mTape (A0:Option Addr)(c0:Nat)(zs:List Int)(hl0:zs.length≤9223372036854775807)(hz0:I64s zs)(most:Nat)(hmost:most≤20)(w:World)(h:Hp)(g:G w h)(hA0:Si A0 zs h):CR 9 #[.slice A0 zs.length c0,nV most] w h (fun v h1=>∃ A c O d,∃ ts:List RSt,∃ ss:List OSt,∃ os:List Int,v=.agg #[iV 3,.slice A ts.length c,.slice O os.length d]∧ts.length≤c∧os.length≤d∧SlO 7 rsc rst0 h1 A ts∧RSs h1 ts ss∧Si O os h1∧OSms ss∧ss.length≤most∧os.length≤2∧(∀ i,i<os.length→0≤os.getD i 0∧os.getD i 0<ss.length)∧(ss=[]→A=none∧c=0∧O=none∧d=0∧os=[])∧(ss≠[]→os≠[])∧PwS ss):=by
 have hs:=((sS g).aS hA0);refine go Tryz.func9 [(0,qS A0 zs.length c0),(1,nV most)] rfl (cSL (lA 4 25 ([iV 0,sZ,sZ]) hs (fun b1 w2 h3 hs=>lNS (lL hs [.m 11 0,.v 12 (.agg #[qS A0 zs.length c0,iV 0])] (lA 13 103 ([qS A0 zs.length c0,iV 0]) hs (fun b4 w5 h6 hs=>lL hs [.m 5 13] (lNS (lL hs [.v 14 (.agg #[iV 3,sZ,sZ])] (lA 6 25 ([iV 0,sZ,sZ]) hs (fun b7 w8 h9 hs=>lP 0 0 ([iV 3,sZ,sZ]) hs (fun _ hs=>lNS (lL hs [.m 15 5] (lCm 16 (rNext A0 c0 zs hl0 hz0 b4 0 oM _ _ hs.g (hs.own 1) (hs.jk 1) hs.f.1) ?_)))))))))))));rintro _ _ _ u14 ⟨z11,at_z11,rfl,haz11,hzz11,hOz11⟩;replace hs:=(hs.stepM 1 u14 hOz11).to [⟨b7,25,[iV 3,sZ,sZ]⟩,⟨b4,103,[qS A0 zs.length c0,nV at_z11]⟩,⟨b1,25,[iV 0,sZ,sZ]⟩] [];refine lL hs [.m 17 1] (lIn 18 ((most:Nat)+1) (most+1) ?_);refine lC 19 hs (hPick (z11) (most+1) oM oM _ _ hs.g) ?_;rintro _ _ yE hs rfl;have lp1:=pick_lt (z11) (most+1) oM;refine lL hs [.m 7 19] (lN (cQ (cSL (lL hs [.v 8 (iV 0)] (lN (kZ ?_))))));replace hs:=hs.nil 99 7;refine cTo [(4,pB b1),(5,pB b4),(6,pB b7),(7,nV (pick (z11) (most+1))),(8,iV 0)] ?_;replace hs:=hs.add (K:=fun h_=>RSs h_ ([]) ([])) (RSs.nil);refine CG.loop (fun μ_ Γ w_=>∃ (k:Nat) (saA:Option Addr) (sac:Nat) (al:List RSt) (ss:List OSt) (at1:Nat) (h_:Hp),μ_=(pick (z11) (most+1))-k∧Γ=[(4,pB b1),(5,pB b4),(6,pB b7),(7,nV (pick (z11) (most+1))),(8,nV k)]∧SS w h w_ h_ [⟨b7,25,[iV 3,qS saA ((al).length) sac,sZ]⟩,⟨b4,103,[qS A0 zs.length c0,nV at1]⟩,⟨b1,25,[iV 0,sZ,sZ]⟩] [⟨99,7,saA,sac,(al).length,(al).flatMap rsc⟩] [fun h_=>RSs h_ al ss,Si A0 zs]∧k≤(pick (z11) (most+1))∧at1≤zs.length∧ss.length=k∧(k=0→saA=none∧sac=0)∧OSms ss∧PwS ss) _ ⟨0,none,0,[],[],at_z11,yE,rfl,rfl,hs.to _ _,Nat.zero_le _,haz11,rfl,fun _=>⟨rfl,rfl⟩,fun i hi=>by simp at hi,fun i hi=>by simp at hi⟩ ?_;rintro _ _ _ ⟨k,saA,sac,al,ss,at1,yF,hm19,rfl,hs,hk,hat1,hsl,hA1,hSm,hPw⟩;have hlT:=(hs.f.1).len;refine cQ (cSL (lL hs [.m 20 8,.m 21 7] ?_));cases zj:(decide ((k:Int)<((pick (z11) (most+1):Nat):Int)))
 ·
  have zM:=oF zj;refine lB 22 zj (lN (cIF (CG.exit ?_)))
  show CG _ _ _ _ _ _ _ _
  refine cQ (cSL (lL hs [.v 10 (iV 0)] (lN (kZ ?_))));replace hs:=hs.nil 3 1;refine cTo [(4,pB b1),(5,pB b4),(6,pB b7),(7,nV (pick (z11) (most+1))),(10,iV 0)] ?_;refine CG.loop (fun μ_ Γ w_=>∃ (m:Nat) (soA:Option Addr) (soc:Nat) (ol:List Int) (at2:Nat) (h_:Hp),μ_=2-m∧Γ=[(4,pB b1),(5,pB b4),(6,pB b7),(7,nV (pick (z11) (most+1))),(10,nV m)]∧SS w h w_ h_ [⟨b7,25,[iV 3,qS saA ((al).length) sac,qS soA ((ol).length) soc]⟩,⟨b4,103,[qS A0 zs.length c0,nV at2]⟩,⟨b1,25,[iV 0,sZ,sZ]⟩] [⟨3,1,soA,soc,(ol).length,(ol).flatMap i64c⟩,⟨99,7,saA,sac,(al).length,(al).flatMap rsc⟩] [fun h_=>RSs h_ al ss,Si A0 zs]∧m≤2∧at2≤zs.length∧ol.length=m∧(m=0→soA=none∧soc=0)∧(∀ i,i<ol.length→0≤ol.getD i 0∧ol.getD i 0<(pick (z11) (most+1)))∧(0<m→0<(pick (z11) (most+1)))) _ ⟨0,none,0,[],at1,yF,rfl,rfl,hs.to _ _,Nat.zero_le _,hat1,rfl,fun _=>⟨rfl,rfl⟩,fun i hi=>by simp at hi,fun h_=>absurd h_ (Nat.lt_irrefl 0)⟩ ?_;rintro _ _ _ ⟨m,soA,soc,ol,at2,_,hm23,rfl,hs,hm,hat2,hol,hO1,hob,hm0⟩;refine cQ (cSL (lL hs [.m 93 10] ?_));cases zk:(decide ((m:Int)<(2:Int)))
  ·
   have zN:=oF zk;refine lB 94 zk (lL hs [.m 95 94] (lG 96 ?_));refine lG 97 (lL hs [.v 98 qF] (lN (cIF (CG.exit ?_))))
   show CG _ _ _ _ _ _ _ _
   refine cSL ?_;obtain ⟨_,hs,yf⟩:=hs.pubr 1 (A:=saA) (c:=sac) (l:=al) (f:=rsc) (ty:=99) (sz:=7) rst0 (fun _=>rfl);obtain ⟨_,hs,yg⟩:=hs.pubr 0 (A:=soA) (c:=soc) (l:=ol) (f:=i64c) (ty:=3) (sz:=1) 0 (fun _=>rfl);exact lL hs [.o 113 (.agg #[iV 3,qS saA ((al).length) sac,qS soA ((ol).length) soc]) 0 0 3] (lP 2 0 ([iV 3,qS saA ((al).length) sac,qS soA ((ol).length) soc]) hs (fun _ hs=>lN (kX (hs.ret [(2,0,3)] (.agg #[iV 3,qS saA ((al).length) sac,qS soA ((ol).length) soc]) (⟨_,_,_,_,al,ss,ol,rfl,yf,yg,hs.f.2.1,hs.f.r.1,hs.f.1,hSm,by omega,by omega,fun i hi=>by have:=hob i hi;omega,fun h_=>by subst h_;have hk0:k=0:=hsl.symm;exact ⟨(hA1 hk0).1,(hA1 hk0).2,(hO1 oM).1,(hO1 oM).2,List.eq_nil_of_length_eq_zero oM⟩,fun h_ h2_=>by subst h2_;apply h_;apply List.eq_nil_of_length_eq_zero;have hm00:m=0:=hol.symm;omega,hPw⟩)))))
  have zN:=oT zk;refine lB 94 zk (lL hs [.m 95 94,.m 96 7] ?_);cases zl:(decide ((0:Int)<((pick (z11) (most+1):Nat):Int)))
  ·
   have zP:=oF zl;refine lB 97 zl (lL hs [.v 98 qF] (lN (cIF (CG.exit ?_))))
   show CG _ _ _ _ _ _ _ _
   refine cSL ?_;obtain ⟨_,hs,yi⟩:=hs.pubr 1 (A:=saA) (c:=sac) (l:=al) (f:=rsc) (ty:=99) (sz:=7) rst0 (fun _=>rfl);obtain ⟨_,hs,yj⟩:=hs.pubr 0 (A:=soA) (c:=soc) (l:=ol) (f:=i64c) (ty:=3) (sz:=1) 0 (fun _=>rfl);exact lL hs [.o 113 (.agg #[iV 3,qS saA ((al).length) sac,qS soA ((ol).length) soc]) 0 0 3] (lP 2 0 ([iV 3,qS saA ((al).length) sac,qS soA ((ol).length) soc]) hs (fun _ hs=>lN (kX (hs.ret [(2,0,3)] (.agg #[iV 3,qS saA ((al).length) sac,qS soA ((ol).length) soc]) (⟨_,_,_,_,al,ss,ol,rfl,yi,yj,hs.f.2.1,hs.f.r.1,hs.f.1,hSm,by omega,by omega,fun i hi=>by have:=hob i hi;omega,fun h_=>by subst h_;have hk0:k=0:=hsl.symm;exact ⟨(hA1 hk0).1,(hA1 hk0).2,(hO1 oM).1,(hO1 oM).2,List.eq_nil_of_length_eq_zero oM⟩,fun h_ h2_=>by subst h2_;apply h_;apply List.eq_nil_of_length_eq_zero;have hm00:m=0:=hol.symm;omega,hPw⟩)))))
  have zP:=oT zl;refine lB 97 zl (lL hs [.v 98 qT] (lN (cIT (cK (cQ (kZ (CG.region ⟨(b4::(Value.slice soA ((ol).length) soc).ownBlock.toList),none⟩ 11 [] mixed kR hs.g al_nil (hs.rb_lt 1 0 (rb:=b4) (ty:=3) (sz:=1) (A:=soA) (c:=soc) (m:=(ol).length) (cs:=(ol).flatMap i64c)) ?_)))))));refine eV 0 101 (qP b7 2) (eO 1 102 [(0,2,1)] (qS soA ((ol).length) soc) hs ?_ (hM:=fun p hp=>by obtain rfl:=List.mem_singleton.1 hp;exact hs.rb_ne 0 1 0 (rb:=b4) (ty:=3) (sz:=1) (A:=soA) (c:=soc) (m:=(ol).length) (cs:=(ol).flatMap i64c)));refine eV 2 103 (nV (pick (z11) (most+1))) (eI 3 104 ((pick (z11) (most+1):Nat)-1) (eV 4 105 (pB b4) (eV 6 107 (nV (pick (z11) (most+1))) (eCm 5 106 hs (List.mem_cons_self) (fun _ _ hs=>rNext A0 c0 zs hl0 hz0 b4 at2 oM _ _ hs.g (hs.own 1) (hs.jk 1) hs.f.2.1) ?_))));rintro _ _ _ _ _ hs u43 ⟨z40,at_z40,rfl,haz40,hzz40,hOz40⟩;replace hs:=(hs.stepM 1 u43 hOz40).to [⟨b7,25,[iV 3,qS saA ((al).length) sac,qS soA ((ol).length) soc]⟩,⟨b4,103,[qS A0 zs.length c0,nV at_z40]⟩,⟨b1,25,[iV 0,sZ,sZ]⟩] [⟨3,1,soA,soc,(ol).length,(ol).flatMap i64c⟩,⟨99,7,saA,sac,(al).length,(al).flatMap rsc⟩];refine eC 7 108 hs (fun _ _ hs=>hPick (z40) (pick (z11) (most+1)) oM oM _ _ hs.g) ?_;rintro _ _ _ _ _ hs rfl;have lp3:=pick_lt (z40) (pick (z11) (most+1)) oM;refine eI 8 109 (((pick (z11) (most+1):Nat)-1)-(pick (z40) (pick (z11) (most+1)):Nat)) (eR 9 110 3 1 ([iV (((pick (z11) (most+1):Nat)-1)-(pick (z40) (pick (z11) (most+1)):Nat))]) hs (fun yG _ _ hs=>eY 10 111 0 3 1 soc soA ol i64c (((pick (z11) (most+1):Nat)-1)-(pick (z40) (pick (z11) (most+1)):Nat):Int) 8 yG (iV 0) hs (fun _ f_=>f_.1) (fun b hb=>List.mem_cons_of_mem _ (Option.mem_toList.2 hb)) (fun ya yb _ _ hs=>eD0 hs (fun _ yH hs=>tV 11 112 (qP b7 2) (tP 12 0 2 ([qS ya ((ol++[(((pick (z11) (most+1):Nat)-1)-(pick (z40) (pick (z11) (most+1)):Nat):Int)]).length) yb]) hs (fun _ hs=>tN (kQ (lL hs [.m 99 10] (lIn 100 ((m:Nat)+1) (m+1) ?_)))))))));refine lL hs [.m 10 100] (lD ?_);intro a_ ka;replace hs:=hs.tl;refine ⟨_,_,?_,⟨m+1,ya,yb,ol++[(((pick (z11) (most+1):Nat)-1)-(pick (z40) (pick (z11) (most+1)):Nat):Int)],at_z40,yH,rfl,rfl,hs.to _ _,oM,haz40,(by simp;omega),(fun h_=>absurd h_ oM),(outs_snoc hob oM),(fun _=>by omega)⟩,ka.to _ kR⟩
  omega
 have zM:=oT zj;refine lB 22 zj (lN (cIT (cK (cQ (kZ (cSL (lL hs [.m 25 5] (lCm 26 (rNext A0 c0 zs hl0 hz0 b4 at1 oM _ _ hs.g (hs.own 1) (hs.jk 1) hs.f.2.1) ?_))))))));rintro _ _ _ u67 ⟨z64,at_z64,rfl,haz64,hzz64,hOz64⟩;replace hs:=(hs.stepM 1 u67 hOz64).to [⟨b7,25,[iV 3,qS saA ((al).length) sac,sZ]⟩,⟨b4,103,[qS A0 zs.length c0,nV at_z64]⟩,⟨b1,25,[iV 0,sZ,sZ]⟩] [⟨99,7,saA,sac,(al).length,(al).flatMap rsc⟩];refine lC 27 hs (hPick (z64) 15 oM oM _ _ hs.g) ?_;rintro _ _ _ hs rfl;have lp5:=pick_lt (z64) 15 oM;refine lL hs [.v 28 (.agg #[nV (pick (z64) 15),iV 0,iV 0,iV 0,qF,sZ,sZ])] (lA 9 99 ([iV 0,iV 0,iV 0,iV 0,qF,sZ,sZ]) hs (fun za _ zA hs=>lP 0 0 ([nV (pick (z64) 15),iV 0,iV 0,iV 0,qF,sZ,sZ]) hs (fun _ hs=>?_)));refine lN (CG.join (fun Γ w_=>∃ (o0:Int) (h_:Hp),Γ=[(4,pB b1),(5,pB b4),(6,pB b7),(7,nV (pick (z11) (most+1))),(8,nV k),(9,pB za)]∧SS w h w_ h_ [⟨za,99,[iV o0,iV 0,iV 0,iV 0,qF,sZ,sZ]⟩,⟨b7,25,[iV 3,qS saA ((al).length) sac,sZ]⟩,⟨b4,103,[qS A0 zs.length c0,nV at_z64]⟩,⟨b1,25,[iV 0,sZ,sZ]⟩] [⟨99,7,saA,sac,(al).length,(al).flatMap rsc⟩] [fun h_=>RSs h_ al ss,Si A0 zs]∧((0:Int)≤o0∧o0≤(13:Int))∧(o0≠(2:Int)→2≤k)) ?_ ?_)
 ·
  refine CG.join (fun Γ w_=>∃ (zr:Bool) (h_:Hp),Γ=[(4,pB b1),(5,pB b4),(6,pB b7),(7,nV (pick (z11) (most+1))),(8,nV k),(9,pB za),(35,.bool zr)]∧SS w h w_ h_ [⟨za,99,[nV (pick (z64) 15),iV 0,iV 0,iV 0,qF,sZ,sZ]⟩,⟨b7,25,[iV 3,qS saA ((al).length) sac,sZ]⟩,⟨b4,103,[qS A0 zs.length c0,nV at_z64]⟩,⟨b1,25,[iV 0,sZ,sZ]⟩] [⟨99,7,saA,sac,(al).length,(al).flatMap rsc⟩] [fun h_=>RSs h_ al ss,Si A0 zs]∧(zr=true→¬(2≤k∧(pick (z64) 15:Nat)<14))∧(zr=false→(2≤k∧(pick (z64) 15:Nat)<14))) ?_ ?_
  ·
   refine kQ (lL hs [.m 29 8] ?_);cases zm:(decide ((k:Int)<(2:Int)))
   ·
    have zQ:=oF zm;refine lB 30 zm (lL hs [.m 31 30,.v 32 (pB za),.o 33 (nV (pick (z64) 15)) 0 0 1] ?_);cases zn:(decide ((14:Int)≤((pick (z64) 15:Nat):Int)))
    ·
     have zR:=oF zn;refine lB 34 zn (lL hs [.v 35 qF] (lD ?_));intro a_ ka;exact ⟨_,⟨false,zA,rfl,hs.to _ _,(fun h_=>absurd h_ kD),(fun _=>by omega)⟩,ka.to _ kR⟩
    have zR:=oT zn;refine lB 34 zn (lL hs [.v 35 qT] (lD ?_));intro a_ ka;exact ⟨_,⟨true,zA,rfl,hs.to _ _,(fun _=>by omega),(fun h_=>absurd h_ kD)⟩,ka.to _ kR⟩
   have zQ:=oT zm;refine lB 30 zm (lL hs [.m 31 30] (lG 32 ?_));refine lG 33 (lG 34 (lL hs [.v 35 qT] (lD ?_)));intro a_ ka;exact ⟨_,⟨true,zA,rfl,hs.to _ _,(fun _=>by omega),(fun h_=>absurd h_ kD)⟩,ka.to _ kR⟩
  rintro _ _ ⟨zr,yc,rfl,hs,hT35,hF35⟩;cases zo:(zr)
  ·
   try rw[zo] at hs
   try rw[zo]
   refine cIF (CG.skip ?_);intro a_ ka;exact ⟨_,⟨(pick (z64) 15:Nat),yc,rfl,hs.to _ _,(by have:=hF35 aM;omega),(by have:=hF35 aM;omega)⟩,ka.to _ kR⟩
  try rw[zo] at hs
  try rw[zo]
  refine cIT (kQ (lL hs [.v 36 (pB za)] (lP 0 0 ([iV 2]) hs (fun _ hs=>lD ?_))));intro a_ ka;exact ⟨_,⟨2,yc,rfl,hs.to _ _,oM,oM⟩,ka.to _ kR⟩
 rintro _ _ ⟨o0,yd,rfl,hs,ho0,ho02⟩;refine CG.join (fun Γ w_=>∃ (o1:Int) (h_:Hp),Γ=[(4,pB b1),(5,pB b4),(6,pB b7),(7,nV (pick (z11) (most+1))),(8,nV k),(9,pB za)]∧SS w h w_ h_ [⟨za,99,[iV o1,iV 0,iV 0,iV 0,qF,sZ,sZ]⟩,⟨b7,25,[iV 3,qS saA ((al).length) sac,sZ]⟩,⟨b4,103,[qS A0 zs.length c0,nV at_z64]⟩,⟨b1,25,[iV 0,sZ,sZ]⟩] [⟨99,7,saA,sac,(al).length,(al).flatMap rsc⟩] [fun h_=>RSs h_ al ss,Si A0 zs]∧((1:Int)≤o1∧o1≤(13:Int))∧(o1≠(2:Int)→2≤k)) ?_ ?_
 ·
  refine CG.join (fun Γ w_=>∃ (zt:Bool) (h_:Hp),Γ=[(4,pB b1),(5,pB b4),(6,pB b7),(7,nV (pick (z11) (most+1))),(8,nV k),(9,pB za),(39,.bool zt)]∧SS w h w_ h_ [⟨za,99,[iV o0,iV 0,iV 0,iV 0,qF,sZ,sZ]⟩,⟨b7,25,[iV 3,qS saA ((al).length) sac,sZ]⟩,⟨b4,103,[qS A0 zs.length c0,nV at_z64]⟩,⟨b1,25,[iV 0,sZ,sZ]⟩] [⟨99,7,saA,sac,(al).length,(al).flatMap rsc⟩] [fun h_=>RSs h_ al ss,Si A0 zs]∧(zt=true→¬(o0≠0))∧(zt=false→(o0≠0))) ?_ ?_
  ·
   refine kQ (lL hs [.v 37 (pB za),.o 38 (iV o0) 0 0 1] ?_);cases zp:((o0:Int) == (0:Int))
   ·
    have zS:=neOfBeq zp;refine lB 39 zp (lD ?_);intro a_ ka;exact ⟨_,⟨false,yd,rfl,hs.to _ _,(fun h_=>absurd h_ kD),(fun _=>by omega)⟩,ka.to _ kR⟩
   have zS:=eq_of_beq zp;refine lB 39 zp (lD ?_);intro a_ ka;exact ⟨_,⟨true,yd,rfl,hs.to _ _,(fun _=>by omega),(fun h_=>absurd h_ kD)⟩,ka.to _ kR⟩
  rintro _ _ ⟨zt,ye,rfl,hs,zB,hF39⟩;cases zq:(zt)
  ·
   try rw[zq] at hs
   try rw[zq]
   refine cIF (CG.skip ?_);intro a_ ka;exact ⟨_,⟨o0,ye,rfl,hs.to _ _,(by have:=hF39 aM;omega),(by have:=hF39 aM;omega)⟩,ka.to _ kR⟩
  try rw[zq] at hs
  try rw[zq]
  refine cIT (kQ (lL hs [.v 40 (pB za)] (lP 0 0 ([iV 5]) hs (fun _ hs=>lD ?_))));intro a_ ka;exact ⟨_,⟨5,ye,rfl,hs.to _ _,(by have:=zB aM;omega),(by have:=zB aM;omega)⟩,ka.to _ kR⟩
 rintro _ _ ⟨o1,_,rfl,hs,ho1,ho2⟩;refine CG.join (fun Γ w_=>∃ (sa_:Int) (sb_:Int) (sn_:Int) (tb_:Bool) (tA_:Option Addr) (tn_:Nat) (tc_:Nat) (tD_:Option Addr) (tm_:Nat) (td_:Nat) (o_:OSt) (at3:Nat) (h_:Hp),Γ=[(4,pB b1),(5,pB b4),(6,pB b7),(7,nV (pick (z11) (most+1))),(8,nV k),(9,pB za)]∧SS w h w_ h_ [⟨za,99,[iV o1,iV sa_,iV sb_,iV sn_,.bool tb_,qS tA_ tn_ tc_,qS tD_ tm_ td_]⟩,⟨b7,25,[iV 3,qS saA ((al).length) sac,sZ]⟩,⟨b4,103,[qS A0 zs.length c0,nV at3]⟩,⟨b1,25,[iV 0,sZ,sZ]⟩] [⟨99,7,saA,sac,(al).length,(al).flatMap rsc⟩] [fun h_=>RS1 h_ (⟨o1,sa_,sb_,sn_,(tb_,qS tA_ tn_ tc_,qS tD_ tm_ td_)⟩:RSt) o_,fun h_=>RSs h_ al ss,Si A0 zs]∧OSm o_∧(-1≤o_.n∧o_.n≤2)∧at3≤zs.length) ?_ ?_
 ·
  refine cSL (lL hs [.v 41 (pB za),.o 42 (iV o1) 0 0 1] (lN (kZ (cSL ?_))));cases zb:((o1:Int) == (1:Int))
  ·
   have zD:=neOfBeq zb;refine lB 54 zb (lL hs [.m 53 54] (lN (cIF (cSL ?_))));cases zc:((o1:Int) == (2:Int))
   ·
    have zE:=neOfBeq zc;refine lB 60 zc (lL hs [.m 59 60] (lN (cIF (cSL ?_))));cases zd:((o1:Int) == (8:Int))
    ·
     have zF:=neOfBeq zd;refine lB 66 zd (lL hs [.m 65 66] (lN (cIF (cQ (cSL ?_)))));cases ze:((o1:Int) == (7:Int))
     ·
      have zG:=neOfBeq ze;refine lB 78 ze (lL hs [.m 77 78] (lN (cIF (cSL ?_))));cases zf:((o1:Int) == (9:Int))
      ·
       have zH:=neOfBeq zf;refine lB 79 zf (lL hs [.m 77 79] (lN (cIF (cSL ?_))));cases zg:((o1:Int) == (10:Int))
       ·
        have zI:=neOfBeq zg;refine lB 80 zg (lL hs [.m 77 80] (lN (cIF (kQ ?_))));cases zi:((o1:Int) == (11:Int))
        ·
         have zJ:=neOfBeq zi;refine lB 81 zi (lL hs [.m 77 81] (lN (cIF (cSL (lL hs [.m 43 5] (lCm 44 (rNext A0 c0 zs hl0 hz0 b4 at_z64 oM _ _ hs.g (hs.own 2) (hs.jk 2) hs.f.2.1) ?_))))));rintro _ _ _ u117 ⟨z114,at_z114,rfl,haz114,hzz114,hOz114⟩;replace hs:=(hs.stepM 2 u117 hOz114).to [⟨za,99,[iV o1,iV 0,iV 0,iV 0,qF,sZ,sZ]⟩,⟨b7,25,[iV 3,qS saA ((al).length) sac,sZ]⟩,⟨b4,103,[qS A0 zs.length c0,nV at_z114]⟩,⟨b1,25,[iV 0,sZ,sZ]⟩] [⟨99,7,saA,sac,(al).length,(al).flatMap rsc⟩];refine lL hs [.m 45 8] (lC 46 hs (hPick (z114) k oM oM _ _ hs.g) ?_);rintro _ _ _ hs rfl;have lp7:=pick_lt (z114) k oM;refine lL hs [.v 47 (qP za 1)] (lP 0 1 ([nV (pick (z114) k)]) hs (fun _ hs=>lN (kQ (lL hs [.m 48 5] (lCm 49 (rNext A0 c0 zs hl0 hz0 b4 at_z114 oM _ _ hs.g (hs.own 2) (hs.jk 2) hs.f.2.1) ?_)))));rintro _ _ _ u124 ⟨z121,at_z121,rfl,haz121,hzz121,hOz121⟩;replace hs:=(hs.stepM 2 u124 hOz121).to [⟨za,99,[iV o1,nV (pick (z114) k),iV 0,iV 0,qF,sZ,sZ]⟩,⟨b7,25,[iV 3,qS saA ((al).length) sac,sZ]⟩,⟨b4,103,[qS A0 zs.length c0,nV at_z121]⟩,⟨b1,25,[iV 0,sZ,sZ]⟩] [⟨99,7,saA,sac,(al).length,(al).flatMap rsc⟩];refine lL hs [.m 50 8] (lC 51 hs (hPick (z121) k oM oM _ _ hs.g) ?_);rintro _ _ yk hs rfl;have lp9:=pick_lt (z121) k oM;refine lL hs [.v 52 (qP za 2)] (lP 0 2 ([nV (pick (z121) k)]) hs (fun _ hs=>lD ?_));intro a_ ka;have yl : -1≤(⟨o1,(pick (z114) k:Nat),(pick (z121) k:Nat),0,0,false⟩:OSt).n∧(⟨o1,(pick (z114) k:Nat),(pick (z121) k:Nat),0,0,false⟩:OSt).n≤2:=(by dsimp only;omega);replace hs:=(hs.add (K:=fun h_=>RS1 h_ (⟨o1,(pick (z114) k:Nat),(pick (z121) k:Nat),0,(false,sZ,sZ)⟩:RSt) (⟨o1,(pick (z114) k:Nat),(pick (z121) k:Nat),0,0,false⟩:OSt)) ⟨rfl,rfl,rfl,rfl,⟨none,0,none,0,rfl,nR _,nR _,SlO.nil,SlO.nil⟩,fun _=>rfl⟩);exact ⟨_,⟨(pick (z114) k:Nat),(pick (z121) k:Nat),0,false,none,0,0,none,0,0,(⟨o1,(pick (z114) k:Nat),(pick (z121) k:Nat),0,0,false⟩:OSt),at_z121,yk,rfl,hs.to _ _,⟨by dsimp only;omega,by dsimp only;omega,by dsimp only;omega,by dsimp only;omega,LQ.lit (z:=0) kD⟩,yl,haz121⟩,ka.to _ kR⟩
        have zJ:=eq_of_beq zi;refine lB 81 zi (lL hs [.m 77 81] (lN (cIT (kQ (lL hs [.m 82 5] (lCm 83 (rNext A0 c0 zs hl0 hz0 b4 at_z64 oM _ _ hs.g (hs.own 2) (hs.jk 2) hs.f.2.1) ?_))))));rintro _ _ _ u135 ⟨z132,at_z132,rfl,haz132,hzz132,hOz132⟩;replace hs:=(hs.stepM 2 u135 hOz132).to [⟨za,99,[iV o1,iV 0,iV 0,iV 0,qF,sZ,sZ]⟩,⟨b7,25,[iV 3,qS saA ((al).length) sac,sZ]⟩,⟨b4,103,[qS A0 zs.length c0,nV at_z132]⟩,⟨b1,25,[iV 0,sZ,sZ]⟩] [⟨99,7,saA,sac,(al).length,(al).flatMap rsc⟩];refine lL hs [.m 84 8] (lC 85 hs (hPick (z132) k oM oM _ _ hs.g) ?_);rintro _ _ ym hs rfl;have lp11:=pick_lt (z132) k oM;refine lL hs [.v 86 (qP za 1)] (lP 0 1 ([nV (pick (z132) k)]) hs (fun _ hs=>lD ?_));intro a_ ka;have yn : -1≤(⟨o1,(pick (z132) k:Nat),0,0,0,false⟩:OSt).n∧(⟨o1,(pick (z132) k:Nat),0,0,0,false⟩:OSt).n≤2:=(by dsimp only;omega);replace hs:=(hs.add (K:=fun h_=>RS1 h_ (⟨o1,(pick (z132) k:Nat),0,0,(false,sZ,sZ)⟩:RSt) (⟨o1,(pick (z132) k:Nat),0,0,0,false⟩:OSt)) ⟨rfl,rfl,rfl,rfl,⟨none,0,none,0,rfl,nR _,nR _,SlO.nil,SlO.nil⟩,fun _=>rfl⟩);exact ⟨_,⟨(pick (z132) k:Nat),0,0,false,none,0,0,none,0,0,(⟨o1,(pick (z132) k:Nat),0,0,0,false⟩:OSt),at_z132,ym,rfl,hs.to _ _,⟨by dsimp only;omega,by dsimp only;omega,by dsimp only;omega,by dsimp only;omega,LQ.lit (z:=0) kD⟩,yn,haz132⟩,ka.to _ kR⟩
       have zI:=eq_of_beq zg;refine lB 80 zg (lL hs [.m 77 80] (lN (cIT (cK (cIT (kQ (lL hs [.m 82 5] (lCm 83 (rNext A0 c0 zs hl0 hz0 b4 at_z64 oM _ _ hs.g (hs.own 2) (hs.jk 2) hs.f.2.1) ?_))))))));rintro _ _ _ u146 ⟨z143,at_z143,rfl,haz143,hzz143,hOz143⟩;replace hs:=(hs.stepM 2 u146 hOz143).to [⟨za,99,[iV o1,iV 0,iV 0,iV 0,qF,sZ,sZ]⟩,⟨b7,25,[iV 3,qS saA ((al).length) sac,sZ]⟩,⟨b4,103,[qS A0 zs.length c0,nV at_z143]⟩,⟨b1,25,[iV 0,sZ,sZ]⟩] [⟨99,7,saA,sac,(al).length,(al).flatMap rsc⟩];refine lL hs [.m 84 8] (lC 85 hs (hPick (z143) k oM oM _ _ hs.g) ?_);rintro _ _ yo hs rfl;have lp13:=pick_lt (z143) k oM;refine lL hs [.v 86 (qP za 1)] (lP 0 1 ([nV (pick (z143) k)]) hs (fun _ hs=>lD ?_));intro a_ ka;have yp : -1≤(⟨o1,(pick (z143) k:Nat),0,0,0,false⟩:OSt).n∧(⟨o1,(pick (z143) k:Nat),0,0,0,false⟩:OSt).n≤2:=(by dsimp only;omega);replace hs:=(hs.add (K:=fun h_=>RS1 h_ (⟨o1,(pick (z143) k:Nat),0,0,(false,sZ,sZ)⟩:RSt) (⟨o1,(pick (z143) k:Nat),0,0,0,false⟩:OSt)) ⟨rfl,rfl,rfl,rfl,⟨none,0,none,0,rfl,nR _,nR _,SlO.nil,SlO.nil⟩,fun _=>rfl⟩);exact ⟨_,⟨(pick (z143) k:Nat),0,0,false,none,0,0,none,0,0,(⟨o1,(pick (z143) k:Nat),0,0,0,false⟩:OSt),at_z143,yo,rfl,hs.to _ _,⟨by dsimp only;omega,by dsimp only;omega,by dsimp only;omega,by dsimp only;omega,LQ.lit (z:=0) kD⟩,yp,haz143⟩,ka.to _ kR⟩
      have zH:=eq_of_beq zf;refine lB 79 zf (lL hs [.m 77 79] (lN (cIT (cK (cIT (kQ (lL hs [.m 82 5] (lCm 83 (rNext A0 c0 zs hl0 hz0 b4 at_z64 oM _ _ hs.g (hs.own 2) (hs.jk 2) hs.f.2.1) ?_))))))));rintro _ _ _ u157 ⟨z154,at_z154,rfl,haz154,hzz154,hOz154⟩;replace hs:=(hs.stepM 2 u157 hOz154).to [⟨za,99,[iV o1,iV 0,iV 0,iV 0,qF,sZ,sZ]⟩,⟨b7,25,[iV 3,qS saA ((al).length) sac,sZ]⟩,⟨b4,103,[qS A0 zs.length c0,nV at_z154]⟩,⟨b1,25,[iV 0,sZ,sZ]⟩] [⟨99,7,saA,sac,(al).length,(al).flatMap rsc⟩];refine lL hs [.m 84 8] (lC 85 hs (hPick (z154) k oM oM _ _ hs.g) ?_);rintro _ _ yq hs rfl;have lp15:=pick_lt (z154) k oM;refine lL hs [.v 86 (qP za 1)] (lP 0 1 ([nV (pick (z154) k)]) hs (fun _ hs=>lD ?_));intro a_ ka;have yr : -1≤(⟨o1,(pick (z154) k:Nat),0,0,0,false⟩:OSt).n∧(⟨o1,(pick (z154) k:Nat),0,0,0,false⟩:OSt).n≤2:=(by dsimp only;omega);replace hs:=(hs.add (K:=fun h_=>RS1 h_ (⟨o1,(pick (z154) k:Nat),0,0,(false,sZ,sZ)⟩:RSt) (⟨o1,(pick (z154) k:Nat),0,0,0,false⟩:OSt)) ⟨rfl,rfl,rfl,rfl,⟨none,0,none,0,rfl,nR _,nR _,SlO.nil,SlO.nil⟩,fun _=>rfl⟩);exact ⟨_,⟨(pick (z154) k:Nat),0,0,false,none,0,0,none,0,0,(⟨o1,(pick (z154) k:Nat),0,0,0,false⟩:OSt),at_z154,yq,rfl,hs.to _ _,⟨by dsimp only;omega,by dsimp only;omega,by dsimp only;omega,by dsimp only;omega,LQ.lit (z:=0) kD⟩,yr,haz154⟩,ka.to _ kR⟩
     have zG:=eq_of_beq ze;refine lB 78 ze (lL hs [.m 77 78] (lN (cIT (cK (cIT (kQ (lL hs [.m 82 5] (lCm 83 (rNext A0 c0 zs hl0 hz0 b4 at_z64 oM _ _ hs.g (hs.own 2) (hs.jk 2) hs.f.2.1) ?_))))))));rintro _ _ _ u168 ⟨z165,at_z165,rfl,haz165,hzz165,hOz165⟩;replace hs:=(hs.stepM 2 u168 hOz165).to [⟨za,99,[iV o1,iV 0,iV 0,iV 0,qF,sZ,sZ]⟩,⟨b7,25,[iV 3,qS saA ((al).length) sac,sZ]⟩,⟨b4,103,[qS A0 zs.length c0,nV at_z165]⟩,⟨b1,25,[iV 0,sZ,sZ]⟩] [⟨99,7,saA,sac,(al).length,(al).flatMap rsc⟩];refine lL hs [.m 84 8] (lC 85 hs (hPick (z165) k oM oM _ _ hs.g) ?_);rintro _ _ ys hs rfl;have lp17:=pick_lt (z165) k oM;refine lL hs [.v 86 (qP za 1)] (lP 0 1 ([nV (pick (z165) k)]) hs (fun _ hs=>lD ?_));intro a_ ka;have yt : -1≤(⟨o1,(pick (z165) k:Nat),0,0,0,false⟩:OSt).n∧(⟨o1,(pick (z165) k:Nat),0,0,0,false⟩:OSt).n≤2:=(by dsimp only;omega);replace hs:=(hs.add (K:=fun h_=>RS1 h_ (⟨o1,(pick (z165) k:Nat),0,0,(false,sZ,sZ)⟩:RSt) (⟨o1,(pick (z165) k:Nat),0,0,0,false⟩:OSt)) ⟨rfl,rfl,rfl,rfl,⟨none,0,none,0,rfl,nR _,nR _,SlO.nil,SlO.nil⟩,fun _=>rfl⟩);exact ⟨_,⟨(pick (z165) k:Nat),0,0,false,none,0,0,none,0,0,(⟨o1,(pick (z165) k:Nat),0,0,0,false⟩:OSt),at_z165,ys,rfl,hs.to _ _,⟨by dsimp only;omega,by dsimp only;omega,by dsimp only;omega,by dsimp only;omega,LQ.lit (z:=0) kD⟩,yt,haz165⟩,ka.to _ kR⟩
    have zF:=eq_of_beq zd;refine lB 66 zd (lL hs [.m 65 66] (lN (cIT (cSL (lL hs [.m 67 5] (lCm 68 (rNext A0 c0 zs hl0 hz0 b4 at_z64 oM _ _ hs.g (hs.own 2) (hs.jk 2) hs.f.2.1) ?_))))));rintro _ _ _ u179 ⟨z176,at_z176,rfl,haz176,hzz176,hOz176⟩;replace hs:=(hs.stepM 2 u179 hOz176).to [⟨za,99,[iV o1,iV 0,iV 0,iV 0,qF,sZ,sZ]⟩,⟨b7,25,[iV 3,qS saA ((al).length) sac,sZ]⟩,⟨b4,103,[qS A0 zs.length c0,nV at_z176]⟩,⟨b1,25,[iV 0,sZ,sZ]⟩] [⟨99,7,saA,sac,(al).length,(al).flatMap rsc⟩];refine lL hs [.m 69 8] (lC 70 hs (hPick (z176) k oM oM _ _ hs.g) ?_);rintro _ _ _ hs rfl;have lp19:=pick_lt (z176) k oM;refine lL hs [.v 71 (qP za 1)] (lP 0 1 ([nV (pick (z176) k)]) hs (fun _ hs=>lN (kQ (lL hs [.m 72 5] (lCm 73 (rNext A0 c0 zs hl0 hz0 b4 at_z176 oM _ _ hs.g (hs.own 2) (hs.jk 2) hs.f.2.1) ?_)))));rintro _ _ _ u186 ⟨z183,at_z183,rfl,haz183,hzz183,hOz183⟩;replace hs:=(hs.stepM 2 u186 hOz183).to [⟨za,99,[iV o1,nV (pick (z176) k),iV 0,iV 0,qF,sZ,sZ]⟩,⟨b7,25,[iV 3,qS saA ((al).length) sac,sZ]⟩,⟨b4,103,[qS A0 zs.length c0,nV at_z183]⟩,⟨b1,25,[iV 0,sZ,sZ]⟩] [⟨99,7,saA,sac,(al).length,(al).flatMap rsc⟩];refine lC 74 hs (hPick (z183) 4 oM oM _ _ hs.g) ?_;rintro _ _ yu hs rfl;have lp21:=pick_lt (z183) 4 oM;refine lI 75 ((pick (z183) 4:Nat)-1) (lL hs [.v 76 (qP za 3)] (lP 0 3 ([iV ((pick (z183) 4:Nat)-1)]) hs (fun _ hs=>lD ?_)));intro a_ ka;have yv : -1≤(⟨o1,(pick (z176) k:Nat),0,(pick (z183) 4:Nat)-1,0,false⟩:OSt).n∧(⟨o1,(pick (z176) k:Nat),0,(pick (z183) 4:Nat)-1,0,false⟩:OSt).n≤2:=(by dsimp only;omega);replace hs:=(hs.add (K:=fun h_=>RS1 h_ (⟨o1,(pick (z176) k:Nat),0,((pick (z183) 4:Nat)-1),(false,sZ,sZ)⟩:RSt) (⟨o1,(pick (z176) k:Nat),0,(pick (z183) 4:Nat)-1,0,false⟩:OSt)) ⟨rfl,rfl,rfl,rfl,⟨none,0,none,0,rfl,nR _,nR _,SlO.nil,SlO.nil⟩,fun _=>rfl⟩);exact ⟨_,⟨(pick (z176) k:Nat),0,(pick (z183) 4:Nat)-1,false,none,0,0,none,0,0,(⟨o1,(pick (z176) k:Nat),0,(pick (z183) 4:Nat)-1,0,false⟩:OSt),at_z183,yu,rfl,hs.to _ _,⟨by dsimp only;omega,by dsimp only;omega,by dsimp only;omega,by dsimp only;omega,LQ.lit (z:=0) kD⟩,yv,haz183⟩,ka.to _ kR⟩
   have zE:=eq_of_beq zc;refine lB 60 zc (lL hs [.m 59 60] (lN (cIT (kQ (lL hs [.m 61 5] (lCm 62 (rNext A0 c0 zs hl0 hz0 b4 at_z64 oM _ _ hs.g (hs.own 2) (hs.jk 2) hs.f.2.1) ?_))))));rintro _ _ _ u197 ⟨z194,at_z194,rfl,haz194,hzz194,hOz194⟩;replace hs:=(hs.stepM 2 u197 hOz194).to [⟨za,99,[iV o1,iV 0,iV 0,iV 0,qF,sZ,sZ]⟩,⟨b7,25,[iV 3,qS saA ((al).length) sac,sZ]⟩,⟨b4,103,[qS A0 zs.length c0,nV at_z194]⟩,⟨b1,25,[iV 0,sZ,sZ]⟩] [⟨99,7,saA,sac,(al).length,(al).flatMap rsc⟩];refine lC 63 hs (hPick (z194) 3 oM oM _ _ hs.g) ?_;rintro _ _ yw hs rfl;have lp23:=pick_lt (z194) 3 oM;refine lL hs [.v 64 (qP za 3)] (lP 0 3 ([nV (pick (z194) 3)]) hs (fun _ hs=>lD ?_));intro a_ ka;have yx : -1≤(⟨o1,0,0,(pick (z194) 3:Nat),0,false⟩:OSt).n∧(⟨o1,0,0,(pick (z194) 3:Nat),0,false⟩:OSt).n≤2:=(by dsimp only;omega);replace hs:=(hs.add (K:=fun h_=>RS1 h_ (⟨o1,0,0,(pick (z194) 3:Nat),(false,sZ,sZ)⟩:RSt) (⟨o1,0,0,(pick (z194) 3:Nat),0,false⟩:OSt)) ⟨rfl,rfl,rfl,rfl,⟨none,0,none,0,rfl,nR _,nR _,SlO.nil,SlO.nil⟩,fun _=>rfl⟩);exact ⟨_,⟨0,0,(pick (z194) 3:Nat),false,none,0,0,none,0,0,(⟨o1,0,0,(pick (z194) 3:Nat),0,false⟩:OSt),at_z194,yw,rfl,hs.to _ _,⟨by dsimp only;omega,by dsimp only;omega,by dsimp only;omega,by dsimp only;omega,LQ.lit (z:=0) kD⟩,yx,haz194⟩,ka.to _ kR⟩
  have zD:=eq_of_beq zb;refine lB 54 zb (lL hs [.m 53 54] (lN (cIT (kQ (lL hs [.m 55 5] (lCm 56 (rNext A0 c0 zs hl0 hz0 b4 at_z64 oM _ _ hs.g (hs.own 2) (hs.jk 2) hs.f.2.1) ?_))))));rintro _ _ _ u208 ⟨z205,at_z205,rfl,haz205,hzz205,hOz205⟩;replace hs:=(hs.stepM 2 u208 hOz205).to [⟨za,99,[iV o1,iV 0,iV 0,iV 0,qF,sZ,sZ]⟩,⟨b7,25,[iV 3,qS saA ((al).length) sac,sZ]⟩,⟨b4,103,[qS A0 zs.length c0,nV at_z205]⟩,⟨b1,25,[iV 0,sZ,sZ]⟩] [⟨99,7,saA,sac,(al).length,(al).flatMap rsc⟩];refine lC 57 hs (hR z205 hzz205.1 hzz205.2 _ _ hs.g) ?_;rintro _ _ yA hs ⟨zu,zv,zw,zx,rfl,zT,zU,zW,zX⟩;replace hs:=hs.aP zW zX;refine lL hs [.v 58 (qP za 4)] (lP 0 4 (rqx (handRq z205) zu zv zw zx) hs (fun _ hs=>lD ?_));intro a_ ka;have yB : -1≤(⟨o1,0,0,0,handRq z205,true⟩:OSt).n∧(⟨o1,0,0,0,handRq z205,true⟩:OSt).n≤2:=(by dsimp only;omega);replace hs:=(hs.tl.tl.add (K:=fun h_=>RS1 h_ (⟨o1,0,0,0,((ineg (handRq z205).num),qS zu ((lim (iabs (handRq z205).num)).length) zv,qS zw ((lim (handRq z205).den).length) zx)⟩:RSt) (⟨o1,0,0,0,handRq z205,true⟩:OSt)) ⟨rfl,rfl,rfl,rfl,⟨_,_,_,_,rfl,zT,zU,hs.f.2.1,hs.f.1⟩,fun h_=>(by cases h_)⟩);exact ⟨_,⟨0,0,0,ineg (handRq z205).num,zu,(lim (iabs (handRq z205).num)).length,zv,zw,(lim (handRq z205).den).length,zx,(⟨o1,0,0,0,handRq z205,true⟩:OSt),at_z205,yA,rfl,hs.to _ _,⟨by dsimp only;omega,by dsimp only;omega,by dsimp only;omega,by dsimp only;omega,LQ.hand _⟩,yB,haz205⟩,ka.to _ kR⟩
 rintro _ _ ⟨sa_,sb_,sn_,tb_,tA_,tn_,tc_,tD_,tm_,td_,o_,at3,_,rfl,hs,hmo1,hpn,hat3⟩;refine kQ (lL hs [.v 87 (qP b7 1),.o 88 (qS saA ((al).length) sac) 1 1 1,.o 89 (.agg #[iV o1,iV sa_,iV sb_,iV sn_,.bool tb_,qS tA_ tn_ tc_,qS tD_ tm_ td_]) 0 0 7] (lR 90 99 1 ([iV o1,iV sa_,iV sb_,iV sn_,.bool tb_,qS tA_ tn_ tc_,qS tD_ tm_ td_]) hs (fun yC _ _ hs=>lY 91 0 99 7 sac saA al rsc (⟨o1,sa_,sb_,sn_,(tb_,qS tA_ tn_ tc_,qS tD_ tm_ td_)⟩:RSt) 88 yC (.agg #[iV 0,iV 0,iV 0,iV 0,qF,sZ,sZ]) hs hs.f.1 (fun zK zL _ yD hs=>lL hs [.v 92 (qP b7 1)] (lP 1 1 ([qS zK ((al++[(⟨o1,sa_,sb_,sn_,(tb_,qS tA_ tn_ tc_,qS tD_ tm_ td_)⟩:RSt)]).length) zL]) hs (fun _ hs=>lN (kQ (lL hs [.m 23 8] (lIn 24 ((k:Nat)+1) (k+1) ?_)))))))));refine lL hs [.m 8 24] (lD ?_);intro a_ ka;replace hs:=(hs.tl.tl.tl.add (K:=fun h_=>RSs h_ (al++[(⟨o1,sa_,sb_,sn_,(tb_,qS tA_ tn_ tc_,qS tD_ tm_ td_)⟩:RSt)]) (ss++[o_])) ((hs.f.r.1).snoc hs.f.2.1));replace hs:=hs.drop 1 0;refine ⟨_,_,?_,⟨k+1,zK,zL,al++[(⟨o1,sa_,sb_,sn_,(tb_,qS tA_ tn_ tc_,qS tD_ tm_ td_)⟩:RSt)],ss++[o_],at3,yD,rfl,rfl,hs.to _ _,oM,hat3,(by simp;omega),(fun h_=>absurd h_ oM),(hSm.snoc hmo1),(hPw.snoc hpn)⟩,ka.to _ kR⟩
 omega
theorem hPickX (n:Int)(m:Nat)(hm:0<m)(hm2:m<1000000)(w:World)(h:Hp)(g:G w h):CR 35 #[iV n,nV m] w h (fun v _=>∃ p:Nat,v=nV p∧p<m):=by
  refine (hPick n m hm hm2 w h g).mono ?_;rintro _ w' ⟨_,h',rfl,u,rfl⟩;exact ⟨_,h',rfl,u,_,rfl,pick_lt n m hm⟩
theorem rs_one {h:Hp}{ts:List RSt}{ss:List OSt}(x:RSs h ts ss):∀ t∈ts,(rsc t).all (·.oneCell')=true:=fun t ht=>by
  obtain ⟨i,hi,e⟩:=List.mem_iff_getElem.1 ht;have h1:=x.at_ i (by rw[←x.len];exact hi);obtain ⟨A,c,D,d,e1,_⟩:=h1.q;have e2:ts.getD i rst0=t:=by simp[hi,e]
  rw[e2] at e1
  unfold rtv at e1
  injection e1 with e1
  simp only[Array.mk.injEq,List.cons.injEq,and_true] at e1
  obtain ⟨_,e3,e4⟩:=e1
  unfold rsc
  rw[e3,e4]
  rfl
theorem mSpoiltT (inp:Int)(A:Option Addr)(c:Nat)(ts:List RSt)(ss:List OSt)(O:Option Addr)(d:Nat)(os:List Int)(way at_ by_:Int)(hp0:0<ss.length)(m:Nat)(hm:m≤20)(hl:ss.length≤m)(hP:PwS ss)(ho0:0<os.length)(hol:os.length≤2)(hS:OSms ss)(w:World)(h:Hp)(g:G w h)(hA:SlO 7 rsc rst0 h A ts)(hT:RSs h ts ss)(hO:Si O os h):CR 8 #[.agg #[iV inp,.slice A ts.length c,.slice O os.length d],iV way,iV at_,iV by_] w h (fun v h1=>∃ (inp2:Int) (A c O d:_),∃ ts2:List RSt,∃ ss2:List OSt,∃ os2:List Int,v=.agg #[iV inp2,.slice A ts2.length c,.slice O os2.length d]∧SlO 7 rsc rst0 h1 A ts2∧RSs h1 ts2 ss2∧Si O os2 h1∧OSms ss2∧ss2.length≤m∧os2.length≤3∧0<ss2.length∧0<os2.length∧∃ z,PwZ z ss2):=by
 have hs:=((((sS g).aS hA).add (K:=fun h_=>RSs h_ ts ss) hT).aS hO);have hlt:=(hs.f.2.1).len;refine go Tryz.func8 [(0,.agg #[iV inp,qS A ts.length c,qS O os.length d]),(1,iV way),(2,iV at_),(3,iV by_)] rfl (cSL (lA 4 25 ([iV inp,qS A ts.length c,qS O os.length d]) hs (fun b1 w2 h3 hs=>lA 8 25 ([iV 0,sZ,sZ]) hs (fun b4 w5 h6 hs=>lNS (lR 10 99 0 ([]) hs (fun b7 w8 h9 hs=>lL hs [.v 11 (qP b1 1),.o 12 (qS A ts.length c) 1 1 1] (lYz 13 99 7 rsc rst0 b7 A ts c 88 (.agg #[iV 0,iV 0,iV 0,iV 0,qF,sZ,sZ]) hs hs.f.r.2.1 oM (rs_one hs.f.r.1) (fun zc zb _ _ hs=>lL hs [.v 14 (qP b1 1)] (lP 1 1 ([qS zc ((ts).length) zb]) hs (fun _ hs=>lNS (lL hs [.m 15 3,.v 16 (qP b1 1),.o 17 (qS zc ((ts).length) zb) 1 1 1,.v 18 (nV ((ts).length))] (lIn 19 (((ts).length:Nat)+17) (((ts).length)+17) ?_))))))))))));refine lC 20 hs (hPickX (by_) ((((ts).length)+17:Nat)) oM oM _ _ hs.g) ?_;rintro _ _ _ hs ⟨p17,rfl,lp17⟩;refine lI 21 ((p17:Nat)-8) (lL hs [.m 3 21] (lN (cQ (cSL (lL hs [.v 22 (qP b1 1),.o 23 (qS zc ((ts).length) zb) 1 1 1,.v 24 (nV ((ts).length))] ?_)))));cases zk:((((ts).length:Nat):Int) == (0:Int))
 ·
  have zs:=neOfBeq zk;refine lB 25 zk (lN (cIF (cK (cQ (cR 8 [] mixed hs al_nil ?_)))));refine eV 0 27 (qP b1 1) (eO 1 28 [(1,1,1)] (qS zc ((ts).length) zb) hs (eV 2 29 (iV at_) (eV 3 30 (qP b1 1) (eO 4 31 [(1,1,1)] (qS zc ((ts).length) zb) hs (eV 5 32 (nV ((ts).length)) (eC 6 33 hs (fun _ _ hs=>hPickX (at_) (((ts).length)) oM oM _ _ hs.g) ?_))))));rintro _ _ _ _ _ hs ⟨p21,rfl,lp21⟩;obtain ⟨za,zt⟩:=hs.rowA 0 (A:=zc) (c:=zb) (m:=(ts).length) (ty:=99) (sz:=7) (cs:=(ts).flatMap rsc) oM;subst zt;refine eX 7 34 (sB za) ((ts).length) zb 7 (p21:Nat) p21 rfl (eD0 hs (fun _ _ hs=>tV 8 9 (qP za (0+p21*7)) (tN (cQ (cSL (lL hs [.m 35 1] (lC 36 hs (hPickX (way) (12) oM oM _ _ hs.g) ?_)))))));rintro _ _ _ hs ⟨p28,rfl,lp28⟩;refine lN (kZ (cSL ?_));cases zl:((p28:Int) == (0:Int))
  ·
   have zu:=neOfBeq zl;refine lB 38 zl (lL hs [.m 37 38] (lN (cIF (cSL ?_))));cases zm:((p28:Int) == (1:Int))
   ·
    have zv:=neOfBeq zm;refine lB 44 zm (lL hs [.m 43 44] (lN (cIF (cSL ?_))));cases zn:((p28:Int) == (2:Int))
    ·
     have zw:=neOfBeq zn;refine lB 50 zn (lL hs [.m 49 50] (lN (cIF (cSL ?_))));cases zo:((p28:Int) == (3:Int))
     ·
      have zx:=neOfBeq zo;refine lB 56 zo (lL hs [.m 55 56] (lN (cTo [(3,iV ((p17:Nat)-8)),(4,pB b1),(8,pB b4),(9,qP za (0+p21*7)),(36,nV p28),(55,qF)] ?_)));refine cIF (cSL ?_);cases zp:((p28:Int) == (4:Int))
      ·
       have zA:=neOfBeq zp;refine lB 62 zp (lL hs [.m 61 62] (lN (cIF (cSL ?_))));cases zq:((p28:Int) == (5:Int))
       ·
        have zB:=neOfBeq zq;refine lB 69 zq (lL hs [.m 68 69] (lN (cIF (cSL ?_))));cases zr:((p28:Int) == (6:Int))
        ·
         have zD:=neOfBeq zr;refine lB 73 zr (lL hs [.m 72 73] (lN (cIF (cK (cSL ?_)))));obtain ⟨_,hs,hc39⟩:=hs.pubr 0 (A:=sB za) (c:=zb) (l:=ts) (f:=rsc) (ty:=99) (sz:=7) rst0 (fun _=>rfl);exact lL hs [.o 82 (.agg #[iV inp,qS (sB za) ((ts).length) zb,qS O os.length d]) 1 0 3] (lP 0 0 ([iV inp,qS (sB za) ((ts).length) zb,qS O os.length d]) hs (fun _ hs=>lN (kX (hs.ret [(0,0,3)] (.agg #[iV inp,qS (sB za) ((ts).length) zb,qS O os.length d]) (⟨inp,(sB za),zb,O,d,ts,ss,os,by first|rfl|(rw[List.length_set]),hs.f.1,hs.f.r.2.1,hs.f.r.1,hS,by first|omega|(simp;done)|(simp;omega),by first|omega|(simp;done)|(simp;omega),by first|omega|(simp;done)|(simp;omega),by first|omega|(simp;done)|(simp;omega),⟨0,hP.z 0⟩⟩)))))
        have zD:=eq_of_beq zr;refine lB 73 zr (lL hs [.m 72 73] (lN (cIT (kQ (lR 74 3 0 ([]) hs (fun zI _ _ hs=>lL hs [.v 75 (qP b1 2),.o 76 (qS O os.length d) 1 2 1] (lYz 77 3 1 i64c 0 zI O os d 8 (iV 0) hs hs.f.r.1 oM (fun _ _=>by kernel_rfl) (fun zJ zK _ _ hs=>lL hs [.m 78 3] (lR 79 3 1 ([iV ((p17:Nat)-8)]) hs (fun zL _ _ hs=>lY 80 0 3 1 zK zJ os i64c ((p17:Nat)-8:Int) 8 zL (iV 0) hs hs.f.1 (fun zi zj _ _ hs=>lL hs [.v 81 (qP b1 2)] (lP 1 2 ([qS zi ((os++[((p17:Nat)-8:Int)]).length) zj]) hs (fun _ hs=>lNS ?_)))))))))))));obtain ⟨_,hs,hc62⟩:=hs.pubr 1 (A:=sB za) (c:=zb) (l:=ts) (f:=rsc) (ty:=99) (sz:=7) rst0 (fun _=>rfl);obtain ⟨_,hs,hc65⟩:=hs.pubr 0 (A:=zi) (c:=zj) (l:=os++[((p17:Nat)-8:Int)]) (f:=i64c) (ty:=3) (sz:=1) 0 (fun _=>rfl);exact lL hs [.o 82 (.agg #[iV inp,qS (sB za) ((ts).length) zb,qS zi ((os++[((p17:Nat)-8:Int)]).length) zj]) 1 0 3] (lP 0 0 ([iV inp,qS (sB za) ((ts).length) zb,qS zi ((os++[((p17:Nat)-8:Int)]).length) zj]) hs (fun _ hs=>lN (kX (hs.ret [(0,0,3)] (.agg #[iV inp,qS (sB za) ((ts).length) zb,qS zi ((os++[((p17:Nat)-8:Int)]).length) zj]) (⟨inp,(sB za),zb,zi,zj,ts,ss,os++[((p17:Nat)-8:Int)],by first|rfl|(rw[List.length_set]),hs.f.2.1,hs.f.q.r.1,hs.f.1,hS,by first|omega|(simp;done)|(simp;omega),by first|omega|(simp;done)|(simp;omega),by first|omega|(simp;done)|(simp;omega),by first|omega|(simp;done)|(simp;omega),⟨0,hP.z 0⟩⟩)))))
       have zB:=eq_of_beq zq;refine lB 69 zq (lL hs [.m 68 69] (lN (cIT (kQ (lL hs [.m 70 3,.v 71 (pB b1)] (lP 1 0 ([iV ((p17:Nat)-8)]) hs (fun _ hs=>lNS ?_)))))));obtain ⟨_,hs,hc70⟩:=hs.pubr 0 (A:=sB za) (c:=zb) (l:=ts) (f:=rsc) (ty:=99) (sz:=7) rst0 (fun _=>rfl);exact lL hs [.o 82 (.agg #[iV ((p17:Nat)-8),qS (sB za) ((ts).length) zb,qS O os.length d]) 1 0 3] (lP 0 0 ([iV ((p17:Nat)-8),qS (sB za) ((ts).length) zb,qS O os.length d]) hs (fun _ hs=>lN (kX (hs.ret [(0,0,3)] (.agg #[iV ((p17:Nat)-8),qS (sB za) ((ts).length) zb,qS O os.length d]) (⟨(p17:Nat)-8,(sB za),zb,O,d,ts,ss,os,by first|rfl|(rw[List.length_set]),hs.f.1,hs.f.r.2.1,hs.f.r.1,hS,by first|omega|(simp;done)|(simp;omega),by first|omega|(simp;done)|(simp;omega),by first|omega|(simp;done)|(simp;omega),by first|omega|(simp;done)|(simp;omega),⟨0,hP.z 0⟩⟩)))))
      have zA:=eq_of_beq zp;refine lB 62 zp (lL hs [.m 61 62] (lN (cIT (kQ (lL hs [.m 63 9,.m 64 3] (lC 65 hs (rOf ((p17:Nat)-8) oM oM _ _ hs.g) ?_))))));rintro _ _ _ hs ⟨zd,ze,zf,zg,rfl,zE,zF,zG,zH⟩;replace hs:=hs.aP zG zH;refine lL hs [.v 66 (qP za (0+p21*7)),.v 67 (qP za (0+p21*7+4))] (lRs (ty:=99) (c:=zb) (b:=za) 0 p21 4 (rqx (((p17:Nat)-8:Int):Rat) zd ze zf zg) ts rsc 7 rst0 ({ (ts.getD p21 rst0) with t:=(ineg (((p17:Nat)-8:Int):Rat).num,qS zd ((lim (iabs (((p17:Nat)-8:Int):Rat).num)).length) ze,qS zf ((lim (((p17:Nat)-8:Int):Rat).den).length) zg) }:RSt) hs oM (fun _ hs=>?_));replace hs:=hs.to [⟨b4,25,[iV 0,sZ,sZ]⟩,⟨b1,25,[iV inp,qS (sB za) ((ts).length) zb,qS O os.length d]⟩] [⟨99,7,sB za,zb,(ts).length,(ts.set p21 ({ (ts.getD p21 rst0) with t:=(ineg (((p17:Nat)-8:Int):Rat).num,qS zd ((lim (iabs (((p17:Nat)-8:Int):Rat).num)).length) ze,qS zf ((lim (((p17:Nat)-8:Int):Rat).den).length) zg) }:RSt)).flatMap rsc⟩];refine lNS ?_;replace hs:=hs.rown [⟨99,7,sB za,zb,(ts.set p21 ({ (ts.getD p21 rst0) with t:=(ineg (((p17:Nat)-8:Int):Rat).num,qS zd ((lim (iabs (((p17:Nat)-8:Int):Rat).num)).length) ze,qS zf ((lim (((p17:Nat)-8:Int):Rat).den).length) zg) }:RSt)).length,(ts.set p21 ({ (ts.getD p21 rst0) with t:=(ineg (((p17:Nat)-8:Int):Rat).num,qS zd ((lim (iabs (((p17:Nat)-8:Int):Rat).num)).length) ze,qS zf ((lim (((p17:Nat)-8:Int):Rat).den).length) zg) }:RSt)).flatMap rsc⟩] (by simp only[List.length_set]);obtain ⟨_,hs,hc85⟩:=hs.pubr 0 (A:=sB za) (c:=zb) (l:=ts.set p21 ({ (ts.getD p21 rst0) with t:=(ineg (((p17:Nat)-8:Int):Rat).num,qS zd ((lim (iabs (((p17:Nat)-8:Int):Rat).num)).length) ze,qS zf ((lim (((p17:Nat)-8:Int):Rat).den).length) zg) }:RSt)) (f:=rsc) (ty:=99) (sz:=7) rst0 (fun _=>rfl);exact lL hs [.o 82 (.agg #[iV inp,qS (sB za) ((ts).length) zb,qS O os.length d]) 1 0 3] (lP 0 0 ([iV inp,qS (sB za) ((ts).length) zb,qS O os.length d]) hs (fun _ hs=>lN (kX (hs.ret [(0,0,3)] (.agg #[iV inp,qS (sB za) ((ts).length) zb,qS O os.length d]) (⟨inp,(sB za),zb,O,d,ts.set p21 ({ (ts.getD p21 rst0) with t:=(ineg (((p17:Nat)-8:Int):Rat).num,qS zd ((lim (iabs (((p17:Nat)-8:Int):Rat).num)).length) ze,qS zf ((lim (((p17:Nat)-8:Int):Rat).den).length) zg) }:RSt),ss.set p21 ({ (ss.getD p21 ost0) with q:=(((p17:Nat)-8:Int):Rat),has:=true }:OSt),os,by first|rfl|(rw[List.length_set]),hs.f.1,((hs.f.q.2.1).set p21 ⟨((hs.f.q.2.1).at_ p21 oM).op,((hs.f.q.2.1).at_ p21 oM).a,((hs.f.q.2.1).at_ p21 oM).b,((hs.f.q.2.1).at_ p21 oM).n,⟨_,_,_,_,rfl,zE,zF,hs.f.r.1,hs.f.2.1⟩,fun h_=>(by cases h_)⟩),hs.f.q.1,(hS.set p21 ⟨(hS p21 oM).op,(hS p21 oM).a,(hS p21 oM).b,(hS p21 oM).n,LQ.int oM oM⟩),by first|omega|(simp;done)|(simp;omega),by first|omega|(simp;done)|(simp;omega),by first|omega|(simp;done)|(simp;omega),by first|omega|(simp;done)|(simp;omega),⟨_,hP.set _ _⟩⟩)))))
     have zx:=eq_of_beq zo;refine lB 56 zo (lL hs [.m 55 56] (lN (cTo [(3,iV ((p17:Nat)-8)),(4,pB b1),(8,pB b4),(9,qP za (0+p21*7)),(36,nV p28),(55,qT)] ?_)));refine cIT (kQ (lL hs [.m 57 9,.m 58 3,.v 59 (qP za (0+p21*7)),.v 60 (qP za (0+p21*7+3))] (lRs (ty:=99) (c:=zb) (b:=za) 0 p21 3 ([iV ((p17:Nat)-8)]) ts rsc 7 rst0 ({ (ts.getD p21 rst0) with n:=(p17:Nat)-8 }:RSt) hs oM (fun _ hs=>?_))));replace hs:=hs.to [⟨b4,25,[iV 0,sZ,sZ]⟩,⟨b1,25,[iV inp,qS (sB za) ((ts).length) zb,qS O os.length d]⟩] [⟨99,7,sB za,zb,(ts).length,(ts.set p21 ({ (ts.getD p21 rst0) with n:=(p17:Nat)-8 }:RSt)).flatMap rsc⟩];refine lNS ?_;replace hs:=hs.rown [⟨99,7,sB za,zb,(ts.set p21 ({ (ts.getD p21 rst0) with n:=(p17:Nat)-8 }:RSt)).length,(ts.set p21 ({ (ts.getD p21 rst0) with n:=(p17:Nat)-8 }:RSt)).flatMap rsc⟩] (by simp only[List.length_set]);obtain ⟨_,hs,hc90⟩:=hs.pubr 0 (A:=sB za) (c:=zb) (l:=ts.set p21 ({ (ts.getD p21 rst0) with n:=(p17:Nat)-8 }:RSt)) (f:=rsc) (ty:=99) (sz:=7) rst0 (fun _=>rfl);exact lL hs [.o 82 (.agg #[iV inp,qS (sB za) ((ts).length) zb,qS O os.length d]) 1 0 3] (lP 0 0 ([iV inp,qS (sB za) ((ts).length) zb,qS O os.length d]) hs (fun _ hs=>lN (kX (hs.ret [(0,0,3)] (.agg #[iV inp,qS (sB za) ((ts).length) zb,qS O os.length d]) (⟨inp,(sB za),zb,O,d,ts.set p21 ({ (ts.getD p21 rst0) with n:=(p17:Nat)-8 }:RSt),ss.set p21 ({ (ss.getD p21 ost0) with n:=(p17:Nat)-8 }:OSt),os,by first|rfl|(rw[List.length_set]),hs.f.1,((hs.f.r.2.1).set p21 ⟨((hs.f.r.2.1).at_ p21 oM).op,((hs.f.r.2.1).at_ p21 oM).a,((hs.f.r.2.1).at_ p21 oM).b,rfl,((hs.f.r.2.1).at_ p21 oM).q,((hs.f.r.2.1).at_ p21 oM).z⟩),hs.f.r.1,(hS.set p21 ⟨(hS p21 oM).op,(hS p21 oM).a,(hS p21 oM).b,(by dsimp only;omega),(hS p21 oM).q⟩),by first|omega|(simp;done)|(simp;omega),by first|omega|(simp;done)|(simp;omega),by first|omega|(simp;done)|(simp;omega),by first|omega|(simp;done)|(simp;omega),⟨_,hP.set _ _⟩⟩)))))
    have zw:=eq_of_beq zn;refine lB 50 zn (lL hs [.m 49 50] (lN (cIT (kQ (lL hs [.m 51 9,.m 52 3,.v 53 (qP za (0+p21*7)),.v 54 (qP za (0+p21*7+2))] (lRs (ty:=99) (c:=zb) (b:=za) 0 p21 2 ([iV ((p17:Nat)-8)]) ts rsc 7 rst0 ({ (ts.getD p21 rst0) with b:=(p17:Nat)-8 }:RSt) hs oM (fun _ hs=>?_)))))));replace hs:=hs.to [⟨b4,25,[iV 0,sZ,sZ]⟩,⟨b1,25,[iV inp,qS (sB za) ((ts).length) zb,qS O os.length d]⟩] [⟨99,7,sB za,zb,(ts).length,(ts.set p21 ({ (ts.getD p21 rst0) with b:=(p17:Nat)-8 }:RSt)).flatMap rsc⟩];refine lN (cTo [(4,pB b1),(8,pB b4)] ?_);refine cSL ?_;replace hs:=hs.rown [⟨99,7,sB za,zb,(ts.set p21 ({ (ts.getD p21 rst0) with b:=(p17:Nat)-8 }:RSt)).length,(ts.set p21 ({ (ts.getD p21 rst0) with b:=(p17:Nat)-8 }:RSt)).flatMap rsc⟩] (by simp only[List.length_set]);obtain ⟨_,hs,hc95⟩:=hs.pubr 0 (A:=sB za) (c:=zb) (l:=ts.set p21 ({ (ts.getD p21 rst0) with b:=(p17:Nat)-8 }:RSt)) (f:=rsc) (ty:=99) (sz:=7) rst0 (fun _=>rfl);exact lL hs [.o 82 (.agg #[iV inp,qS (sB za) ((ts).length) zb,qS O os.length d]) 1 0 3] (lP 0 0 ([iV inp,qS (sB za) ((ts).length) zb,qS O os.length d]) hs (fun _ hs=>lN (kX (hs.ret [(0,0,3)] (.agg #[iV inp,qS (sB za) ((ts).length) zb,qS O os.length d]) (⟨inp,(sB za),zb,O,d,ts.set p21 ({ (ts.getD p21 rst0) with b:=(p17:Nat)-8 }:RSt),ss.set p21 ({ (ss.getD p21 ost0) with b:=(p17:Nat)-8 }:OSt),os,by first|rfl|(rw[List.length_set]),hs.f.1,((hs.f.r.2.1).set p21 ⟨((hs.f.r.2.1).at_ p21 oM).op,((hs.f.r.2.1).at_ p21 oM).a,rfl,((hs.f.r.2.1).at_ p21 oM).n,((hs.f.r.2.1).at_ p21 oM).q,((hs.f.r.2.1).at_ p21 oM).z⟩),hs.f.r.1,(hS.set p21 ⟨(hS p21 oM).op,(hS p21 oM).a,(by dsimp only;omega),(hS p21 oM).n,(hS p21 oM).q⟩),by first|omega|(simp;done)|(simp;omega),by first|omega|(simp;done)|(simp;omega),by first|omega|(simp;done)|(simp;omega),by first|omega|(simp;done)|(simp;omega),⟨_,hP.set _ _⟩⟩)))))
   have zv:=eq_of_beq zm;refine lB 44 zm (lL hs [.m 43 44] (lN (cIT (kQ (lL hs [.m 45 9,.m 46 3,.v 47 (qP za (0+p21*7)),.v 48 (qP za (0+p21*7+1))] (lRs (ty:=99) (c:=zb) (b:=za) 0 p21 1 ([iV ((p17:Nat)-8)]) ts rsc 7 rst0 ({ (ts.getD p21 rst0) with a:=(p17:Nat)-8 }:RSt) hs oM (fun _ hs=>?_)))))));replace hs:=hs.to [⟨b4,25,[iV 0,sZ,sZ]⟩,⟨b1,25,[iV inp,qS (sB za) ((ts).length) zb,qS O os.length d]⟩] [⟨99,7,sB za,zb,(ts).length,(ts.set p21 ({ (ts.getD p21 rst0) with a:=(p17:Nat)-8 }:RSt)).flatMap rsc⟩];refine lN (cTo [(4,pB b1),(8,pB b4)] ?_);refine cSL ?_;replace hs:=hs.rown [⟨99,7,sB za,zb,(ts.set p21 ({ (ts.getD p21 rst0) with a:=(p17:Nat)-8 }:RSt)).length,(ts.set p21 ({ (ts.getD p21 rst0) with a:=(p17:Nat)-8 }:RSt)).flatMap rsc⟩] (by simp only[List.length_set]);obtain ⟨_,hs,hc100⟩:=hs.pubr 0 (A:=sB za) (c:=zb) (l:=ts.set p21 ({ (ts.getD p21 rst0) with a:=(p17:Nat)-8 }:RSt)) (f:=rsc) (ty:=99) (sz:=7) rst0 (fun _=>rfl);exact lL hs [.o 82 (.agg #[iV inp,qS (sB za) ((ts).length) zb,qS O os.length d]) 1 0 3] (lP 0 0 ([iV inp,qS (sB za) ((ts).length) zb,qS O os.length d]) hs (fun _ hs=>lN (kX (hs.ret [(0,0,3)] (.agg #[iV inp,qS (sB za) ((ts).length) zb,qS O os.length d]) (⟨inp,(sB za),zb,O,d,ts.set p21 ({ (ts.getD p21 rst0) with a:=(p17:Nat)-8 }:RSt),ss.set p21 ({ (ss.getD p21 ost0) with a:=(p17:Nat)-8 }:OSt),os,by first|rfl|(rw[List.length_set]),hs.f.1,((hs.f.r.2.1).set p21 ⟨((hs.f.r.2.1).at_ p21 oM).op,rfl,((hs.f.r.2.1).at_ p21 oM).b,((hs.f.r.2.1).at_ p21 oM).n,((hs.f.r.2.1).at_ p21 oM).q,((hs.f.r.2.1).at_ p21 oM).z⟩),hs.f.r.1,(hS.set p21 ⟨(hS p21 oM).op,(by dsimp only;omega),(hS p21 oM).b,(hS p21 oM).n,(hS p21 oM).q⟩),by first|omega|(simp;done)|(simp;omega),by first|omega|(simp;done)|(simp;omega),by first|omega|(simp;done)|(simp;omega),by first|omega|(simp;done)|(simp;omega),⟨_,hP.set _ _⟩⟩)))))
  have zu:=eq_of_beq zl;refine lB 38 zl (lL hs [.m 37 38] (lN (cIT (kQ (lL hs [.m 39 9,.m 40 3,.v 41 (qP za (0+p21*7)),.v 42 (qP za (0+p21*7))] (lRs (ty:=99) (c:=zb) (b:=za) 0 p21 0 ([iV ((p17:Nat)-8)]) ts rsc 7 rst0 ({ (ts.getD p21 rst0) with op:=(p17:Nat)-8 }:RSt) hs oM (fun _ hs=>?_)))))));replace hs:=hs.to [⟨b4,25,[iV 0,sZ,sZ]⟩,⟨b1,25,[iV inp,qS (sB za) ((ts).length) zb,qS O os.length d]⟩] [⟨99,7,sB za,zb,(ts).length,(ts.set p21 ({ (ts.getD p21 rst0) with op:=(p17:Nat)-8 }:RSt)).flatMap rsc⟩];refine lNS ?_;replace hs:=hs.rown [⟨99,7,sB za,zb,(ts.set p21 ({ (ts.getD p21 rst0) with op:=(p17:Nat)-8 }:RSt)).length,(ts.set p21 ({ (ts.getD p21 rst0) with op:=(p17:Nat)-8 }:RSt)).flatMap rsc⟩] (by simp only[List.length_set]);obtain ⟨_,hs,hc105⟩:=hs.pubr 0 (A:=sB za) (c:=zb) (l:=ts.set p21 ({ (ts.getD p21 rst0) with op:=(p17:Nat)-8 }:RSt)) (f:=rsc) (ty:=99) (sz:=7) rst0 (fun _=>rfl);exact lL hs [.o 82 (.agg #[iV inp,qS (sB za) ((ts).length) zb,qS O os.length d]) 1 0 3] (lP 0 0 ([iV inp,qS (sB za) ((ts).length) zb,qS O os.length d]) hs (fun _ hs=>lN (kX (hs.ret [(0,0,3)] (.agg #[iV inp,qS (sB za) ((ts).length) zb,qS O os.length d]) (⟨inp,(sB za),zb,O,d,ts.set p21 ({ (ts.getD p21 rst0) with op:=(p17:Nat)-8 }:RSt),ss.set p21 ({ (ss.getD p21 ost0) with op:=(p17:Nat)-8 }:OSt),os,by first|rfl|(rw[List.length_set]),hs.f.1,((hs.f.r.2.1).set p21 ⟨rfl,((hs.f.r.2.1).at_ p21 oM).a,((hs.f.r.2.1).at_ p21 oM).b,((hs.f.r.2.1).at_ p21 oM).n,((hs.f.r.2.1).at_ p21 oM).q,((hs.f.r.2.1).at_ p21 oM).z⟩),hs.f.r.1,(hS.set p21 ⟨(by dsimp only;omega),(hS p21 oM).a,(hS p21 oM).b,(hS p21 oM).n,(hS p21 oM).q⟩),by first|omega|(simp;done)|(simp;omega),by first|omega|(simp;done)|(simp;omega),by first|omega|(simp;done)|(simp;omega),by first|omega|(simp;done)|(simp;omega),⟨_,hP.set _ _⟩⟩)))))
 have zs:=eq_of_beq zk;refine lB 25 zk (lN (cIT (cSL (lL hs [.o 26 (.agg #[iV inp,qS zc ((ts).length) zb,qS O os.length d]) 1 0 3] (lP 0 0 ([iV inp,qS zc ((ts).length) zb,qS O os.length d]) hs (fun _ hs=>lN (kX ?_)))))));exact absurd hp0 oM
theorem mSpoiltT0 (inp way at_ by_:Int)(w:World)(h:Hp)(g:G w h):CR 8 #[.agg #[iV inp,sZ,sZ],iV way,iV at_,iV by_] w h (fun v h1=>∃ b,v=.agg #[iV inp,.slice (sB b) 0 0,sZ]):=by
 have hs:=sS g;refine go Tryz.func8 [(0,.agg #[iV inp,sZ,sZ]),(1,iV way),(2,iV at_),(3,iV by_)] rfl (cSL (lA 4 25 ([iV inp,sZ,sZ]) hs (fun b1 w2 h3 hs=>lA 8 25 ([iV 0,sZ,sZ]) hs (fun b4 w5 h6 hs=>lNS (lR 10 99 0 ([]) hs (fun b7 w8 h9 hs=>lL hs [.v 11 (qP b1 1),.o 12 (sZ) 1 1 1,.v 13 (qS (sB b7) 0 0),.v 14 (qP b1 1)] (lP 1 1 ([qS (sB b7) 0 0]) hs (fun _ hs=>lNS (lL hs [.m 15 3,.v 16 (qP b1 1),.o 17 (qS (sB b7) 0 0) 1 1 1,.v 18 (iV 0),.v 19 (iV 17)] (lC 20 hs (hPickX (by_) (17) oM oM _ _ hs.g) ?_))))))))));rintro _ _ _ hs ⟨p12,rfl,lp12⟩;exact lI 21 ((p12:Nat)-8) (lL hs [.m 3 21] (lN (cQ (cSL (lL hs [.v 22 (qP b1 1),.o 23 (qS (sB b7) 0 0) 1 1 1,.v 24 (iV 0),.v 25 qT] (lN (cIT (cSL (lL hs [.o 26 (.agg #[iV inp,qS (sB b7) 0 0,sZ]) 1 0 3] (lP 0 0 ([iV inp,qS (sB b7) 0 0,sZ]) hs (fun _ hs=>lN (kX (hs.ret [(0,0,3)] (.agg #[iV inp,qS (sB b7) 0 0,sZ]) (⟨_,rfl⟩))))))))))))))
theorem mInTape (inp:Int)(A:Option Addr)(c:Nat)(ts:List RSt)(ss:List OSt)(O:Option Addr)(d:Nat)(os:List Int)(hl:ss.length≤20)(ho0:0<os.length)(hol:os.length≤3)(hS:OSms ss)(w:World)(h:Hp)(g:G w h)(hA:SlO 7 rsc rst0 h A ts)(hT:RSs h ts ss)(hO:Si O os h)(tb:Tab h):CR 12 #[.agg #[iV inp,.slice A ts.length c,.slice O os.length d]] w h (fun v h1=>∃ A c O d,v=.agg #[iV inp,.slice A (ss.map OSt.stp).length c,.slice O os.length d]∧SlO 9 stc stp0 h1 A (ss.map OSt.stp)∧Si O os h1):=by
 have hs:=(((((sS g).aS hA).add (K:=fun h_=>RSs h_ ts ss) hT).aS hO).aB tb);have hlt:=(hs.f.r.1).len;refine go Tryz.func12 [(0,.agg #[iV inp,qS A ts.length c,qS O os.length d])] rfl (cSL (lA 1 25 ([iV inp,qS A ts.length c,qS O os.length d]) hs (fun b1 w2 h3 hs=>lA 2 36 ([iV 0,sZ,sZ]) hs (fun b4 w5 h6 hs=>lN (cQ ?_)))));have hsr:=hs;refine cR 8 [⟨7,3,.cells (List.toArray [iV 0,sZ,sZ]) 36 (0,0)⟩] mixed hs (al_cons (alOk kR (fun _ _=>by kernel_rfl)) al_nil) (eV 0 7 (pB b1) (eO 1 8 [(1,0,1)] (iV inp) hs (eV 3 10 (qP b1 2) (eO 4 11 [(1,2,1)] (qS O os.length d) hs (eR 2 9 3 0 ([]) hs (fun b7 w8 h9 hs=>eYz 5 12 3 1 i64c 0 b7 O os d 8 (iV 0) hs (fun _ f_=>f_.2.2.1) oM (fun _ _=>by kernel_rfl) (fun za zb _ _ hs=>eV 6 13 (.agg #[iV inp,sZ,qS za ((os).length) zb]) (eD1q [] [⟨3,1,za,zb,(os).length,(os).flatMap i64c⟩] hsr hs 36 [iV 0,sZ,sZ] (fun _ zn zc hs=>tP 8 0 0 ([iV inp,sZ,qS za ((os).length) zb]) hs (fun _ hs=>tN (cQ (cSL (lL hs [.v 4 (iV 0)] (lN (kZ ?_)))))))))))))));replace hs:=hs.nil 110 9;refine cTo [(1,pB b1),(2,pB b4),(3,pB zc),(4,iV 0)] ?_;refine CG.loop (fun μ_ Γ w_=>∃ (k:Nat) (saA:Option Addr) (sac:Nat) (al:List Stp) (h_:Hp),μ_=ss.length-k∧Γ=[(1,pB b1),(2,pB b4),(3,pB zc),(4,nV k)]∧SS w h w_ h_ [⟨zc,36,[iV inp,qS saA ((al).length) sac,qS za ((os).length) zb]⟩,⟨b4,36,[iV 0,sZ,sZ]⟩,⟨b1,25,[iV inp,qS A ts.length c,qS O os.length d]⟩] [⟨110,9,saA,sac,(al).length,(al).flatMap stc⟩,⟨3,1,za,zb,(os).length,(os).flatMap i64c⟩] [fun h_=>Seg h_ b7 0 ([]),fun h_=>Tab h_,Si O os,fun h_=>RSs h_ ts ss,fun h_=>SlO 7 rsc rst0 h_ A ts]∧k≤ss.length∧al=(ss.take k).map OSt.stp) _ ⟨0,none,0,[],zn,rfl,rfl,hs.to _ _,Nat.zero_le _,rfl⟩ ?_;rintro _ _ _ ⟨k,saA,sac,al,_,hm22,rfl,hs,hk,hal⟩;have hll:al.length=k:=by rw[hal];simp;omega
 have hz0:=fun h0=>((hs.f.r.2.1).at_ k h0).z
 have hop:=odn_pos (o:=(ss.getD k ost0));refine cQ (cSL (lL hs [.m 14 4,.v 15 (qP b1 1),.o 16 (qS A ts.length c) 2 1 1,.v 17 (nV ts.length)] ?_));cases ze:(decide ((k:Int)<(ts.length:Int)))
 ·
  have zg:=oF ze;refine lB 18 ze (lN (cIF (CG.exit ?_)))
  show CG _ _ _ _ _ _ _ _
  refine cSL ?_;obtain ⟨_,hs,hc25⟩:=hs.pubr 0 (A:=saA) (c:=sac) (l:=al) (f:=stc) (ty:=110) (sz:=9) stp0 (fun _=>rfl);obtain ⟨_,hs,hc28⟩:=hs.pubr 0 (A:=za) (c:=zb) (l:=os) (f:=i64c) (ty:=3) (sz:=1) 0 (fun _=>rfl);refine lL hs [.o 50 (.agg #[iV inp,qS saA ((al).length) sac,qS za ((os).length) zb]) 0 0 3] (lP 1 0 ([iV inp,qS saA ((al).length) sac,qS za ((os).length) zb]) hs (fun _ hs=>lN (kX ?_)));have hkn:k=ss.length:=by omega
  subst hkn;rw[List.take_length] at hal
  exact hs.ret [(1,0,3)] (.agg #[iV inp,qS saA ((al).length) sac,qS za ((os).length) zb]) (⟨saA,sac,za,zb,by rw[hal],by rw[←hal];exact hs.f.2.1,hs.f.1⟩)
 have zg:=oT ze;refine lB 18 ze (lN (cIT (cK (cQ (kZ (cSL (lL hs [.v 21 (qP b1 1),.o 22 (qS A ts.length c) 2 1 1,.m 23 4] (lX 24 A ts.length c 7 (k:Nat) k ((hs.f.q.1).ok oM) ?_))))))));obtain ⟨Aqx,cqx,Dqx,dqx,eqx,hcqx,hdqx,hAqx,hDqx⟩:=((hs.f.r.2.1).at_ k oM).opn;replace hs:=hs.aP hAqx hDqx;refine lHe 25 (.agg #[iV ((ts.getD k rst0).op),iV ((ts.getD k rst0).a),iV ((ts.getD k rst0).b),iV ((ts.getD k rst0).n),.bool ((ts.getD k rst0).t.1),(ts.getD k rst0).t.2.1,(ts.getD k rst0).t.2.2]) hs ((hs.f.q.r.1).el k oM) eqx (lA 5 99 ([iV 0,iV 0,iV 0,iV 0,qF,sZ,sZ]) hs (fun zd _ _ hs=>lP 0 0 ([iV ((ss.getD k ost0).op),iV ((ss.getD k ost0).a),iV ((ss.getD k ost0).b),iV ((ss.getD k ost0).n),.bool (ineg (ss.getD k ost0).q.num),qS Aqx ((lim (iabs (ss.getD k ost0).q.num)).length) cqx,qS Dqx ((lim (odn (ss.getD k ost0))).length) dqx]) hs (fun _ hs=>lNS (lL hs [.v 26 (pB zd),.o 27 (iV ((ss.getD k ost0).op)) 0 0 1,.v 28 (qP zd 1),.o 29 (iV ((ss.getD k ost0).a)) 0 1 1,.v 30 (qP zd 2),.o 31 (iV ((ss.getD k ost0).b)) 0 2 1,.v 32 (qP zd 3),.o 33 (iV ((ss.getD k ost0).n)) 0 3 1,.v 34 (.agg #[iV ((ss.getD k ost0).op),iV ((ss.getD k ost0).a),iV ((ss.getD k ost0).b),iV ((ss.getD k ost0).n),qF,uV 0,eS,uV 0,eS])] (lA 6 110 ([iV 0,iV 0,iV 0,iV 0,qF,uV 0,eS,uV 0,eS]) hs (fun zo _ _ hs=>lP 0 0 ([iV ((ss.getD k ost0).op),iV ((ss.getD k ost0).a),iV ((ss.getD k ost0).b),iV ((ss.getD k ost0).n),qF,uV 0,eS,uV 0,eS]) hs (fun _ hs=>lN (cQ (cSL (lL hs [.v 35 (qP zd 4),.v 36 (qP zd 6),.o 37 (qS Dqx ((lim (odn (ss.getD k ost0))).length) dqx) 1 6 1,.v 38 (nV ((lim (odn (ss.getD k ost0))).length))] ?_))))))))));cases zf:(decide ((0:Int)<(((lim (odn (ss.getD k ost0))).length:Nat):Int)))
 ·
  have zi:=oF zf;refine lB 39 zf (lN (cIF (cK (kQ (lL hs [.v 44 (qP zc 1),.o 45 (qS saA ((al).length) sac) 2 1 1,.o 46 (.agg #[iV ((ss.getD k ost0).op),iV ((ss.getD k ost0).a),iV ((ss.getD k ost0).b),iV ((ss.getD k ost0).n),qF,uV 0,eS,uV 0,eS]) 0 0 9] (lR 47 110 1 ([iV ((ss.getD k ost0).op),iV ((ss.getD k ost0).a),iV ((ss.getD k ost0).b),iV ((ss.getD k ost0).n),qF,uV 0,eS,uV 0,eS]) hs (fun zp _ _ hs=>lY 48 0 110 9 sac saA al stc (⟨(ss.getD k ost0).op,(ss.getD k ost0).a,(ss.getD k ost0).b,(ss.getD k ost0).n,0⟩:Stp) 88 zp (.agg #[iV 0,iV 0,iV 0,iV 0,qF,uV 0,eS,uV 0,eS]) hs hs.f.1 (fun zj zk _ zq hs=>lL hs [.v 49 (qP zc 1)] (lP 2 1 ([qS zj ((al++[(⟨(ss.getD k ost0).op,(ss.getD k ost0).a,(ss.getD k ost0).b,(ss.getD k ost0).n,0⟩:Stp)]).length) zk]) hs (fun _ hs=>lN (kQ (lL hs [.m 19 4] (lIn 20 ((k:Nat)+1) (k+1) ?_)))))))))))));refine lL hs [.m 4 20] (lD ?_);intro a_ ka;replace hs:=hs.tl.tl.tl;replace hs:=hs.drop 2 0;refine ⟨_,_,?_,⟨k+1,zj,zk,al++[(⟨(ss.getD k ost0).op,(ss.getD k ost0).a,(ss.getD k ost0).b,(ss.getD k ost0).n,0⟩:Stp)],zq,rfl,rfl,hs.to _ _,oM,(by rw[take_snoc' ost0 oM,List.map_append,hal];first|rfl|(have hq0:(ss.getD k ost0).q=0:=hz0 oM (by cases h_:(ss.getD k ost0).has;rfl;rw[h_] at hop;have:=hop.2 rfl;omega);show _=_++[_];unfold OSt.stp;rw[hq0]))⟩,ka.to _ kR⟩
  omega
 have zi:=oT zf;refine lB 39 zf (lN (cIT (kQ (lL hs [.v 40 (qP zd 4),.o 41 (.agg #[.bool (ineg (ss.getD k ost0).q.num),qS Aqx ((lim (iabs (ss.getD k ost0).q.num)).length) cqx,qS Dqx ((lim (odn (ss.getD k ost0))).length) dqx]) 1 4 3] ?_))));have hh:(ss.getD k ost0).has=true:=odn_pos.1 oM;refine lC 42 hs (hInV (.agg #[.bool (ineg (ss.getD k ost0).q.num),qS Aqx ((lim (iabs (ss.getD k ost0).q.num)).length) cqx,qS Dqx ((lim (odn (ss.getD k ost0))).length) dqx]) (ss.getD k ost0).q ((hS k oM).q.mono oM) _ _ hs.g ⟨Aqx,cqx,Dqx,dqx,by rw[odn_has hh],hcqx,by rw[←odn_has hh];exact hdqx,hs.f.2.1,by rw[←odn_has hh];exact hs.f.1⟩ hs.f.r.2.1) ?_;rintro _ _ _ hs rfl;refine lL hs [.v 43 (qP zo 4)] (lP 0 4 (qc ((ss.getD k ost0).q)) hs (fun _ hs=>lN (kQ (lL hs [.v 44 (qP zc 1),.o 45 (qS saA ((al).length) sac) 2 1 1,.o 46 (.agg #[iV ((ss.getD k ost0).op),iV ((ss.getD k ost0).a),iV ((ss.getD k ost0).b),iV ((ss.getD k ost0).n),.bool (ineg ((ss.getD k ost0).q).num),uV (lo (iabs ((ss.getD k ost0).q).num)),.string (hi (iabs ((ss.getD k ost0).q).num)),uV (lo (qd ((ss.getD k ost0).q))),.string (hi (qd ((ss.getD k ost0).q)))]) 0 0 9] (lR 47 110 1 ([iV ((ss.getD k ost0).op),iV ((ss.getD k ost0).a),iV ((ss.getD k ost0).b),iV ((ss.getD k ost0).n),.bool (ineg ((ss.getD k ost0).q).num),uV (lo (iabs ((ss.getD k ost0).q).num)),.string (hi (iabs ((ss.getD k ost0).q).num)),uV (lo (qd ((ss.getD k ost0).q))),.string (hi (qd ((ss.getD k ost0).q)))]) hs (fun zr _ _ hs=>lY 48 0 110 9 sac saA al stc (⟨(ss.getD k ost0).op,(ss.getD k ost0).a,(ss.getD k ost0).b,(ss.getD k ost0).n,(ss.getD k ost0).q⟩:Stp) 88 zr (.agg #[iV 0,iV 0,iV 0,iV 0,qF,uV 0,eS,uV 0,eS]) hs hs.f.1 (fun zl zm _ zs hs=>lL hs [.v 49 (qP zc 1)] (lP 2 1 ([qS zl ((al++[(⟨(ss.getD k ost0).op,(ss.getD k ost0).a,(ss.getD k ost0).b,(ss.getD k ost0).n,(ss.getD k ost0).q⟩:Stp)]).length) zm]) hs (fun _ hs=>lN (kQ (lL hs [.m 19 4] (lIn 20 ((k:Nat)+1) (k+1) ?_))))))))))));refine lL hs [.m 4 20] (lD ?_);intro a_ ka;replace hs:=hs.tl.tl.tl;replace hs:=hs.drop 2 0;refine ⟨_,_,?_,⟨k+1,zl,zm,al++[(⟨(ss.getD k ost0).op,(ss.getD k ost0).a,(ss.getD k ost0).b,(ss.getD k ost0).n,(ss.getD k ost0).q⟩:Stp)],zs,rfl,rfl,hs.to _ _,oM,(by rw[take_snoc' ost0 oM,List.map_append,hal];first|rfl|(have hq0:(ss.getD k ost0).q=0:=hz0 oM (by cases h_:(ss.getD k ost0).has;rfl;rw[h_] at hop;have:=hop.2 rfl;omega);show _=_++[_];unfold OSt.stp;rw[hq0]))⟩,ka.to _ kR⟩
 omega
theorem mInTape0 (inp:Int)(b_:Nat)(w:World)(h:Hp)(g:G w h):CR 12 #[.agg #[iV inp,.slice (sB b_) 0 0,sZ]] w h (fun v h1=>∃ b,v=.agg #[iV inp,sZ,.slice (sB b) 0 0]):=by
 have hs:=sS g;refine go Tryz.func12 [(0,.agg #[iV inp,qS (sB b_) 0 0,sZ])] rfl (cSL (lA 1 25 ([iV inp,qS (sB b_) 0 0,sZ]) hs (fun b1 w2 h3 hs=>lA 2 36 ([iV 0,sZ,sZ]) hs (fun b4 w5 h6 hs=>lN (cQ ?_)))));have hsr:=hs;refine cR 8 [⟨7,3,.cells (List.toArray [iV 0,sZ,sZ]) 36 (0,0)⟩] mixed hs (al_cons (alOk kR (fun _ _=>by kernel_rfl)) al_nil) (eV 0 7 (pB b1) (eO 1 8 [(1,0,1)] (iV inp) hs (eV 3 10 (qP b1 2) (eO 4 11 [(1,2,1)] (sZ) hs (eR 2 9 3 0 ([]) hs (fun b7 w8 h9 hs=>eVe 5 12 (qS (sB b7) 0 0) hs (fun _ _ hs=>eV 6 13 (.agg #[iV inp,sZ,qS (sB b7) 0 0]) (eD1p [] hsr hs 36 [iV 0,sZ,sZ] (fun _ _ b15 hs=>tP 8 0 0 ([iV inp,sZ,qS (sB b7) 0 0]) hs (fun _ hs=>tN (cQ (cSL (lL hs [.v 4 (iV 0)] (lN (kZ (cU ?_))))))))))))))));refine cN (cQ (cSL (lL hs [.m 14 4,.v 15 (qP b1 1),.o 16 (qS (sB b_) 0 0) 2 1 1,.v 17 (iV 0),.v 18 qF] (lN (cIF (CG.exit ?_))))))
 show CG _ _ _ _ _ _ _ _
 exact cSL (lL hs [.o 50 (.agg #[iV inp,sZ,qS (sB b7) 0 0]) 0 0 3] (lP 1 0 ([iV inp,sZ,qS (sB b7) 0 0]) hs (fun _ hs=>lN (kX (hs.ret [(1,0,3)] (.agg #[iV inp,sZ,qS (sB b7) 0 0]) (⟨_,rfl⟩))))))
theorem mSpoilt (inp:Int)(A:Option Addr)(c:Nat)(ts:List RSt)(ss:List OSt)(O:Option Addr)(d:Nat)(os:List Int)(way at_ by_:Int)(m:Nat)(hm:m≤20)(hl:ss.length≤m)(hol:os.length≤2)(hS:OSms ss)(hP:PwS ss)(hE:ss=[]→A=none∧c=0∧O=none∧d=0∧os=[])(hN:ss≠[]→os≠[])(w:World)(h:Hp)(g:G w h)(hA:SlO 7 rsc rst0 h A ts)(hT:RSs h ts ss)(hO:Si O os h):CR 8 #[.agg #[iV inp,.slice A ts.length c,.slice O os.length d],iV way,iV at_,iV by_] w h (fun v h1=>∃ (inp2:Int) (A c O d:_),∃ ts2:List RSt,∃ ss2:List OSt,∃ os2:List Int,v=.agg #[iV inp2,.slice A ts2.length c,.slice O os2.length d]∧SlO 7 rsc rst0 h1 A ts2∧RSs h1 ts2 ss2∧Si O os2 h1∧OSms ss2∧ss2.length≤m∧os2.length≤3∧(0<ss2.length∧0<os2.length∨ss2=[]∧os2=[]∧O=none∧d=0∧c=0∧∃ b,A=sB b)∧∃ z,PwZ z ss2):=by
  by_cases e:ss=[]
  · obtain ⟨e1,e2,e3,e4,e5⟩:=hE e
    have e6:ts=[]:=List.eq_nil_of_length_eq_zero (by rw[hT.len,e];rfl);subst e e1 e2 e3 e4 e5 e6;refine (mSpoiltT0 inp way at_ by_ w h g).mono ?_;rintro _ w' ⟨_,h',rfl,u,b,rfl⟩;exact ⟨_,h',rfl,u,inp,sB b,0,none,0,[],[],[],rfl,SlO.nil,RSs.nil,SlO.nil,fun i hi=>by simp at hi,by simp,by simp,.inr ⟨rfl,rfl,rfl,rfl,rfl,b,rfl⟩,0,fun k hk=>by simp at hk⟩
  · have h0:0<ss.length:=List.length_pos_iff.2 e
    have h1:0<os.length:=List.length_pos_iff.2 (hN e);refine (mSpoiltT inp A c ts ss O d os way at_ by_ h0 m hm hl hP h1 hol hS w h g hA hT hO).mono ?_;rintro _ w' ⟨_,h',rfl,u,inp2,A2,c2,O2,d2,ts2,ss2,os2,rfl,k1,k2,k3,k4,k5,k6,k7,k8,k9⟩;exact ⟨_,h',rfl,u,inp2,A2,c2,O2,d2,ts2,ss2,os2,rfl,k1,k2,k3,k4,k5,k6,.inl ⟨k7,k8⟩,k9⟩
theorem mIn (inp:Int)(A:Option Addr)(c:Nat)(ts:List RSt)(ss:List OSt)(O:Option Addr)(d:Nat)(os:List Int)(hl:ss.length≤20)(hol:os.length≤3)(hS:OSms ss)(hx:0<ss.length∧0<os.length∨ss=[]∧os=[]∧O=none∧d=0∧c=0∧∃ b,A=sB b)(w:World)(h:Hp)(g:G w h)(hA:SlO 7 rsc rst0 h A ts)(hT:RSs h ts ss)(hO:Si O os h)(tb:Tab h):CR 12 #[.agg #[iV inp,.slice A ts.length c,.slice O os.length d]] w h (fun v h1=>∃ A c O d,v=.agg #[iV inp,.slice A (ss.map OSt.stp).length c,.slice O os.length d]∧SlO 9 stc stp0 h1 A (ss.map OSt.stp)∧Si O os h1):=by
  rcases hx with ⟨h0,h1⟩|⟨e,e1,e2,e3,e4,b,e5⟩
  · exact mInTape inp A c ts ss O d os hl h1 hol hS w h g hA hT hO tb
  · have e6:ts=[]:=List.eq_nil_of_length_eq_zero (by rw[hT.len,e];rfl)
    subst e e1 e2 e3 e4 e5 e6;refine (mInTape0 inp b w h g).mono ?_;rintro _ w' ⟨_,h',rfl,u,b2,rfl⟩;exact ⟨_,h',rfl,u,none,0,sB b2,0,rfl,SlO.nil,SlO.nil⟩
section
variable {inp:Int} {l:List Stp} {os:List Int} {at_ by_:List Rat} {K:Nat}
theorem lq_backO (hK:1≤K)(h:chkTp inp l os=0→∀ j,LQ K ((tvals l at_ l.length).getD j 0))(j:Nat):LQ K ((backO inp l os at_ by_).getD j 0):=by
  unfold backO
  split
  · rename_i e;exact lq_pick hK (h (back_ok e).1) j
  · exact lq_nil hK j
theorem lq_backG (hK:1≤K)(ho:os.length≤3)(hb:∀ j,LQ 1 (by_.getD j 0))(h:chkTp inp l os=0→∀ i j,LQ K ((tders l at_ (unitv inp.toNat i) l.length).getD j 0))(j:Nat):LQ (3*K+7) ((backG inp l os at_ by_).getD j 0):=by
  unfold backG
  split
  · rename_i e;exact lq_gradT hK ho hb (h (back_ok e).1) j
  · exact lq_nil oM j
theorem backO_len:(backO inp l os at_ by_).length≤os.length:=by
  unfold backO;split
  · rw[pick_len];exact Nat.le_refl _
  · exact Nat.zero_le _
theorem backG_len:(backG inp l os at_ by_).length≤1000:=by
  unfold backG;split
  · rename_i e
    have:=(chk_formed (back_ok e).1).2.2.2.1
    unfold gradT;rw[List.length_map,List.length_range];omega
  · exact Nat.zero_le _
end
theorem lTapeBacks (A0:Option Addr)(c0:Nat)(zl:List Int)(A3:Option Addr)(c3:Nat)(zv:List Int)(A4:Option Addr)(c4:Nat)(zw:List Int)(way at_ by_ odd:Int)(hl0:zl.length≤9223372036854775807)(hz0:I64s zl)(hlv:zv.length≤9223372036854775807)(hzv:I64s zv)(hlw:zw.length≤9223372036854775807)(hzw:I64s zw)(hod : -9223372036854775808≤odd∧odd≤9223372036854775807)(w:World)(h:Hp)(g:G w h)(hA0:Si A0 zl h)(hA3:Si A3 zv h)(hA4:Si A4 zw h)(tb:Tab h):CV 4 #[.slice A0 zl.length c0,.slice A3 zv.length c3,.slice A4 zw.length c4,iV way,iV at_,iV by_,iV odd] w h (.bool true):=by
 have hs:=(((((sS g).aS hA0).aS hA3).aS hA4).aB tb);obtain ⟨t0,t1⟩:=tdiv_bd odd 9 oM hod.1 hod.2;refine go Tryz.func4 [(0,qS A0 zl.length c0),(1,qS A3 zv.length c3),(2,qS A4 zw.length c4),(3,iV way),(4,iV at_),(5,iV by_),(6,iV odd)] rfl (cSL (lL hs [.v 14 qF] (lNS (lL hs [.m 24 0] (lC 25 hs (mTape A0 c0 zl hl0 hz0 10 oM _ _ hs.g hs.f.r.2.1) ?_)))));rintro _ w1 h2 hs ⟨A1,c1,O1,d1,ts1,ss1,os1,rfl,hc1,hd1,hA1,hT1,hO1,hS1,hl1,hol1,hob1,hE1,hN1,hP1⟩;replace hs:=(((hs.aS hA1).add (K:=fun h_=>RSs h_ ts1 ss1) hT1).aS hO1);refine lL hs [.m 26 3,.m 27 4,.m 28 5] (lC 29 hs (mSpoilt 3 A1 c1 ts1 ss1 O1 d1 os1 way at_ by_ 10 oM oM oM hS1 hP1 hE1 hN1 _ _ hs.g hs.f.r.1 hs.f.2.1 hs.f.1) ?_);rintro _ w3 h4 hs ⟨inp2,A2,c2,O2,d2,ts2,ss2,os2,rfl,hA2,hT2,hO2,hS2,hl2,hol2,hx2,z_,hz2⟩;replace hs:=(((hs.aS hA2).add (K:=fun h_=>RSs h_ ts2 ss2) hT2).aS hO2);have hl3:(ss2.map OSt.stp).length≤10:=by rw[List.length_map];exact hl2
 have hq3:=oq_lq hS2;have ht3:∀ {i_:Int},chkTp i_ (ss2.map OSt.stp) os2=0→Tame z_ (ss2.map OSt.stp):=fun hc=>tame_of hc hz2
 refine lA 15 25 ([iV 0,sZ,sZ]) hs (fun b5 w6 h7 hs=>lP 0 0 ([iV inp2,qS A2 ts2.length c2,qS O2 os2.length d2]) hs (fun w8 hs=>lN (cQ ?_)));have hsr:=hs;refine cRz 10 [] [] mixed hs al_nil (eV 0 30 (qS A3 zv.length c3) (eV 1 31 (iV odd) (eV 3 33 (qS A4 zw.length c4) (eV 4 34 (qP b5 2) (eOz 5 35 [(0,2,1)] (qS O2 os2.length d2) hsr hs (eV 6 36 (nV os2.length) (eV 7 37 (iV odd) (eV 8 38 (iV (odd.tdiv 9)) ?_ (hv:=fun _=>rS ((odd.tdiv 9)) kR (fitI64 oM oM))))))))));refine eC 2 32 hs (fun _ _ hs=>lNumbers A3 c3 zv hlv hzv 3 oM odd _ _ hs.g hs.f.q.q.1) ?_;rintro _ _ _ w9 _ hs ⟨Ap1,cp1,tp1,m1,rfl,hcp1,hAp1,hTp1,hm1⟩;replace hs:=((hs.aS hAp1).aT hTp1);have hlp1:=(hs.f.1).len;have hlm1:=rowq_len zv m1;refine eC 9 39 hs (fun _ _ hs=>lNumbers A4 c4 zw hlw hzw os2.length oM (odd.tdiv 9) _ _ hs.g hs.f.q.q.2.1) ?_;rintro _ _ _ _ _ hs ⟨Ap2,cp2,tp2,m2,rfl,hcp2,hAp2,hTp2,hm2⟩;replace hs:=((hs.aS hAp2).aT hTp2);have hlp2:=(hs.f.1).len;have hlm2:=rowq_len zw m2;refine eD0 hs (fun _ _ hs=>tV 10 16 (qS Ap1 tp1.length cp1) (tV 11 17 (qS Ap2 tp2.length cp2) (tNS (lL hs [.o 41 (.agg #[iV inp2,qS A2 ts2.length c2,qS O2 os2.length d2]) 0 0 3] (lC 42 hs (mIn inp2 A2 c2 ts2 ss2 O2 d2 os2 oM hol2 hS2 hx2 _ _ hs.g hs.f.q.r.1 hs.f.q.2.1 hs.f.q.1 hs.f.q.q.r.1) ?_)))));rintro _ _ _ hs ⟨Ai1,ci1,Oi1,di1,rfl,hAi1,hOi1⟩;replace hs:=hs.aP hAi1 hOi1;refine lL hs [.m 43 16] (lC 44 hs (hInRow Ap1 cp1 tp1 (rowq zv m1) oM (fun i _=>(rowq_lq _ _ i).mono oM) _ _ hs.g hs.f.q.2.1 hs.f.q.1 hs.f.q.q.q.1) ?_);rintro _ _ _ hs ⟨Ax1,cx1,rfl,hcx1,hAx1⟩;replace hs:=hs.aS hAx1;refine lL hs [.m 45 17] (lC 46 hs (hInRow Ap2 cp2 tp2 (rowq zw m2) oM (fun i _=>(rowq_lq _ _ i).mono oM) _ _ hs.g hs.f.q.1 hs.f.r.2.1 hs.f.q.q.q.2.1) ?_);rintro _ _ _ hs ⟨Ax2,cx2,rfl,hcx2,hAx2⟩;replace hs:=hs.aS hAx2;refine lC 47 hs (tBack inp2 Ai1 ci1 (ss2.map OSt.stp) Oi1 di1 os2 (rowq zv m1) Ax1 cx1 (rowq zw m2) Ax2 cx2 (fun k=>2^k) (sg_ z_) 4096 oM oM oM oM hq3 (rowq_lq zw _) (fun hc _ k hk _ j=>(lq_tvals (ht3 hc) hq3 (rowq_lq zv m1) k hk j).mono (Nat.le_trans (vb_12 oM) kD)) (fun hc=>wt_two (chk_formed hc).1) (w_12 oM) (fun hc _ _ k hk h2=>slopes_ok (ht3 hc) hq3 (rowq_lq zv _) (chk_formed hc).1 k hk h2) (fun _=>hc_10 hl3 oM) _ _ hs.g hs.f.r.2.1 hs.f.r.1 hs.f.2.1 hs.f.1 hs.f.q.q.q.r.1) ?_;rintro _ _ _ hs ⟨Ab,cb,Ag,cg,rfl,hcb,hcg,hAb,hAg,hgr⟩;replace hs:=hs.aP hAb hAg;refine lL hs [.m 40 47,.v 48 (qS Ab ((backO inp2 (ss2.map OSt.stp) os2 (rowq zv m1) (rowq zw m2)).length) cb),.v 49 (qS Ag ((backG inp2 (ss2.map OSt.stp) os2 (rowq zv m1) (rowq zw m2)).length) cg),.v 50 (iV (backE inp2 (ss2.map OSt.stp) os2 (rowq zv m1) (rowq zw m2))),.m 18 48,.m 19 49,.m 20 50] (lN (cTo [(14,qF),(15,pB b5),(16,qS Ap1 tp1.length cp1),(17,qS Ap2 tp2.length cp2),(18,qS Ab ((backO inp2 (ss2.map OSt.stp) os2 (rowq zv m1) (rowq zw m2)).length) cb),(19,qS Ag ((backG inp2 (ss2.map OSt.stp) os2 (rowq zv m1) (rowq zw m2)).length) cg),(20,iV (backE inp2 (ss2.map OSt.stp) os2 (rowq zv m1) (rowq zw m2)))] ?_));refine cSL (lL hs [.o 52 (.agg #[iV inp2,qS A2 ts2.length c2,qS O2 os2.length d2]) 0 0 3,.m 53 16,.m 54 17] (lC 55 hs (rBackTape inp2 A2 c2 ts2 ss2 O2 d2 os2 (rowq zv m1) tp1 Ap1 cp1 (rowq zw m2) tp2 Ap2 cp2 oM hol2 oM (rowq_lq zw _) (fun hc _ k hk _ j=>(lq_tvals (ht3 hc) hq3 (rowq_lq zv m1) k hk j).mono (vb_12 oM)) (fun hc _ way hw k hk _ j=>(lq_tders (ht3 hc) hq3 (rowq_lq zv m1) hw k hk j).mono (dv_10 oM)) _ _ hs.g hs.f.q.q.q.1 hs.f.q.q.r.2.1 hs.f.q.q.r.1 hs.f.q.q.2.1 hs.f.q.q.1 hs.f.q.r.2.1 hs.f.q.r.1) ?_));rintro _ _ _ hs ⟨As,cs,tr,At,ct,tg,rfl,hcs,hct,hAs,hAt,hTr,hTg⟩;replace hs:=((((hs.aS hAs).aS hAt).aT hTr).aT hTg);refine lL hs [.m 51 55,.v 56 (qS As tr.length cs),.v 57 (qS At tg.length ct),.v 58 (iV (backE inp2 (ss2.map OSt.stp) os2 (rowq zv m1) (rowq zw m2))),.m 21 56,.m 22 57,.m 23 58] (lNS (lC 59 hs (lKnown28 _ _ hs.g hs.f.q.q.q.q.q.1) ?_));rintro _ _ _ hs rfl;refine lL hs [.m 60 59,.m 61 20,.m 62 23] ?_;have za:((backE inp2 (ss2.map OSt.stp) os2 (rowq zv m1) (rowq zw m2):Int) == (backE inp2 (ss2.map OSt.stp) os2 (rowq zv m1) (rowq zw m2):Int))=true:=beqT rfl;have phb27:=eq_of_beq za;refine lB 63 za (lL hs [.v 64 qT,.m 65 64,.m 66 18,.m 67 21] (lC 68 hs (hSameRow Ab cb (backO inp2 (ss2.map OSt.stp) os2 (rowq zv m1) (rowq zw m2)) (backO inp2 (ss2.map OSt.stp) os2 (rowq zv m1) (rowq zw m2)) As cs tr (Nat.le_trans backO_len oM) (Nat.le_trans backO_len oM) (fun i _=>(lq_backO (vb_1 _ _) (fun hc j=>lq_tvals (ht3 hc) hq3 (rowq_lq zv m1) _ (nR _) j) i).mono (Nat.le_trans (vb_12 oM) kD)) (fun i _=>(lq_backO (vb_1 _ _) (fun hc j=>lq_tvals (ht3 hc) hq3 (rowq_lq zv m1) _ (nR _) j) i).mono (Nat.le_trans (vb_12 oM) kD)) _ _ hs.g hs.f.q.2.1 hs.f.r.2.1 hs.f.2.1) ?_));rintro _ _ _ hs rfl;have zb:(decide (backO inp2 (ss2.map OSt.stp) os2 (rowq zv m1) (rowq zw m2)=backO inp2 (ss2.map OSt.stp) os2 (rowq zv m1) (rowq zw m2)))=true:=decide_eq_true rfl;rw[zb];have phb30:=oT zb;refine lL hs [.v 69 qT,.m 70 69,.m 71 19,.m 72 22] (lC 73 hs (hSameRow Ag cg (backG inp2 (ss2.map OSt.stp) os2 (rowq zv m1) (rowq zw m2)) (backG inp2 (ss2.map OSt.stp) os2 (rowq zv m1) (rowq zw m2)) At ct tg (Nat.le_trans backG_len oM) (Nat.le_trans backG_len oM) (fun i _=>(lq_backG (K:=2000000) oM oM (rowq_lq zw _) (fun hc i j=>(lq_tders (ht3 hc) hq3 (rowq_lq zv m1) (lq_unitv _ i) _ (nR _) j).mono (dv_10 oM)) i).mono kD) (fun i _=>(lq_backG (K:=2000000) oM oM (rowq_lq zw _) (fun hc i j=>(lq_tders (ht3 hc) hq3 (rowq_lq zv m1) (lq_unitv _ i) _ (nR _) j).mono (dv_10 oM)) i).mono kD) _ _ hs.g hs.f.q.1 hs.f.r.1 hs.f.1) ?_);rintro _ _ _ hs rfl;have zc:(decide (backG inp2 (ss2.map OSt.stp) os2 (rowq zv m1) (rowq zw m2)=backG inp2 (ss2.map OSt.stp) os2 (rowq zv m1) (rowq zw m2)))=true:=decide_eq_true rfl;rw[zc];have phb33:=oT zc;exact lL hs [.v 74 qT,.m 14 74] (lN (kX (hs.ret [] qT rfl)))
theorem getD_mem {α:Type}{l:List α}{i:Nat}{d:α}(h:i<l.length):l.getD i d∈l:=by
  rw[List.getD_eq_getElem?_getD,List.getElem?_eq_getElem h];exact List.getElem_mem h
theorem getD_over {α:Type}{l:List α}{i:Nat}{d:α}(h:l.length≤i):l.getD i d=d:=by
  rw[List.getD_eq_getElem?_getD,List.getElem?_eq_none h];rfl
end Go.Proofs.YtmkcmnhnmajheaaGreatDoor
