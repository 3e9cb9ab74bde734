/- Laws of this claim, part 1. -/
import Derived.Below
import Derived.WalkKit
import Derived.Lib.Hide
import Derived.Deep.Draws
import Derived.Orders
import Derived.OrdersHeld
import Derived.KernelRfl
import Derived.Laws.MakeOwn
import Derived.Maps.AppendAt
import Derived.Test.YtpnchlalmgmkeaaGreatDoorProg
import Derived.Lib.IndexBytes
import Derived.Lib.Builder
import Derived.Lib.UnsafeStr
import Derived.Test.YtpnchlalmgmkeaaGreatDoorShelf
import Derived.Shelf.Spec.BitsCarry
import Derived.Lib.BitFns
import Derived.Laws.CopyRow
import Derived.Shelf.Strings.Builder1
import Derived.Shelf.Strings.Builder2
import Derived.Lib.TrailingZeros
import Derived.Laws.Bits64b
import Derived.WideMake
import Derived.ArgAppend
import Derived.Deep.Upon
import Derived.Shelf.SortM.Walk0sIn
import Derived.DeepKeys5
import Derived.StringKeys
import Derived.Shelf.SlIter.Nil
import Derived.Shelf.SortM.Plain
import Derived.Shelf.SortM.SortNone
import Derived.RangeFuncBox
import Derived.OwnWalkIn
import Derived.TacticsInMore
import Derived.LoopNIn
import Derived.LoopIn
import Derived.Sort.KeysCollected
set_option maxRecDepth 100000
set_option maxHeartbeats 4000000
namespace Go.Proofs.YtpnchlalmgmkeaaGreatDoor
open _root_.Array renaming all_eq_true_iff_forall_mem -> g9, any_eq_true -> i3, getD -> fo, getElem?_append_left -> po, getElem?_append_right -> yv, getElem?_eq_getElem -> e5, getElem?_eq_none -> ek, getElem?_eq_some_iff -> g4, getElem?_extract -> yy, getElem?_push_lt -> e4, getElem?_push_size -> e6, getElem?_replicate -> yw, getElem?_setIfInBounds_ne -> g6, getElem?_setIfInBounds_self_of_lt -> yz, getElem_mem -> i4, mapM_eq_mapM_toList -> xb, replicate -> o8, setIfInBounds_comm -> gg
open Bool renaming and_eq_true -> g7, false_eq_true -> la, not_true -> oi, or_eq_true -> i2
open Int renaming fdiv_eq_ediv_of_nonneg -> yK, pow_nonneg -> yO, tdiv -> yL, toNat_natCast -> yt
open List renaming all_cons -> v2, all_eq_true -> hH, any_eq_true -> na, cons_append -> yU, drop_eq_getElem_cons -> y3, drop_sublist -> yo, drop_zero -> yb, eq_nil_of_length_eq_zero -> yj, eraseIdx_sublist -> yE, ext_getElem? -> uE, flatMap_cons -> x0, getD_cons_succ -> ye, getD_eq_getElem?_getD -> zY, getElem?_append_left -> wk, getElem?_append_right -> wu, getElem?_drop -> ws, getElem?_eq_none -> pe, getElem?_set_ne -> va, getElem?_set_self -> u9, getElem?_take_of_lt -> wq, getElem_eraseIdx -> yB, getElem_inj -> vE, getElem_map -> vl, getElem_mem -> fu, getElem_set_ne -> yG, getElem_set_self -> yH, length_append -> yh, length_cons -> ul, length_eraseIdx_of_lt -> yC, length_take -> yY, lookup_cons -> g5, mapM_cons -> xa, map_cons -> yx, map_set -> um, mem_append -> gp, mem_cons -> g1, mem_iff_getElem -> vb, mem_map -> gs, mem_of_mem_drop -> yn, mem_of_mem_eraseIdx -> yD, mem_of_mem_take -> zh, mem_range -> hP, mem_singleton -> ov, nodup_cons -> g2, pairwise_iff_getElem -> yF, perm_middle -> gx, range -> hO, range' -> o0, range'_succ -> o7, range_eq_range' -> pa, replicate -> yp, replicate_succ -> yq, set_cons_succ -> yk, take_add_one -> yX, take_append_drop -> zF, take_append_of_le_length -> yc, take_length -> yd, take_of_length_le -> z8
open Nat renaming add_assoc -> xf, add_comm -> yg, add_mul -> z7, add_mul_div_left -> zT, add_zero -> ya, div_add_mod -> Af, div_div_eq_div_mul -> zX, div_eq_of_lt -> yQ, div_le_self -> yN, div_lt_of_lt_mul -> yR, div_lt_self -> z6, eq_zero_or_pos -> yA, le_of_ble_eq_true -> yJ, le_refl -> ep, le_trans -> eu, log2_eq_iff -> y4, lt_of_le_of_lt -> yM, lt_of_lt_of_le -> ey, lt_or_ge -> eb, min_eq_left -> yZ, min_eq_right -> Ag, mod_eq_of_lt -> yr, mod_lt -> ys, mul_add -> yV, mul_assoc -> yW, mul_comm -> yT, mul_le_mul_left -> y9, mul_le_mul_right -> ym, mul_lt_mul_of_pos_left -> z1, mul_mod_left -> zZ, mul_one -> z2, mul_zero -> y2, one_mul -> Ab, or_lt_two_pow -> yP, pow_add -> y8, pow_le_pow_right -> y6, pow_mul -> zy, pow_pos -> zW, pow_succ -> yS, pow_succ' -> y7, strongRecOn -> g3, sub_self -> sA, succ_mul -> yf, two_pow_pos -> y5, zero_add -> yl, zero_mul -> yi
open Option renaming isSome_iff_exists -> g8, map_eq_none_iff -> yI, map_eq_some_iff -> ta, map_none -> yu, map_some -> tu
abbrev Z9:=Option Addr
theorem kD {p : Prop} (h : p := by decide) : p := h
theorem oM {p : Prop} (h : p := by omega) : p := h
theorem kR {p : Prop} (h : p := by kernel_rfl) : p := h
theorem aM {p : Prop} (h : p := by assumption) : p := h
theorem cB {p : Prop} (h : p := by first | assumption | omega) : p := h
theorem sM {p : Prop} (h : p := by first | omega | (simp; done) | (simp; omega)) : p := h
theorem oT {p : Prop} [Decidable p] (h : decide p = true) : p := of_decide_eq_true h
theorem oF {p : Prop} [Decidable p] (h : decide p = false) : ¬p := of_decide_eq_false h
theorem dT {p : Prop} [Decidable p] (h : p) : decide p = true /\ p := ⟨decide_eq_true h, h⟩
theorem dF {p : Prop} [Decidable p] (h : ¬p) : decide p = false /\ ¬p := ⟨decide_eq_false h, h⟩
open Go.RowKit
abbrev pB (b:Nat):Value:=.pointer (some ⟨b,0,none⟩)
abbrev qP (b o:Nat):Value:=.pointer (some ⟨b,o,none⟩)
abbrev qT:Value:=.bool true
abbrev qF:Value:=.bool false
abbrev qS (A:Z9)(n c:Nat):Value:=.slice A n c
abbrev sZ:Value:=.slice none 0 0
abbrev eS:Value:=.string ⟨#[]⟩
abbrev sB (b:Nat):Z9:=some ⟨b,0,none⟩
abbrev iV (n:Int):Value:=.int .i64 n
abbrev uV (n:Int):Value:=.int .u64 n
abbrev a1:List Value:=[qF,uV 0,eS,uV 0,eS]
abbrev a2:List Value:=[iV 0,iV 0,qF,uV 0,eS,uV 0,eS,eS,sZ]
abbrev ca:Value:=.agg #[qF,uV 0,eS,uV 0,eS]
abbrev da:List Value:=[qF,sZ,sZ]
abbrev ea:List ByteArray:=[⟨#[120]⟩,⟨#[121]⟩,⟨#[122]⟩]
abbrev uW (n:Int):Value:=.int .u32 n
abbrev nV (n:Nat):Value:=.int .i64 (n:Int)
abbrev mV (n:Nat):Value:=.int .u64 (n:Int)
abbrev mW (n:Nat):Value:=.int .u32 (n:Int)
def Ext (w w':World):Prop:=Below w.heap.size w w'
theorem Ext.refl (w:World):Ext w w:=Below.refl _ _
theorem Ext.trans {a b c:World}(h:Ext a b)(k:Ext b c):Ext a c:=Below.trans h (Below.mono k h.size)
theorem Ext.alloc {a w:World}(h:Ext a w)(o:Obj):Ext a (w.alloc o):=Below.alloc h h.size o
theorem Ext.drew {a w:World}(h:Ext a w):Ext a w.drew:=Below.drew h
theorem Ext.size {a w:World}(h:Ext a w):a.heap.size<=w.heap.size:=Below.size h
theorem Ext.cell {a w:World}(h:Ext a w){p:Addr}(b:p.block<a.heap.size):w.cell? p=a.cell? p:=Below.cell h b
theorem Ext.some {a w:World}(h:Ext a w){p:Addr}{v:Value}(b:a.cell? p=.some v):w.cell? p=.some v:=by
 rcases eb p.block a.heap.size with hl|hl
 ·rw[h.cell hl];exact b
 ·unfold World.cell? at b
  rw[ek hl] at b
  cases b
def aw (z:Int):Bool:=decide (z<0)
def ab (z:Int):Nat:=z.natAbs
def qd (q:Rat):Nat:=if q.den=1 then 0 else q.den
def cF (neg:Bool)(a:Nat):Int:=if neg then -(a:Int) else a
theorem jp (neg:Bool)(a:Nat):aw (cF neg a)=(neg && decide (0<a)):=by cases neg<;>simp[aw,cF]<;>omega
theorem eD (neg:Bool)(a:Nat):ab (cF neg a)=a:=by cases neg<;>simp[ab,cF]
theorem kM (z:Int):cF (aw z) (ab z)=z:=by unfold cF aw ab;by_cases h:z<0<;>simp[h]<;>omega
theorem se (z:Int):cF (!aw z) (ab z) = -z:=by unfold cF aw ab;by_cases h:z<0<;>simp[h]<;>omega
theorem bE {z:Int}(h:aw z=true):z<0:=by simpa [aw] using h
theorem bw {z:Int}(h:aw z=false):0<=z:=by simpa [aw] using h
abbrev Hp:=Array Obj
def bj:Obj:=.cells #[] 0 (0,0)
structure G (w:World) (h:Hp):Prop where
  size:w.heap.size=h.size
  blk:∀ b:Nat,h[b]?=w.heap[b]?\/h[b]?=some bj
structure Gr (h h':Hp):Prop where
  size:h.size<=h'.size
  blk:∀ b:Nat,b<h.size->h'[b]?=h[b]?
structure Up (w:World) (h:Hp) (w':World) (h':Hp):Prop where
  ext:Ext w w'
  gr:Gr h h'
  g:G w' h'
theorem Gr.refl (h:Hp):Gr h h:=⟨ep _,fun _ _=>rfl⟩
theorem Gr.trans {a b c:Hp}(h:Gr a b)(k:Gr b c):Gr a c :=
 ⟨eu h.size k.size,fun x d=>(k.blk x (ey d h.size)).trans (h.blk x d)⟩
theorem Gr.push (h:Hp)(o:Obj):Gr h (h.push o) :=
 ⟨by simp,fun b hb=>by rw[e4 hb];exact (e5 hb).symm⟩
theorem Up.refl {w:World}{h:Hp}(g:G w h):Up w h w h:=⟨Ext.refl _,Gr.refl _,g⟩
theorem Up.trans {w w1 w2:World}{h h1 c:Hp}(a:Up w h w1 h1)(b:Up w1 h1 w2 c):Up w h w2 c:=⟨a.ext.trans b.ext,a.gr.trans b.gr,b.g⟩
theorem G.drew {w:World}{h:Hp}(g:G w h):G w.drew h:=⟨g.size,g.blk⟩
theorem Up.drew {w w1:World}{h h1:Hp}(a:Up w h w1 h1):Up w h w1.drew h1:=⟨a.ext.drew,a.gr,a.g.drew⟩
theorem heap_alloc (w:World)(o:Obj):(w.alloc o).heap=w.heap.push o:=rfl
theorem Up.allocAny {w:World}{h:Hp}(g:G w h)(o o':Obj)(a:o'=o\/o'=bj):Up w h (w.alloc o) (h.push o'):=by
 refine ⟨(Ext.refl _).alloc _,Gr.push _ _,⟨by rw[heap_alloc];simp[g.size],fun b=>?_⟩⟩;rw[heap_alloc];have e:=g.size
 rcases Nat.lt_trichotomy b h.size with hb|hb|hb
 ·rw[e4 hb,e4 oM]
  have:=g.blk b
  rwa [e5 hb,e5 oM] at this
 ·subst hb
  rw[e6];have:(w.heap.push o)[h.size]?=some o:=by rw[<-e];exact e6
  rw[this]
  rcases a with rfl|rfl
  ·exact .inl rfl
  ·exact .inr rfl
 ·left
  rw[ek (by simp;omega),ek (by simp;omega)]
structure Mo (M:List Nat) (w w':World):Prop where
  os:w'.os=w.os
  tape:w'.tape=w.tape
  output:w'.output=w.output
  size:w.heap.size<=w'.heap.size
  blk:∀ b,b<w.heap.size->b ∉ M->w'.heap[b]?=w.heap[b]?
theorem Mo.refl (M:List Nat)(w:World):Mo M w w:=⟨rfl,rfl,rfl,ep _,fun _ _ _=>rfl⟩
theorem Mo.trans {M:List Nat}{a b c:World}(h:Mo M a b)(k:Mo M b c):Mo M a c :=
 ⟨k.os.trans h.os,k.tape.trans h.tape,k.output.trans h.output,eu h.size k.size,fun x d hm=>(k.blk x (ey d h.size) hm).trans (h.blk x d hm)⟩
theorem Ext.mo {a b:World}(h:Ext a b)(M:List Nat):Mo M a b:=⟨h.os,h.tape,h.output,h.size,fun x c _=>Below.block h x c⟩
structure UpM (M:List Nat) (w:World) (h:Hp) (w':World) (h':Hp):Prop where
  mo:Mo M w w'
  gr:Gr h h'
  g:G w' h'
theorem Up.m {w w':World}{h a:Hp}(u:Up w h w' a)(M:List Nat):UpM M w h w' a:=⟨u.ext.mo M,u.gr,u.g⟩
theorem UpM.refl {M:List Nat}{w:World}{h:Hp}(g:G w h):UpM M w h w h:=⟨Mo.refl _ _,Gr.refl _,g⟩
theorem UpM.trans {M:List Nat}{w w1 w2:World}{h h1 c:Hp}(a:UpM M w h w1 h1)(b:UpM M w1 h1 w2 c):UpM M w h w2 c:=⟨a.mo.trans b.mo,a.gr.trans b.gr,b.g⟩
structure Ms where
  l:List Nat
  z:Option (Nat × List Nat)
def Tl (M:Ms)(w w':World):Prop:=∀ K bs,M.z=some (K,bs)->w.heap.size<=w'.heap.size/\∀ b,b<K->b ∉ bs->w'.heap[b]?=w.heap[b]?
theorem Tl.refl (M:Ms)(w:World):Tl M w w:=fun _ _ _=>⟨ep _,fun _ _ _=>rfl⟩
theorem Tl.none {M:Ms}(h:M.z=none)(w w':World):Tl M w w':=fun _ _ e=>by rw[h] at e;cases e
def Rl (M:Ms)(k0 i:Nat)(w w':World):Prop:=(i<k0->Mo M.l w w')/\(k0<=i->Tl M w w')
theorem Rl.refl (M:Ms)(k0 i:Nat)(w:World):Rl M k0 i w w:=⟨fun _=>Mo.refl _ _,fun _=>Tl.refl _ _⟩
theorem Rl.mo {M:Ms}{k0 i:Nat}{w w':World}(h:i<k0)(m:Mo M.l w w'):Rl M k0 i w w':=⟨fun _=>m,fun hk=>absurd hk oM⟩
theorem Rl.tl {M:Ms}{k0 i:Nat}{w w':World}(h:k0<=i)(m:Tl M w w'):Rl M k0 i w w':=⟨fun hk=>absurd hk oM,fun _=>m⟩
section region
variable (M:Ms)(P:Program)(ops:Array Oper)(Q:Exit->Act->World->Prop)(k0:Nat)
def ru:Nat->Array Bool->Act->World->Prop
  | 0,L,a,w=>Region.ready .any ops L=[]/\Q .normal a w
  | n + 1,L,a,w=>(Region.ready .any ops L=[]->Q .normal a w) /\
      ∀ i∈Region.ready .any ops L,wpOp P ops Q i (fun a' w'=>Rl M k0 i w w'/\ru n (L.setIfInBounds i true) a' w') a w
theorem l6:∀ (n:Nat) (L:Array Bool) (a:Act) (w:World),ru M P ops Q k0 n L a w->wpAny P .any ops Q n L a w
 | 0,_,_,_,h=>h
 | n+1,_,_,_,h=>⟨h.1,fun i hi=>wpOp_mono (fun a' w' h'=>l6 n _ a' w' h'.2) (h.2 i hi)⟩
def rem (L:Array Bool):Nat:=L.toList.count false
def A (L:Array Bool)(a:Act)(w:World):Prop:=ru M P ops Q k0 (rem L) L a w
variable {M P ops Q k0}
theorem FE {L:Array Bool}{i:Nat}(h:L.getD i true=false):∃ hi:i<L.size,L[i]=false:=by
 rcases eb i L.size with hi|hi
 ·exact ⟨hi,by simpa [fo,hi] using h⟩
 ·simp[fo,Nat.not_lt.2 hi] at h
theorem BV {L:Array Bool}{i:Nat}(h:L.getD i true=false):rem L=rem (L.setIfInBounds i true)+1:=by
 obtain ⟨hi,e⟩:=FE h
 unfold rem
 rw[Array.toList_setIfInBounds,List.count_set (by simpa using hi)];have a:L.toList[i]'(by simpa using hi)=false:=by simpa using e
 have b:0<L.toList.count false:=List.count_pos_iff.2 (by rw[<-a];exact fu _);rw[a,if_pos (by rfl),if_neg kD]
 omega
theorem e8 {L:Array Bool}{i:Nat}(h:i∈Region.ready .any ops L):rem L=rem (L.setIfInBounds i true)+1:=BV (mem_ready.1 h).1
theorem A.intro {L:Array Bool}{a:Act}{w:World}(h0:Region.ready .any ops L=[]->Q .normal a w)
    (h1:∀ i∈Region.ready .any ops L,wpOp P ops Q i (fun a' w'=>Rl M k0 i w w'/\A M P ops Q k0 (L.setIfInBounds i true) a' w') a w):A M P ops Q k0 L a w:=by
  unfold A
  cases c:rem L with
  | zero =>
    have hr:Region.ready .any ops L=[]:=by
      cases hr:Region.ready .any ops L with
      | nil=>rfl
      | cons i l =>
        have:=e8 (ops:=ops) (L:=L) (i:=i) (by rw[hr];simp)
        omega
    exact ⟨hr,h0 hr⟩
  | succ n =>
    refine ⟨h0,fun i hi=>?_⟩;have e:=e8 hi;have b:=h1 i hi
    unfold A at b
    have e2:rem (L.setIfInBounds i true)=n:=by omega
    rw[e2] at b
    exact b
theorem A.done {L:Array Bool}{a:Act}{w:World}(hr:(Region.ready .any ops L).isEmpty=true)(h:Q .normal a w):A M P ops Q k0 L a w:=by
 have b:Region.ready .any ops L=[]:=by simpa using hr
 exact A.intro (fun _=>h) (fun i hi=>by rw[b] at hi;cases hi)
theorem ml {i:Nat}{D:Oper}{v:Value}{S:World->Prop}(hi:ops[i]?=some D)(B:∀ (j:Nat) (o:Oper) cs b,ops[j]?=some o->o.op≠.select cs b)
    (hQ:∀ c a w,Q (.panic c) (a.put D.dst v) w->Q (.panic c) a w)(J:∀ w w',S w->Mo M.l w w'->S w') :
    ∀ (n:Nat) (L:Array Bool) (a:Act) (w:World),
      (∀ j p,ops[j]?=some p->j≠i->L.getD j true=false->(∀ e∈p.after,Region.binds .any e=true->e.on≠i)->D.apart ops p=true) ->
      ((∀ w,S w)\/(∀ w w',S w->Tl M w w'->S w')\/∀ j p,ops[j]?=some p->k0<=j->j≠i->∃ e∈p.after,Region.binds .any e=true/\e.on=i) ->
      i∈Region.ready .any ops L->YieldsIf P ops S D v a->S w ->
      ru M P ops Q k0 n (L.setIfInBounds i true) (a.put D.dst v) w->(i<k0)->ru M P ops Q k0 (n+1) L a w:=by
  intro n
  induction n with
  | zero =>
    intro L a w _ _ hr O F H _;refine ⟨fun h=>(by rw[h] at hr;cases hr),fun j U=>?_⟩
    by_cases hji:j=i
    . subst hji;exact O.wpOp hi F ⟨Rl.refl _ _ _ _,H⟩
    . have:=ready_mono U hji
      rw[H.1] at this
      cases this
  | succ n ih =>
    intro L a w d f hr O F H hk;refine ⟨fun h=>(by rw[h] at hr;cases hr),fun j U=>?_⟩
    by_cases hji:j=i
    . subst hji;exact O.wpOp hi F ⟨Rl.refl _ _ _ _,H⟩
    . have h1:=H.2 j (ready_mono U hji)
      obtain ⟨z,p,u,K⟩:=mem_ready.1 U
      have C:∀ e∈p.after,Region.binds .any e=true->e.on≠i:=fun e X hb heq=>by
        have h1:=K e X hb;have h0:=(mem_ready.1 hr).1;rw[heq] at h1
        obtain ⟨y,h0'⟩:=FE h0
        simp[fo,y,h0'] at h1
      have h2:=wpOp_putIf u (d j p u hji z C) (fun cs b=>B i D cs b hi) (fun cs b=>B j p cs b u) hQ O h1
      have x:∀ k ok,ops[k]?=some ok->k≠i->(L.setIfInBounds j true).getD k true=false ->
          (∀ e∈ok.after,Region.binds .any e=true->e.on≠i)->D.apart ops ok=true:=fun k ok hk Y I W=>by
        refine d k ok hk Y ?_ W
        by_cases hjk:j=k
        . subst hjk;exact z
        . rw[getD_set_ne true hjk] at I;exact I
      have hS':∀ w',Rl M k0 j w w'->S w':=fun w' Z=>by
        rcases f with ht|ht|ht
        . exact ht w'
        . rcases eb j k0 with y|y
          . exact J _ _ F (Z.1 y)
          . exact ht _ _ F (Z.2 y)
        . rcases eb j k0 with y|y
          . exact J _ _ F (Z.1 y)
          . obtain ⟨e,X,hb,ho⟩:=ht j p u y hji
            exact absurd ho (C e X hb)
      refine wpOp_mono (fun a' w' V=>⟨V.2.1,ih (L.setIfInBounds j true) a' w' x f (ready_mono hr (Ne.symm hji)) V.1 (hS' w' V.2.1) ?_ hk⟩) h2;rw[gg _ _ hji];exact V.2.2
structure Al where
  i:Nat
  t:Nat
  o:Obj
structure AlOk (P:Program) (ops:Array Oper) (k0:Nat) (x:Al):Prop where
  ex:∃ o,ops[x.i]?=some o/\o.dst=some x.t/\o.guard=none/\o.after = #[]/\(∀ (ρ:Operand->Value) (w:World),(execOp ρ o).run P w=.ok (.value (.pointer (some ⟨w.heap.size,0,none⟩))) (w.alloc x.o))
  lt:x.i<k0
abbrev SA:=Al × Nat
def dP (L:Array Bool)(S:List SA):Array Bool:=S.foldr (fun s L=>L.setIfInBounds s.1.i true) L
def addA (a:Act)(S:List SA):Act:=S.foldr (fun s a=>a.put (some s.1.t) (.pointer (some ⟨s.2,0,none⟩))) a
def Blk (h0:Hp)(w:World)(h:Hp)(s:SA):Prop:=w.heap[s.2]?=some s.1.o/\h[s.2]?=some bj/\h0.size<=s.2
theorem Blk.up {h0:Hp}{w w':World}{h f:Hp}{s:SA}(b:Blk h0 w h s)(u:UpM M.l w h w' f)(hM:∀ b∈M.l,b<h0.size):Blk h0 w' f s:=by
 obtain ⟨e,c,i⟩:=b
 have a:s.2<w.heap.size:=by
  rcases eb s.2 w.heap.size with a|a
  ·exact a
  ·rw[ek a] at e;cases e
 have d:s.2<h.size:=by
  rcases eb s.2 h.size with a|a
  ·exact a
  ·rw[ek a] at c;cases c
 exact ⟨(u.mo.blk _ a (fun hm=>by have:=hM _ hm;omega)).trans e,(u.gr.blk _ d).trans c,i⟩
theorem Blk.lt {h0:Hp}{w:World}{h:Hp}{s:SA}(b:Blk h0 w h s):s.2<w.heap.size:=by
 rcases eb s.2 w.heap.size with hl|hl
 ·exact hl
 ·have:=b.1;rw[ek hl] at this;cases this
variable (M P ops Q k0) in
def E (h0:Hp)(AL:List Al)(L:Array Bool)(a:Act)(w:World)(h:Hp):Prop :=
  ∀ w' h',Up w h w' h'->∀ (S:List SA) (T:List Al),(S.map (·.1)++T).Perm AL->(∀ s∈S,Blk h0 w' h' s)->(S.map (·.2)).Nodup ->
    A M P ops Q k0 (dP L S) (addA a S) w'
theorem l5 (L:Array Bool)(S:List SA)(i:Nat)(hi:∀ s∈S,s.1.i≠i):dP (L.setIfInBounds i true) S=(dP L S).setIfInBounds i true:=by
  induction S with
  | nil=>rfl
  | cons s S ih =>
    have h1:s.1.i≠i:=hi s (by simp)
    show (dP (L.setIfInBounds i true) S).setIfInBounds s.1.i true=((dP L S).setIfInBounds s.1.i true).setIfInBounds i true
    rw[ih (fun t a=>hi t (by simp[a])),gg _ _ (Ne.symm h1)]
theorem ma (a:Act)(S:List SA)(d:Option Tmp)(v:Value)(b:∀ s∈S,d≠some s.1.t):addA (a.put d v) S=(addA a S).put d v:=by
  induction S with
  | nil=>rfl
  | cons s S ih =>
    have h1:d≠some s.1.t:=b s (by simp)
    show (addA (a.put d v) S).put (some s.1.t) _=((addA a S).put (some s.1.t) _).put d v
    rw[ih (fun t f=>b t (by simp[f]))];exact Act.put_comm _ _ _ (fun x c e=>h1 (c.trans e.symm))
theorem fZ {L:Array Bool}{S:List SA}{j:Nat}(h:(dP L S).getD j true=false):L.getD j true=false:=by
  induction S with
  | nil=>exact h
  | cons s S ih =>
    apply ih
    have a:((dP L S).setIfInBounds s.1.i true).getD j true=false:=h
    by_cases e:s.1.i=j
    . subst e
      obtain ⟨c,b⟩:=FE a
      simp at b
    . rwa [getD_set_ne true e] at a
theorem iD {L:Array Bool}{S:List SA}{j:Nat}(d:Bool)(a:∀ s∈S,s.1.i≠j):(dP L S).getD j d=L.getD j d:=by
  induction S with
  | nil=>rfl
  | cons s S ih =>
    show ((dP L S).setIfInBounds s.1.i true).getD j d=_
    rw[getD_set_ne d (a s (by simp))];exact ih (fun t b=>a t (by simp[b]))
theorem jO {L:Array Bool}{S:List SA}{j:Nat}(h:L.getD j false=true):(dP L S).getD j false=true:=by
 induction S with
 | nil=>exact h
 | cons s S ih=>exact getD_set_true (listed:=dP L S) ih
theorem qy {L:Array Bool}{S:List SA}{i:Nat}(hi:∀ s∈S,s.1.i≠i)(h:i∈Region.ready .any ops L):i∈Region.ready .any ops (dP L S):=by
 rw[mem_ready] at *
 obtain ⟨h0,o,c,a⟩:=h;exact ⟨by rw[iD true hi];exact h0,o,c,fun e b hb=>jO (a e b hb)⟩
theorem mG {o:Oper}(f:∀ cs b,o.op≠.select cs b)(a:Act)(S:List SA)(h:∀ s∈S,s.1.t ∉ o.looksAt ops) :
    execOp (addA a S).eval o=execOp a.eval o/\Region.wanted o (yielded ops (addA a S).tmps)=Region.wanted o (yielded ops a.tmps):=by
  induction S with
  | nil=>exact ⟨rfl,rfl⟩
  | cons s S ih =>
    obtain ⟨i1,j⟩:=ih (fun t i=>h t (by simp[i]));have e:∀ d,some s.1.t=some d->d ∉ o.looksAt ops:=fun d c=>by injection c with c;subst c;exact h s (by simp)
    exact ⟨(execOp_put (ops:=ops) o f _ _ _ e).trans i1,(wanted_put (ops:=ops) o _ _ _ e).trans j⟩
theorem gW {S:List SA}{T AL:List Al}(b:(S.map (·.1)++T).Perm AL){s:SA}(a:s∈S):s.1∈AL :=
 b.mem_iff.1 (gp.2 (.inl (gs.2 ⟨s,a,rfl⟩)))
def OpR (P:Program)(ops:Array Oper)(o:Oper)(a:Act)(w:World)(R:Value->World->Prop):Prop :=
  Region.wanted o (yielded ops a.tmps)=true /\
  ((∃ v w',(execOp a.eval o).run P w=.ok (.value v) w'/\R v w')\/(∃ w',(execOp a.eval o).run P w=.ok .skip w'/\R undef w') \/
   (∃ f args,(execOp a.eval o).run P w=.ok (.enter f args) w/\Calls P f args w (fun e w'=>∃ v,e=.returned v/\R v w')))
theorem OpR.wpOp {i:Nat}{o:Oper}{a:Act}{w:World}{R:Value->World->Prop}{K:Act->World->Prop}(hi:ops[i]?=some o)(h:OpR P ops o a w R)
  (b:∀ v w',R v w'->K (a.put o.dst v) w'):wpOp P ops Q i K a w:=by
 obtain ⟨c,h⟩:=h
 unfold Go.wpOp
 simp only[hi,c,if_true]
 left
 unfold Oper.wp
 rcases h with ⟨v,w',hr,hR⟩|⟨w',hr,hR⟩|⟨f,args,hr,hc⟩
 ·rw[hr];exact b _ _ hR
 ·rw[hr];exact b _ _ hR
 ·rw[hr]
  refine Calls.mono hc fun e w' d=>?_
  obtain ⟨v,rfl,hR⟩:=d;exact b _ _ hR
theorem OpR.addA {o:Oper}{a:Act}{w:World}{R:Value->World->Prop}(h:OpR P ops o a w R)(c:∀ cs b,o.op≠.select cs b)(S:List SA)(d:∀ s∈S,s.1.t ∉ o.looksAt ops) :
  OpR P ops o (addA a S) w R:=by
 obtain ⟨e1,e2⟩:=mG (ops:=ops) c a S d
 unfold OpR at *
 rw[e1,e2];exact h
theorem Bo {x:Al}(ok:AlOk P ops k0 x){a:Act}{w:World}{K:Act->World->Prop}(h:K (a.put (some x.t) (.pointer (some ⟨w.heap.size,0,none⟩))) (w.alloc x.o)):wpOp P ops Q x.i K a w:=by
 obtain ⟨o,h1,d,c,_,b⟩:=ok.ex
 unfold Go.wpOp
 simp only[h1]
 rw[if_pos (by simp[Region.wanted,c])]
 left
 unfold Oper.wp
 rw[b]
 show K (a.put o.dst _) _
 rw[d];exact h
theorem qe {x:Al}(ok:AlOk P ops k0 x){L:Array Bool}(h:L.getD x.i true=false):x.i∈Region.ready .any ops L:=by
 obtain ⟨o,h1,_,_,b,_⟩:=ok.ex;exact mem_ready.2 ⟨h,o,h1,fun e a=>by rw[b] at a;simp at a⟩
theorem nH {h0:Hp}{AL:List Al}{L:Array Bool}{a:Act}{w':World}{e:Hp}{S:List SA}{T:List Al}{x:Al}
  (h:∀ x∈AL,AlOk P ops k0 x)(hM:∀ b∈M.l,b<h0.size)(g:G w' e)(j:h0.size<=e.size)(p:(S.map (·.1)++T).Perm AL)(hb:∀ s∈S,Blk h0 w' e s)(z:(S.map (·.2)).Nodup)(y:x∈T)
  (D:∀ (w1:World) (h1:Hp) (S1:List SA) (d:List Al),Up w' e w1 h1->(S1.map (·.1)++d).Perm AL->(∀ s∈S1,Blk h0 w1 h1 s)->(S1.map (·.2)).Nodup->d.length<T.length->A M P ops Q k0 (dP L S1) (addA a S1) w1) :
  wpOp P ops Q x.i (fun C w1=>Rl M k0 x.i w' w1/\A M P ops Q k0 ((dP L S).setIfInBounds x.i true) C w1) (addA a S) w':=by
 have c:x∈AL:=p.mem_iff.1 (gp.2 (.inr y))
 obtain ⟨d,hT⟩:∃ d,T.Perm (x::d):=by
  obtain ⟨B,l2,rfl⟩:=List.append_of_mem y;exact ⟨B++l2,gx⟩
 have u:Up w' e (w'.alloc x.o) (e.push bj):=Up.allocAny g _ _ (.inr rfl);refine Bo (h x c) ⟨Rl.mo (h x c).lt (u.m M.l).mo,?_⟩;refine D (w'.alloc x.o) (e.push bj) ((x,w'.heap.size)::S) d u ?_ ?_ ?_ ?_
 ·refine List.Perm.trans ?_ p
  show (x::(S.map (·.1)++d)).Perm _
  refine List.Perm.trans gx.symm ?_;exact List.Perm.append_left _ hT.symm
 ·intro s f
  rcases g1.1 f with rfl|f
  ·refine ⟨?_,?_,?_⟩
   ·rw[heap_alloc];exact e6
   ·rw[g.size];exact e6
   ·show h0.size<=w'.heap.size;rw[g.size];exact j
  ·exact (hb s f).up (u.m M.l) hM
 ·show (w'.heap.size::S.map (·.2)).Nodup
  refine g2.2 ⟨fun hm=>?_,z⟩;obtain ⟨s,f,F⟩:=gs.1 hm;have:=(hb s f).lt
  omega
 ·have:=hT.length_eq
  simp at this
  omega
theorem gR {AL:List Al}{L:Array Bool}{S:List SA}{T:List Al}{x:Al}(d:(S.map (·.1)++T).Perm AL)(f:x∈AL)(hr:x.i∈Region.ready .any ops (dP L S)):x∈T:=by
  rcases gp.1 (d.mem_iff.2 f) with hm|hm
  . obtain ⟨s,c,b⟩:=gs.1 hm
    have h1:=(mem_ready.1 hr).1
    exfalso
    rw[<-b] at h1
    clear hr d hm b
    induction S with
    | nil=>cases c
    | cons t S ih =>
      have a:((dP L S).setIfInBounds t.1.i true).getD s.1.i true=false:=h1
      by_cases e:t.1.i=s.1.i
      . rw[e] at a
        obtain ⟨h,b⟩:=FE a
        simp at b
      . rw[getD_set_ne true e] at a
        rcases g1.1 c with rfl|hs'
        . exact e rfl
        . exact ih hs' a
  . exact hm
end region
section laws
variable {M:Ms}{P:Program}{ops:Array Oper}{Q:Exit->Act->World->Prop}{k0:Nat}
theorem tM (L:Array Bool)(S:List SA):(dP L S).size=L.size:=by
 induction S with
 | nil=>rfl
 | cons s S ih=>show ((dP L S).setIfInBounds s.1.i true).size=_;simp[ih]
theorem E.take0 {h0:Hp}{AL:List Al}{L:Array Bool}{a:Act}{w:World}{h:Hp}{i:Nat}{o:Oper}{v:Value}{S:World->Prop}
  (hi:ops[i]?=some o)(hk:i<k0)(f:Region.noSelect ops=true)(hf:Region.free .any ops L i=true)(hr:i∈Region.ready .any ops L)
  (F:∀ x∈AL,x.i≠i/\x.t ∉ o.looksAt ops/\o.dst≠some x.t)(Y:∀ c a w,¬Q (.panic c) a w)
  (I:∀ w w',S w->Mo M.l w w'->S w')(W:∀ w',Mo M.l w w'->S w')(O:YieldsIf P ops S o v a)
  (p:(∀ w,S w)\/(∀ w w',S w->Tl M w w'->S w')\/∀ j B,ops[j]?=some B->k0<=j->j≠i->∃ e∈B.after,Region.binds .any e=true/\e.on=i)
  (H:E M P ops Q k0 h0 AL (L.setIfInBounds i true) (a.put o.dst v) w h):E M P ops Q k0 h0 AL L a w h:=by
 intro w' Z u z T J hb U;have b:∀ s∈z,s.1.i≠i/\s.1.t ∉ o.looksAt ops/\o.dst≠some s.1.t:=fun s d=>F _ (gW J d)
 have K:=H w' Z u z T J hb U;rw[l5 L z i (fun s d=>(b s d).1),ma a z o.dst v (fun s d=>(b s d).2.2)] at K
 have y:=qy (fun s d=>(b s d).1) hr;obtain ⟨e1,e2⟩:=mG (ops:=ops) (Region.noSelect_spec f i o · · hi) a z (fun s d=>(b s d).2.1)
 unfold A at *
 rw[e8 y]
 exact ml hi (Region.noSelect_spec f) (fun c a w V=>absurd V (Y _ _ _)) I _ _ _ _
  (fun j B X D C=>Region.free_spec hi hf j B X D (fZ C)) p y (O.of_same e1 e2) (W _ (u.m M.l).mo) K hk
theorem E.event0 {h0:Hp}{AL:List Al}{L:Array Bool}{a:Act}{w:World}{h:Hp}{i:Nat}{o:Oper}
    (hi:ops[i]?=some o)(hk:i<k0)(J:Region.noSelect ops=true)(hL:L.size=ops.size)(hun:L.getD i true=false)
    (K:∀ j Y,ops[j]?=some Y->L.getD j true=false->j≠i->(∀ x∈AL,x.i≠j)->∃ e∈Y.after,Region.binds .any e=true/\L.getD e.on false=false/\∀ x∈AL,x.i≠e.on)
    (U:∀ e∈o.after,Region.binds .any e=true->L.getD e.on false=true\/∃ x∈AL,x.i=e.on)
    (hal:∀ x∈AL,x.i≠i/\x.t ∉ o.looksAt ops/\o.dst≠some x.t)(D:∀ x∈AL,AlOk P ops k0 x)(hM:∀ b∈M.l,b<h0.size)(g:G w h)(hsz:h0.size<=h.size)
    (H:∀ w' z,Up w h w' z->OpR P ops o a w' (fun v f=>∃ p,UpM M.l w' z f p/\E M P ops Q k0 h0 AL (L.setIfInBounds i true) (a.put o.dst v) f p)):E M P ops Q k0 h0 AL L a w h:=by
  have key:∀ (m:Nat) (T:List Al),T.length=m->∀ w' z,Up w h w' z->∀ (S:List SA),(S.map (·.1)++T).Perm AL->(∀ s∈S,Blk h0 w' z s)->(S.map (·.2)).Nodup ->
      A M P ops Q k0 (dP L S) (addA a S) w':=by
    intro m
    induction m using g3 with
    | _ m ih =>
      intro T hT w' z u S C hb X;have y:∀ s∈S,s.1.i≠i/\s.1.t ∉ o.looksAt ops/\o.dst≠some s.1.t:=fun s c=>hal _ (gW C c)
      refine A.intro (fun W=>?_) (fun j hj=>?_)
      . exfalso
        by_cases hd:∃ e∈o.after,Region.binds .any e=true/\(dP L S).getD e.on false=false
        . obtain ⟨e,B,d,hf⟩:=hd
          rcases U e B d with h1|⟨x,F,hxe⟩
          . rw[jO h1] at hf;cases hf
          . have V:x.i<(dP L S).size:=by
              obtain ⟨o',ho',_⟩:=(D x F).ex;rw[tM,hL];exact (g4.1 ho').1
            have:x.i∈Region.ready .any ops (dP L S):=qe (D x F) (by rw[<-hxe] at hf;simp[fo,V] at hf ⊢;exact hf);rw[W] at this
            cases this
        . have:i∈Region.ready .any ops (dP L S):=mem_ready.2 ⟨by rw[iD true (fun s c=>(y s c).1)];exact hun,o,hi,fun e B d=>by
            cases hv:(dP L S).getD e.on false
            . exact absurd ⟨e,B,d,hv⟩ hd
            . rfl⟩
          rw[W] at this
          cases this
      . by_cases hji:j=i
        . subst hji
          refine OpR.wpOp hi ((H w' z u).addA (Region.noSelect_spec J j o · · hi) S (fun s c=>(y s c).2.1)) ?_;rintro v f ⟨p,u2,H2⟩;refine ⟨Rl.mo hk u2.mo,?_⟩;rw[<-l5 L S j (fun s c=>(y s c).1),<-ma a S o.dst v (fun s c=>(y s c).2.2)];exact H2 f p (Up.refl u2.g) S T C (fun s c=>(hb s c).up u2 hM) X
        . obtain ⟨I,Y,hoj,O⟩:=mem_ready.1 hj
          have F:∃ x∈AL,x.i=j:=by
            refine Classical.byContradiction fun Z=>?_
            obtain ⟨e,B,d,hf,hne⟩:=K j Y hoj (fZ I) hji (fun x F B=>Z ⟨x,F,B⟩);have:=O e B d;rw[iD false (fun s c=>hne _ (gW C c)),hf] at this
            cases this
          obtain ⟨x,hxA,rfl⟩:=F;have hxT:=gR C hxA hj;exact nH D hM u.g (eu hsz u.gr.size) C hb X hxT (fun w1 h1 S1 T1 u1 hp1 hb1 hn1 V=>ih T1.length oM T1 rfl w1 h1 (u.trans u1) S1 hp1 hb1 hn1)
  exact fun w' z u S T C hb X=>key _ T rfl w' z u S C hb X
theorem E.fin0 {h0:Hp}{AL:List Al}{L:Array Bool}{a:Act}{w:World}{h:Hp}(hL:L.size=ops.size)
    (W:∀ j F,ops[j]?=some F->L.getD j true=false->(∃ x∈AL,x.i=j)\/∀ x∈AL,∃ e∈F.after,Region.binds .any e=true/\e.on=x.i)
    (C:∀ x∈AL,L.getD x.i true=false)(B:∀ x∈AL,AlOk P ops k0 x)(hM:∀ b∈M.l,b<h0.size)(V:h0.size<=h.size)(hnd:(AL.map (·.i)).Nodup)
    (H:∀ w' c,Up w h w' c->∀ S:List SA,(S.map (·.1)).Perm AL->(∀ s∈S,Blk h0 w' c s)->(S.map (·.2)).Nodup->A M P ops Q k0 (dP L S) (addA a S) w'):E M P ops Q k0 h0 AL L a w h:=by
  have key:∀ (m:Nat) (T:List Al),T.length=m->∀ w' c,Up w h w' c->∀ (S:List SA),(S.map (·.1)++T).Perm AL->(∀ s∈S,Blk h0 w' c s)->(S.map (·.2)).Nodup ->
      A M P ops Q k0 (dP L S) (addA a S) w':=by
    intro m
    induction m using g3 with
    | _ m ih =>
      intro T hT w' c u S f hb D;cases T with
      | nil=>exact H w' c u S (by simpa using f) hb D
      | cons t T' =>
        have p:t∈AL:=f.mem_iff.1 (gp.2 (.inr (by simp)));have d:((S.map (·.1)++t::T').map (·.i)).Nodup:=(f.map (·.i)).nodup_iff.2 hnd
        have X:∀ s∈S,s.1.i≠t.i:=fun s hs O=>by
          rw[List.map_append,List.nodup_append] at d
          exact d.2.2 s.1.i (gs.2 ⟨s.1,gs.2 ⟨s,hs,rfl⟩,rfl⟩) t.i (gs.2 ⟨t,by simp,rfl⟩) O
        have o:t.i∈Region.ready .any ops (dP L S):=qe (B t p) (by rw[iD true X];exact C t p);refine A.intro (fun h0'=>by rw[h0'] at o;cases o) (fun j hj=>?_);obtain ⟨y,F,U,z⟩:=mem_ready.1 hj
        rcases W j F U (fZ y) with ⟨x,hxA,rfl⟩|hw
        . have Y:=gR f hxA hj
          exact nH B hM u.g (eu V u.gr.size) f hb D Y (fun w1 h1 S1 T1 u1 hp1 Z K hlt=>ih T1.length oM T1 rfl w1 h1 (u.trans u1) S1 hp1 Z K)
        . obtain ⟨e,O,J,I⟩:=hw t p
          have:=z e O J;rw[I] at this
          obtain ⟨hl,hv⟩:=FE (mem_ready.1 o).1
          simp[fo,hl,hv] at this
  exact fun w' c u S T f hb D=>key _ T rfl w' c u S f hb D
end laws
abbrev ck:=List (Nat × Value)
def fY (Γ:ck):List Deferred:=match Γ.lookup 1000000 with|some (.int _ D)=>[{ target:=.collected D.toNat,args:=#[] }]|_=>[]
structure Kn (n:Nat) (a:Act) (Γ:ck):Prop where
  df:a.defers=fY Γ
  sz:a.tmps.size=n
  nb:n<=1000000
  has:∀ t v,t≠1000000->Γ.lookup t=some v->a.tmps[t]?=some v
def ev (Γ:ck):Operand->Value
  | .tmp t=>(Γ.lookup t).getD undef
  | .const v=>v
  | .global g=>.pointer (some ⟨g,0,none⟩)
  | .func f=>.func (.func f) #[] #[]
def ao (ops:Array Oper)(i:Nat):Oper:=ops.getD i default
def gT (Γ:ck):Operand->Bool
  | .tmp t=>t != 1000000 && (Γ.lookup t).isSome
  | _=>true
def bp (Γ:ck)(o:Oper):Bool:=o.op.operands.all (gT Γ)
def bA (ops:Array Oper)(Γ:ck)(o:Oper):Option Bool :=
  match o.guard with
  | none=>some true
  | some (g,want)=>match ((ops[g]?).bind (·.dst)).bind (fun t=>if t=1000000 then none else Γ.lookup t) with
    | some (.bool b)=>some (b == want)
    | some (.tuple _)=>some false
    | _=>none
theorem Kn.put {n:Nat}{a:Act}{Γ:ck}(k:Kn n a Γ){t:Nat}(h:t<n)(v:Value):Kn n (a.put (some t) v) ((t,v)::Γ):=by
 have c:=k.nb;refine ⟨?_,by simpa [Act.put] using k.sz,k.nb,fun s u d b=>?_⟩
 ·have e:((1000000:Nat) == t)=false:=by simp;omega
  show a.defers=_
  rw[k.df];unfold fY;rw[g5,e]
 rw[g5] at b
 by_cases e:s=t
 ·subst e
  simp at b
  subst b
  simp[Act.put,k.sz,h]
 ·have f:(s == t)=false:=by simp[e]
  rw[f] at b
  simp only[Act.put]
  rw[g6 (Ne.symm e)];exact k.has s u d b
theorem Kn.eval {n:Nat}{a:Act}{Γ:ck}(k:Kn n a Γ){x:Operand}(b:gT Γ x=true):a.eval x=ev Γ x:=by
  cases x with
  | tmp t =>
    have b:(t != 1000000 && (Γ.lookup t).isSome)=true:=b;rw[g7] at b
    obtain ⟨v,hv⟩:=g8.1 b.2;have:=k.has t v (by simpa using b.1) hv
    simp[Act.eval,ev,hv,this]
  | _=>rfl
theorem Kn.exec {n:Nat}{a:Act}{Γ:ck}(k:Kn n a Γ){o:Oper}(c:∀ cs b,o.op≠.select cs b)(hk:bp Γ o=true):execOp a.eval o=execOp (ev Γ) o :=
 execOp_congr o c (fun x d=>k.eval ((g9.1 hk) x d))
theorem Kn.want {n:Nat}{a:Act}{Γ:ck}(k:Kn n a Γ){ops:Array Oper}{o:Oper}{b:Bool}(h:bA ops Γ o=some b):Region.wanted o (yielded ops a.tmps)=b:=by
  unfold bA at h
  unfold Region.wanted
  split at h
  . rename_i d;simp only[d];simpa using h
  . rename_i g want d
    simp only[d]
    cases c:(ops[g]?).bind (·.dst) with
    | none=>rw[c] at h;simp at h
    | some t =>
      rw[c] at h
      simp only[Option.bind_some] at h
      by_cases ht0:t=1000000
      . rw[if_pos ht0] at h;simp at h
      rw[if_neg ht0] at h
      cases hv:Γ.lookup t with
      | none=>rw[hv] at h;simp at h
      | some u =>
        rw[hv] at h
        have e:=k.has t u ht0 hv;cases u with
        | bool x=>simp at h;subst h;simp[yielded,c,e]
        | tuple x=>simp at h;subst h;simp[yielded,c,e]
        | _=>simp at h
theorem Kn.mono {n:Nat}{a:Act}{Γ Γ':ck}(k:Kn n a Γ)(h:∀ t v,Γ'.lookup t=some v->Γ.lookup t=some v)(b:fY Γ'=fY Γ):Kn n a Γ':=⟨k.df.trans b.symm,k.sz,k.nb,fun t v c hv=>k.has t v c (h t v hv)⟩
def jL (Γ:ck):List Nat->ck
  | []=>[]
  | t::ts=>match Γ.lookup t with|some v=>(t,v)::jL Γ ts|none=>jL Γ ts
theorem eT (Γ:ck):∀ (ts:List Nat) (t:Nat) (v:Value),(jL Γ ts).lookup t=some v->Γ.lookup t=some v
  | [],_,_,h=>by simp[jL] at h
  | s :: ts,t,v,h=>by
    unfold jL at h
    split at h
    . rename_i u b
      rw[g5] at h
      by_cases e:t=s
      . subst e;simp at h;subst h;exact b
      . have a:(t == s)=false:=by simp[e]
        rw[a] at h
        exact eT Γ ts t v h
    . exact eT Γ ts t v h
abbrev Po:=Act->World->Prop
def iE (N R:Po)(X:Nat->Po):Exit->Act->World->Prop
  | .normal,a,w=>N a w
  | .ret,a,w=>R a w
  | .exit i,a,w=>X i a w
  | _,_,_=>False
def CG (P:Program)(n:Nat)(N R:Po)(X:Nat->Po)(c:Code)(Γ:ck)(w:World):Prop:=∀ a,Kn n a Γ->c.wp P (iE N R X) a w
def EG (M:Ms)(P:Program)(n:Nat)(N R:Po)(X:Nat->Po)(ops:Array Oper)(k0:Nat)(h0:Hp)(AL:List Al)(L:Array Bool)(Γ:ck)(w:World)(h:Hp):Prop :=
  (∀ x∈AL,AlOk P ops k0 x)->(∀ b∈M.l,b<h0.size)->G w h->h0.size<=h.size->∀ a,Kn n a Γ->E M P ops (iE N R X) k0 h0 AL L a w h
def AG (M:Ms)(P:Program)(n:Nat)(N R:Po)(X:Nat->Po)(ops:Array Oper)(k0:Nat)(L:Array Bool)(Γ:ck)(w:World):Prop :=
  ∀ a,Kn n a Γ->A M P ops (iE N R X) k0 L a w
section steps
variable {M:Ms}{P:Program}{n:Nat}{N R:Po}{X:Nat->Po}{ops:Array Oper}{k0:Nat}{h0:Hp}{AL:List Al}{L:Array Bool}{Γ:ck}{w:World}{h:Hp}
def tg (ops:Array Oper)(AL:List Al)(i:Nat)(o:Oper):Bool:=AL.all fun x=>x.i != i && !(o.looksAt ops).contains x.t && o.dst != some x.t
theorem iy {i:Nat}{o:Oper}(b:tg ops AL i o=true):∀ x∈AL,x.i≠i/\x.t ∉ o.looksAt ops/\o.dst≠some x.t:=by
 intro x a;have:=(hH.1 b) x a
 simp only[g7,bne_iff_ne,ne_eq,Bool.not_eq_true',List.contains_eq_mem,decide_eq_false_iff_not] at this
 exact ⟨this.1.1,this.1.2,this.2⟩
def dr (n:Nat)(ops:Array Oper)(k0:Nat)(AL:List Al)(L:Array Bool)(i t:Nat):Bool :=
  let o:=ao ops i
  decide (i<ops.size) && decide (i<k0) && Region.noSelect ops && Region.free .any ops L i && (Region.ready .any ops L).contains i && tg ops AL i o && (o.dst == some t) && decide (t<n)
structure TakeOk (n:Nat) (ops:Array Oper) (k0:Nat) (AL:List Al) (L:Array Bool) (i t:Nat):Prop where
  get:ops[i]?=some (ao ops i)
  lt:i<k0
  sel:Region.noSelect ops=true
  free:Region.free .any ops L i=true
  ready:i∈Region.ready .any ops L
  al:∀ x∈AL,x.i≠i/\x.t ∉ (ao ops i).looksAt ops/\(ao ops i).dst≠some x.t
  dst:(ao ops i).dst=some t
  tn:t<n
theorem bC {i:Nat}(h:i<ops.size):ops[i]?=some (ao ops i):=by
 unfold ao;simp[h]
theorem dB {i t:Nat}(h:dr n ops k0 AL L i t=true):TakeOk n ops k0 AL L i t:=by
 unfold dr at h
 simp only[g7,decide_eq_true_eq,beq_iff_eq] at h
 obtain ⟨⟨⟨⟨⟨⟨⟨h1,e⟩,b⟩,c⟩,a⟩,d⟩,j⟩,f⟩:=h;exact ⟨bC h1,e,b,c,by simpa using a,iy d,j,f⟩
theorem Rg.pure (i t:Nat)(v:Value)(b:(dr n ops k0 AL L i t && bp Γ (ao ops i))=true)(o:bA ops Γ (ao ops i)=some true)
  (hr:∀ w,(execOp (ev Γ) (ao ops i)).run P w=.ok (.value v) w)
  (k:EG M P n N R X ops k0 h0 AL (L.setIfInBounds i true) ((t,v)::Γ) w h):EG M P n N R X ops k0 h0 AL L Γ w h:=by
 rw[g7] at b
 obtain ⟨b,f⟩:=b;have c:=dB b;intro e hM g d a j;have e1:=j.exec (Region.noSelect_spec c.sel i _ · · c.get) f;refine E.take0 (v:=v) (S:=fun _=>True) c.get c.lt c.sel c.free c.ready c.al (fun _ _ _ l=>l) (fun _ _ _ _=>trivial) (fun _ _=>trivial) (.inl ⟨j.want o,fun w _=>by rw[e1];exact hr w⟩) (.inl fun _=>trivial) ?_;rw[c.dst];exact k e hM g d _ (j.put c.tn v)
theorem Rg.skip (i t:Nat)(l:dr n ops k0 AL L i t=true)(j:bA ops Γ (ao ops i)=some false)
  (k:EG M P n N R X ops k0 h0 AL (L.setIfInBounds i true) ((t,undef)::Γ) w h):EG M P n N R X ops k0 h0 AL L Γ w h:=by
 have c:=dB l;intro d hM g b a e;refine E.take0 (v:=undef) (S:=fun _=>True) c.get c.lt c.sel c.free c.ready c.al (fun _ _ _ f=>f) (fun _ _ _ _=>trivial) (fun _ _=>trivial) (.inr ⟨e.want j,rfl⟩) (.inl fun _=>trivial) ?_;rw[c.dst];exact k d hM g b _ (e.put c.tn undef)
def ip (ops:Array Oper)(k0 i:Nat):Bool:=(hO ops.size).all fun j=>decide (j<k0) || (ao ops j).after.any fun e=>Region.binds .any e && e.on == i
theorem jH {i:Nat}(h:ip ops k0 i=true):∀ j b,ops[j]?=some b->k0<=j->j≠i->∃ e∈b.after,Region.binds .any e=true/\e.on=i:=by
 intro j b c hk _;have a:=(g4.1 c).1;have e:b=ao ops j:=by have:=bC (ops:=ops) a;rw[c] at this;injection this
 have:=(hH.1 h) j (hP.2 a)
 simp only[i2,decide_eq_true_eq,i3,g7,beq_iff_eq] at this
 rcases this with h1|⟨x,hx,h2⟩
 ·omega
 ·rw[e];exact ⟨_,i4 hx,h2⟩
theorem Rg.load (i t:Nat)(v:Value)(b:(dr n ops k0 AL L i t && bp Γ (ao ops i) && ip ops k0 i)=true)(y:bA ops Γ (ao ops i)=some true)
  (hr:∀ w',Mo M.l w w'->(execOp (ev Γ) (ao ops i)).run P w'=.ok (.value v) w')
  (k:EG M P n N R X ops k0 h0 AL (L.setIfInBounds i true) ((t,v)::Γ) w h):EG M P n N R X ops k0 h0 AL L Γ w h:=by
 rw[g7,g7] at b
 obtain ⟨⟨b,j⟩,p⟩:=b;have c:=dB b;intro o hM g e a d;have e1:=d.exec (Region.noSelect_spec c.sel i _ · · c.get) j;refine E.take0 (v:=v) (S:=fun w'=>Mo M.l w w') c.get c.lt c.sel c.free c.ready c.al (fun _ _ _ u=>u) (fun _ _ h1 x=>h1.trans x) (fun _ f=>f) (.inl ⟨d.want y,fun w' f=>by rw[e1];exact hr w' f⟩) (.inr (.inr (jH p))) ?_;rw[c.dst];exact k o hM g e _ (d.put c.tn v)
theorem Rg.loadZ (i t:Nat)(v:Value){bs:List Nat}(hz:M.z=some (h0.size,bs))(f:(dr n ops k0 AL L i t && bp Γ (ao ops i))=true)(y:bA ops Γ (ao ops i)=some true)
  (hr:∀ w',(∀ b,b<h0.size->b ∉ bs->b ∉ M.l->w'.heap[b]?=w.heap[b]?)->(execOp (ev Γ) (ao ops i)).run P w'=.ok (.value v) w')
  (k:EG M P n N R X ops k0 h0 AL (L.setIfInBounds i true) ((t,v)::Γ) w h):EG M P n N R X ops k0 h0 AL L Γ w h:=by
 rw[g7] at f
 obtain ⟨f,o⟩:=f;have c:=dB f;intro p hM g e a j;have u:h0.size<=w.heap.size:=by rw[g.size];exact e
 have e1:=j.exec (Region.noSelect_spec c.sel i _ · · c.get) o;refine E.take0 (v:=v) (S:=fun w'=>h0.size<=w'.heap.size/\∀ b,b<h0.size->b ∉ bs->b ∉ M.l->w'.heap[b]?=w.heap[b]?) c.get c.lt c.sel c.free c.ready c.al (fun _ _ _ x=>x) ?_ ?_ (.inl ⟨j.want y,fun w' B=>by rw[e1];exact hr w' B.2⟩) (.inr (.inl ?_)) ?_
 ·intro w1 w2 s m
  exact ⟨eu s.1 m.size,fun b hb h1 d=>(m.blk b (ey hb s.1) d).trans (s.2 b hb h1 d)⟩
 ·intro w' m
  exact ⟨eu u m.size,fun b hb h1 d=>m.blk b (ey hb u) d⟩
 ·intro w1 w2 s m
  have:=m h0.size bs hz;exact ⟨eu s.1 this.1,fun b hb h1 d=>(this.2 b hb h1).trans (s.2 b hb h1 d)⟩
 ·rw[c.dst]
  exact k p hM g e _ (j.put c.tn v)
def nh (n:Nat)(ops:Array Oper)(k0:Nat)(AL:List Al)(L:Array Bool)(i t:Nat):Bool :=
  let o:=ao ops i
  decide (i<ops.size) && decide (i<k0) && Region.noSelect ops && (L.size == ops.size) && (L.getD i true == false) &&
  ((hO ops.size).all fun j=>L.getD j true || j == i || AL.any (·.i == j) || (ao ops j).after.any fun e=>Region.binds .any e && (L.getD e.on false == false) && AL.all (·.i != e.on)) &&
  (o.after.all fun e=>!Region.binds .any e || L.getD e.on false || AL.any (·.i == e.on)) &&
  tg ops AL i o && (o.dst == some t) && decide (t<n)
theorem Rg.event (i t:Nat)(B:(nh n ops k0 AL L i t && bp Γ (ao ops i))=true)(hw:bA ops Γ (ao ops i)=some true)
  (H:∀ w' D,Up w h w' D ->
   (∃ v b c,(execOp (ev Γ) (ao ops i)).run P w'=.ok (.value v) b/\UpM M.l w' D b c/\EG M P n N R X ops k0 h0 AL (L.setIfInBounds i true) ((t,v)::Γ) b c) \/
   (∃ f args,(execOp (ev Γ) (ao ops i)).run P w'=.ok (.enter f args) w'/\Calls P f args w' (fun e b=>∃ v c,e=.returned v/\UpM M.l w' D b c/\EG M P n N R X ops k0 h0 AL (L.setIfInBounds i true) ((t,v)::Γ) b c))) :
  EG M P n N R X ops k0 h0 AL L Γ w h:=by
 rw[g7] at B
 obtain ⟨B,U⟩:=B
 unfold nh at B
 simp only[g7,decide_eq_true_eq,beq_iff_eq] at B
 obtain ⟨⟨⟨⟨⟨⟨⟨⟨⟨h1,h2⟩,W⟩,h4⟩,h5⟩,h6⟩,h7⟩,h8⟩,Y⟩,F⟩:=B;have o:=bC (ops:=ops) h1;intro p hM g C a J;have e1:=J.exec (Region.noSelect_spec W i _ · · o) U;refine E.event0 o h2 W h4 h5 ?_ ?_ (iy h8) p hM g C ?_
 ·intro j oj V Q O S
  have I:=(g4.1 V).1;have e:oj=ao ops j:=by have:=bC (ops:=ops) I;rw[V] at this;injection this
  have:=(hH.1 h6) j (hP.2 I)
  simp only[i2,Q,la,false_or,beq_iff_eq,O,na,i3,g7] at this
  rcases this with ⟨x,hx,hxe⟩|⟨x,hx,⟨hb,hL⟩,hno⟩
  ·exact absurd hxe (S x hx)
  ·rw[e]
   refine ⟨_,i4 hx,hb,hL,fun y Z=>?_⟩;have:=(hH.1 hno) y Z
   simpa using this
 ·intro e K hb
  have:=(g9.1 h7) e K
  simp only[i2,hb,oi,la,false_or,na,beq_iff_eq] at this
  exact this
 ·intro w' D u
  refine ⟨J.want hw,?_⟩;rw[e1];have d:=eu C u.gr.size
  rcases H w' D u with ⟨v,b,c,hr,z,k⟩|⟨f,args,hr,hcall⟩
  ·exact .inl ⟨v,b,hr,c,z,by rw[Y];exact k p hM z.g (eu d z.gr.size) _ (J.put F v)⟩
  ·exact .inr (.inr ⟨f,args,hr,hcall.mono fun e b ⟨v,c,K,z,k⟩=>⟨v,K,c,z,by rw[Y];exact k p hM z.g (eu d z.gr.size) _ (J.put F v)⟩⟩)
theorem Rg.call (i t f:Nat)(args:Array Value)(c:(nh n ops k0 AL L i t && bp Γ (ao ops i))=true)(b:bA ops Γ (ao ops i)=some true)
 (hr:∀ w',(execOp (ev Γ) (ao ops i)).run P w'=.ok (.enter f args) w')
 (H:∀ w' a,Up w h w' a->Calls P f args w' (fun e w''=>∃ v h'',e=.returned v/\UpM M.l w' a w'' h''/\EG M P n N R X ops k0 h0 AL (L.setIfInBounds i true) ((t,v)::Γ) w'' h'')) :
 EG M P n N R X ops k0 h0 AL L Γ w h:=Rg.event i t c b (fun w' a u=>.inr ⟨f,args,hr w',H w' a u⟩)
def fT (ops:Array Oper)(AL:List Al)(L:Array Bool):Bool :=
  (L.size == ops.size) && ((hO ops.size).all fun j=>L.getD j true || AL.any (·.i == j) || AL.all fun x=>(ao ops j).after.any fun e=>Region.binds .any e && e.on == x.i) && AL.all (fun x=>L.getD x.i true == false)
theorem Rg.fin (f:fT ops AL L=true)(p:(AL.map (·.i)).Nodup)
  (H:∀ a,Kn n a Γ->∀ w' h',Up w h w' h'->∀ S:List SA,(S.map (·.1)).Perm AL->(∀ s∈S,Blk h0 w' h' s)->(S.map (·.2)).Nodup->A M P ops (iE N R X) k0 (dP L S) (addA a S) w') :
  EG M P n N R X ops k0 h0 AL L Γ w h:=by
 unfold fT at f
 simp only[g7,beq_iff_eq] at f
 obtain ⟨⟨h1,C⟩,D⟩:=f;intro o hM _ d a B;refine E.fin0 h1 ?_ ?_ o hM d p (H a B)
 ·intro j F u c
  have b:=(g4.1 u).1;have e:F=ao ops j:=by have:=bC (ops:=ops) b;rw[u] at this;injection this
  have:=(hH.1 C) j (hP.2 b)
  simp only[i2,c,la,false_or,na,beq_iff_eq] at this
  rcases this with h4|h4
  ·exact .inl h4
  ·refine .inr fun x l=>?_
   have:=(hH.1 h4) x l
   simp only[i3,g7,beq_iff_eq] at this
   obtain ⟨y,z,hb⟩:=this;rw[e];exact ⟨_,i4 z,hb⟩
 ·intro x l
  have:=(hH.1 D) x l
  simpa using this
theorem Rg.fin0 (d:fT ops [] L=true)(H:∀ w' b,Up w h w' b->AG M P n N R X ops k0 L Γ w'):EG M P n N R X ops k0 h0 [] L Γ w h:=by
 refine Rg.fin d (by simp) ?_;intro a e w' b u S c _ _;have:S=[]:=by simpa using c.length_eq
 subst this;exact H w' b u a e
theorem Rg.fin1 {x:Al}(d:(fT ops [x] L && decide (x.t<n))=true) 
    (H:∀ w' c b,Up w h w' c->Blk h0 w' c (x,b)->AG M P n N R X ops k0 (L.setIfInBounds x.i true) ((x.t,.pointer (some ⟨b,0,none⟩))::Γ) w'):EG M P n N R X ops k0 h0 [x] L Γ w h:=by
  rw[g7,decide_eq_true_eq] at d
  refine Rg.fin d.1 (by simp) ?_;intro a j w' c u S e hb _;have f:=e.length_eq
  match S,f with
  | [s],_ =>
    have:s.1=x:=by simpa using e
    obtain ⟨y,b⟩:=s
    simp at this
    subst this;exact H w' c b u (hb _ (by simp)) _ (j.put d.2 _)
theorem Rg.fin2 {x y:Al}(B:(fT ops [x,y] L && decide (x.t<n) && decide (y.t<n) && (x.t != y.t) && (x.i != y.i))=true) 
    (H:∀ w' o b c,Up w h w' o->Blk h0 w' o (x,b)->Blk h0 w' o (y,c)->b≠c->AG M P n N R X ops k0 ((L.setIfInBounds y.i true).setIfInBounds x.i true) ((x.t,.pointer (some ⟨b,0,none⟩))::(y.t,.pointer (some ⟨c,0,none⟩))::Γ) w'):EG M P n N R X ops k0 h0 [x,y] L Γ w h:=by
  simp only[g7,decide_eq_true_eq,bne_iff_ne,ne_eq] at B
  obtain ⟨⟨⟨⟨B,h1⟩,J⟩,U⟩,D⟩:=B;refine Rg.fin B (by simp[D]) ?_;intro a F w' o u S I hb Q;have V:=I.length_eq
  match S,V with
  | [s, t],_ =>
    obtain ⟨f,b⟩:=s;obtain ⟨j,c⟩:=t;have z:b≠c:=by simpa using Q
    have hm:f=x/\j=y\/f=y/\j=x:=by
      have l:[f,j].Perm [x,y]:=by simpa using I
      have O:f∈[x,y]:=l.mem_iff.1 (by simp);have m2:x∈[f,j]:=l.mem_iff.2 (by simp);have K:y∈[f,j]:=l.mem_iff.2 (by simp);have p:x≠y:=fun e=>D (by rw[e])
      simp at O m2 K
      rcases O with rfl|rfl
      . rcases K with e|e
        . exact absurd e.symm p
        . exact .inl ⟨rfl,e.symm⟩
      . rcases m2 with e|e
        . exact absurd e p
        . exact .inr ⟨rfl,e.symm⟩
    rcases hm with ⟨rfl,rfl⟩|⟨rfl,rfl⟩
    . exact H w' o b c u (hb _ (by simp)) (hb _ (by simp)) z _ ((F.put J _).put h1 _)
    . have e1:dP L [(f,b),(j,c)]=(L.setIfInBounds f.i true).setIfInBounds j.i true:=gg _ _ D
      have e2:addA a [(f,b),(j,c)]=(a.put (some f.t) (.pointer (some ⟨b,0,none⟩))).put (some j.t) (.pointer (some ⟨c,0,none⟩)) :=
        Act.put_comm (x:=some j.t) (y:=some f.t) a _ _ (fun d W C=>U (Option.some.inj (W.trans C.symm)))
      rw[e1,e2];exact H w' o c b u (hb _ (by simp)) (hb _ (by simp)) (Ne.symm z) _ ((F.put J _).put h1 _)
def iz (ops:Array Oper)(k0:Nat)(L:Array Bool)(i:Nat):Bool :=
  decide (i<ops.size) && decide (k0<=i) && Region.noSelect ops && (Region.ready .any ops L == [i])
theorem A.one {a:Act}{i:Nat}(b:iz ops k0 L i=true){Q:Exit->Act->World->Prop}{o:Oper}(d:ops[i]?=some o){R':Value->World->Prop}(h:OpR P ops o a w R')(e:∀ v w',R' v w'->Tl M w w')
  (f:∀ v w',R' v w'->A M P ops Q k0 (L.setIfInBounds i true) (a.put o.dst v) w'):A M P ops Q k0 L a w:=by
 unfold iz at b
 simp only[g7,decide_eq_true_eq,beq_iff_eq] at b
 refine A.intro (fun h0=>by rw[b.2] at h0;cases h0) (fun j c=>?_);rw[b.2,ov] at c
 subst c;exact OpR.wpOp d h (fun v w' hr=>⟨Rl.tl b.1.1.2 (e v w' hr),f v w' hr⟩)
theorem kW {i:Nat}(a:iz ops k0 L i=true):ops[i]?=some (ao ops i)/\Region.noSelect ops=true:=by
 unfold iz at a
 simp only[g7,decide_eq_true_eq,beq_iff_eq] at a
 exact ⟨bC a.1.1.1,a.1.2⟩
theorem T.val (i t:Nat)(v:Value)(w':World)(c:(iz ops k0 L i && bp Γ (ao ops i) && ((ao ops i).dst == some t) && decide (t<n))=true)(j:bA ops Γ (ao ops i)=some true)
  (hr:(execOp (ev Γ) (ao ops i)).run P w=.ok (.value v) w')(k:AG M P n N R X ops k0 (L.setIfInBounds i true) ((t,v)::Γ) w')(f:Tl M w w':=by exact Tl.refl _ _):AG M P n N R X ops k0 L Γ w:=by
 simp only[g7,decide_eq_true_eq,beq_iff_eq] at c
 obtain ⟨⟨⟨h1,h⟩,l⟩,p⟩:=c;obtain ⟨d,o⟩:=kW h1;intro a b;refine A.one h1 d (R':=fun u w1=>u=v/\w1=w') ⟨b.want j,.inl ⟨v,w',?_,rfl,rfl⟩⟩ (fun _ _ e=>e.2▸f) ?_
 ·rw[b.exec (Region.noSelect_spec o i _ · · d) h];exact hr
 ·rintro _ _ ⟨rfl,rfl⟩
  rw[l];exact k _ (b.put p _)
theorem T.store (i:Nat)(w':World)(c:(iz ops k0 L i && bp Γ (ao ops i) && ((ao ops i).dst == none))=true)(h:bA ops Γ (ao ops i)=some true)
  (hr:(execOp (ev Γ) (ao ops i)).run P w=.ok .skip w')(j:Tl M w w')(k:AG M P n N R X ops k0 (L.setIfInBounds i true) Γ w'):AG M P n N R X ops k0 L Γ w:=by
 simp only[g7,beq_iff_eq] at c
 obtain ⟨⟨h1,o⟩,l⟩:=c;obtain ⟨d,f⟩:=kW h1;intro a b;refine A.one h1 d (R':=fun u w1=>u=undef/\w1=w') ⟨b.want h,.inr (.inl ⟨w',?_,rfl,rfl⟩)⟩ (fun _ _ e=>e.2▸j) ?_
 ·rw[b.exec (Region.noSelect_spec f i _ · · d) o];exact hr
 ·rintro _ _ ⟨rfl,rfl⟩
  rw[l];exact k _ b
theorem T.done (b:(Region.ready .any ops L).isEmpty=true)(k:∀ a,Kn n a Γ->N a w):AG M P n N R X ops k0 L Γ w :=
 fun a c=>A.done b (k a c)
theorem T.next {y:Code}{N' R':Po}{X':Nat->Po}(b:(Region.ready .any ops L).isEmpty=true)(k:CG P n N' R' X' y Γ w):AG M P n (fun a w=>y.wp P (iE N' R' X') a w) R X ops k0 L Γ w :=
 fun a c=>A.done b (k a c)
end steps
section code
variable {P:Program}{n:Nat}{N R:Po}{X:Nat->Po}{Γ:ck}{w:World}
def kC (ops:Array Oper):Bool:=(hO ops.size).all fun i=>(ao ops i).after.all fun e=>!Region.binds .any e || decide (e.on<i)
theorem oa {M:Ms}{ops:Array Oper}{Q:Exit->Act->World->Prop}{k0:Nat}(h:kC ops=true):∀ (m k:Nat) (L:Array Bool) (a:Act) (w:World),k+m=ops.size->L.size=ops.size ->
    (∀ j,j<ops.size->L.getD j true=decide (j<k))->A M P ops Q k0 L a w->wpOps P ops Q (o0 k m) a w:=by
  intro m
  induction m with
  | zero =>
    intro k L a w hk u b d
    have hz:Region.ready .any ops L=[]:=by
      cases hr:Region.ready .any ops L with
      | nil=>rfl
      | cons i l =>
        have hm:i∈Region.ready .any ops L:=by rw[hr];simp
        obtain ⟨h0,o,D,_⟩:=mem_ready.1 hm;have hi:=(g4.1 D).1;rw[b i hi] at h0
        simp at h0
        omega
    show Q .normal a w
    unfold A at d
    cases x:rem L with
    | zero=>rw[x] at d;exact d.2
    | succ n=>rw[x] at d;exact d.1 hz
  | succ m ih =>
    intro k L a w hk u b d;have f:k<ops.size:=by omega
    have c:k∈Region.ready .any ops L:=by
      refine mem_ready.2 ⟨by rw[b k f];simp,ao ops k,bC f,fun e B hb=>?_⟩;have h1:=(hH.1 h) k (hP.2 f);have y:=(g9.1 h1) e B
      simp only[hb,oi,Bool.false_or,decide_eq_true_eq] at y
      have p:=b e.on oM;rw[show decide (e.on<k)=true by simp[y]] at p
      have H:e.on<L.size:=by omega
      simp[fo,H] at p ⊢
      exact p
    rw[o7,wpOps_cons]
    unfold A at d
    rw[e8 c] at d
    refine wpOp_mono (fun C w' F=>?_) (d.2 k c);refine ih (k+1) (L.setIfInBounds k true) C w' oM (by simpa using u) ?_ F.2;intro j z
    by_cases e:k=j
    . subst e
      simp[fo,u,z]
    . rw[getD_set_ne true e,b j z]
      congr 1
      simp only[eq_iff_iff]
      omega
theorem iI (m:Nat):rem (o8 m false)=m:=by unfold rem;simp
theorem lu {m j:Nat}(a:j<m):(o8 m false).getD j true=false:=by simp[fo,a]
theorem CG.region {id:Nat}{ops:Array Oper}{d:Bool}(M:Ms)(k0:Nat)(AL:List Al)(hm:P.follows .mixedOrders=true)(c:kC ops=true){h:Hp}(g:G w h)(f:∀ x∈AL,AlOk P ops k0 x)(hM:∀ b∈M.l,b<h.size)
    (H:EG M P n N R X ops k0 h AL (o8 ops.size false) Γ w h):CG P n N R X (.region id ops d) Γ w:=by
  intro a o;have i:∀ w' e,Up w h w' e->A M P ops (iE N R X) k0 (o8 ops.size false) a w':=fun w' e u=>H f hM g (ep _) a o w' e u [] AL (List.Perm.refl _) (fun _ y=>by cases y) (by simp)
  cases d with
  | true =>
    refine wp_region_any hm ?_;have h1:=i w.drew h (Up.drew (Up.refl g))
    unfold A at h1
    rw[iI] at h1
    exact l6 _ _ _ _ _ _ _ _ _ h1
  | false =>
    refine wp_region ?_;rw[pa];exact oa c _ 0 _ a w oM (by simp) (fun j p=>by rw[lu p];simp) (i w h (Up.refl g))
theorem CG.seq {x y:Code}(H:CG P n (fun a w=>y.wp P (iE N R X) a w) R X x Γ w):CG P n N R X (.seq x y) Γ w:=by
 intro a c;refine wp_seq (wp_mono (H a c) ?_);intro e a w b;cases e<;>exact b
theorem CG.cond {c:Operand}{x y:Code}(t:Bool)(d:gT Γ c=true)(hv:ev Γ c=.bool t)(f:t=true->CG P n N R X x Γ w)(hf:t=false->CG P n N R X y Γ w):CG P n N R X (.cond c x y) Γ w :=
 fun a b=>wp_cond_split (by rw[b.eval d];exact hv) (fun e=>f e a b) (fun e=>hf e a b)
theorem CG.condT {c:Operand}{x y:Code}(a:gT Γ c=true)(hv:ev Γ c=.bool true)(b:CG P n N R X x Γ w):CG P n N R X (.cond c x y) Γ w:=CG.cond true a hv (fun _=>b) (fun e=>by cases e)
theorem CG.condF {c:Operand}{x y:Code}(a:gT Γ c=true)(hv:ev Γ c=.bool false)(b:CG P n N R X y Γ w):CG P n N R X (.cond c x y) Γ w:=CG.cond false a hv (fun e=>by cases e) (fun _=>b)
theorem CG.skip (H:∀ a,Kn n a Γ->N a w):CG P n N R X .skip Γ w:=fun a b=>wp_skip (H a b)
theorem CG.skipN {y:Code}{N' R':Po}{X':Nat->Po}(H:CG P n N' R' X' y Γ w):CG P n (fun a w=>y.wp P (iE N' R' X') a w) R X .skip Γ w:=fun a b=>wp_skip (H a b)
theorem CG.ret (H:∀ a,Kn n a Γ->R a w):CG P n N R X .ret Γ w:=fun a b=>wp_ret (H a b)
theorem CG.exit {id:Nat}(H:∀ a,Kn n a Γ->X id a w):CG P n N R X (.exit id) Γ w:=fun a b=>wp_exit (H a b)
theorem CG.block {id:Nat}{c:Code}(H:CG P n N R (fun i=>if i=id then N else X i) c Γ w):CG P n N R X (.block id c) Γ w:=by
 intro a f;refine wp_block (wp_mono (H a f) ?_);intro e a w d;cases e<;>try exact d
 rename_i i
 simp only[iE] at d
 simp only[Exit.inBlock,iE]
 split
 ·rename_i b;rw[if_pos b] at d;exact d
 ·rename_i b;rw[if_neg b] at d;exact d
theorem CG.to {c:Code}(Γ':ck)(b:jL Γ (Γ'.map (·.1))=Γ')(d:fY Γ'=fY Γ)(H:CG P n N R X c Γ' w):CG P n N R X c Γ w :=
 fun a e=>H a (e.mono (fun t v hv=>eT Γ (Γ'.map (·.1)) t v (by rw[b];exact hv)) d)
theorem Kn.to {a:Act}(k:Kn n a Γ)(Γ':ck)(b:jL Γ (Γ'.map (·.1))=Γ')(c:fY Γ'=fY Γ:=by kernel_rfl):Kn n a Γ' :=
 k.mono (fun t v hv=>eT Γ (Γ'.map (·.1)) t v (by rw[b];exact hv)) c
theorem CG.loop {c:Code}(I:Nat->ck->World->Prop)(m:Nat)(h0:I m Γ w)
    (p:∀ m Γ w,I m Γ w->CG P n (fun a w'=>∃ C j,C<m/\I C j w'/\Kn n a j) R X c Γ w):CG P n N R X (.loop c) Γ w:=by
  intro a F
  suffices key:∀ m a w Γ,I m Γ w->Kn n a Γ->∀ (b:Frame) (k:List Item) (cs:List Frame),∃ e D w',iE N R X e D w'/\Arrives P (lone (b.at a (.code c::.inLoop c::k)) cs w) b k cs e D w' by
    intro b k cs;obtain ⟨e,D,w',o,d⟩:=key m a w Γ h0 F b k cs;exact ⟨e,D,w',o,.of_steps (.one step_loop) d⟩
  intro m
  induction m using g3 with
  | _ m ih =>
    intro a w Γ L F b k cs;obtain ⟨e,h,f,o,d⟩:=p m Γ w L a F b (.inLoop c::k) cs;cases e with
    | normal =>
      obtain ⟨C,j,K,H,J⟩:=o;obtain ⟨y,z,B,u,i⟩:=ih C K h f j H J b k cs;exact ⟨y,z,B,u,.of_steps (Steps.trans d (.one step_inLoop)) i⟩
    | exit id=>exact ⟨.exit id,h,f,o,.pass (x:=.inLoop c) rfl (fun _ _=>.inl (by simp)) d⟩
    | goto l=>exact o.elim
    | ret=>exact ⟨.ret,h,f,o,.pass (x:=.inLoop c) rfl (fun _ _=>.inl (by simp)) d⟩
    | panic ch=>exact o.elim
    | outgrown=>exact o.elim
def envOf (l:List Value):ck:=go 0 l
where go:Nat->List Value->ck
  | _,[]=>[]
  | k,v::l=>(k,v)::go (k+1) l
theorem pJ:∀ (l:List Value) (k t:Nat) (v:Value),(envOf.go k l).lookup t=some v->k<=t/\l[t-k]?=some v
  | [],_,_,_,h=>by simp[envOf.go] at h
  | u :: l,k,t,v,h=>by
    rw[envOf.go,g5] at h
    by_cases e:t=k
    . subst e;simp at h;subst h;exact ⟨ep _,by simp⟩
    . have b:(t == k)=false:=by simp[e]
      rw[b] at h
      obtain ⟨h1,a⟩:=pJ l (k+1) t v h;refine ⟨by omega,?_⟩;obtain ⟨d,hd⟩:∃ d,t-k=d+1:=⟨t-k-1,by omega⟩;rw[hd];have:t-(k+1)=d:=by omega
      rw[this] at a
      simpa using a
theorem jf {l:List Value}{t:Nat}{v:Value}(h:(envOf l).lookup t=some v):l[t]?=some v:=by
 have:=pJ l 0 t v h
 simpa using this.2
def nL (P:Program)(fn:Func)(Ro:Ending->World->Prop):Po:=fun a w=>a.defers=[]/\∃ v,(results fn a.tmps).run P w=.ok v w/\Ro (.returned v) w
theorem enter {f:FuncId}{h:Func}{c:Code}{args:Array Value}{o:Ending->World->Prop}(hf:P.funcs[f]?=some h)(hb:h.body=some c)(u:h.ntmps=n)(x:args.size<=n)(j:n<=1000000)
    (Γ0:ck)(d:Γ0=envOf args.toList)(H:CG P n (nL P h o) (nL P h o) (fun _ _ _=>False) c Γ0 w):Calls P f args w o:=by
  refine calls_of_wp hf hb (wp_mono (H _ ⟨?_,?_,j,?_⟩) ?_)
  . show []=fY Γ0
    unfold fY
    cases e:Γ0.lookup 1000000 with
    | none=>rfl
    | some v =>
      rw[d] at e
      have h1:=jf e;rw[pe (by simp;omega)] at h1
      cases h1
  . simp;omega
  . intro t v _ hv
    rw[d] at hv
    have h1:=jf hv
    have p:t<args.size:=by
      rcases eb t args.size with hl|hl
      . exact hl
      . rw[pe (by simpa using hl)] at h1;cases h1
    rw[po p]
    simpa using h1
  . intro e a w b
    cases e with
    | normal=>exact b
    | ret=>exact b
    | exit i=>exact b.elim
    | goto l=>exact b.elim
    | panic ch=>exact b.elim
    | outgrown=>exact b.elim
def LG (P:Program)(n:Nat)(N R:Po)(X:Nat->Po)(ops:Array Oper)(k:Nat)(Γ:ck)(w:World):Prop :=
  ∀ a,Kn n a Γ->wpOps P ops (iE N R X) (o0 k (ops.size-k)) a w
theorem CG.listed {id:Nat}{ops:Array Oper}(H:LG P n N R X ops 0 Γ w):CG P n N R X (.region id ops false) Γ w :=
 fun a b=>wp_region (by rw[pa];exact H a b)
section listed
variable {ops:Array Oper}{k:Nat}
def gA (ops:Array Oper)(Γ:ck)(k:Nat):Bool:=decide (k<ops.size) && Region.noSelect ops && bp Γ (ao ops k)
theorem LG.op (b:gA ops Γ k=true)(e:bA ops Γ (ao ops k)=some true){R':Value->World->Prop}
  (h:∀ a,Kn n a Γ->OpR P ops (ao ops k) a w R')(d:∀ a v w',Kn n a Γ->R' v w'->wpOps P ops (iE N R X) (o0 (k+1) (ops.size-(k+1))) (a.put (ao ops k).dst v) w'):LG P n N R X ops k Γ w:=by
 unfold gA at b
 simp only[g7,decide_eq_true_eq] at b
 intro a c;obtain ⟨m,hm⟩:∃ m,ops.size-k=m+1:=⟨ops.size-k-1,by omega⟩;rw[hm,o7,wpOps_cons];refine OpR.wpOp (bC b.1.1) (h a c) (fun v w' hr=>?_);have:=d a v w' c hr;rw[show ops.size-(k+1)=m by omega] at this
 exact this
theorem LG.val (t:Nat)(v:Value)(w':World)(e:(gA ops Γ k && ((ao ops k).dst == some t) && decide (t<n))=true)(d:bA ops Γ (ao ops k)=some true)
  (hr:(execOp (ev Γ) (ao ops k)).run P w=.ok (.value v) w')(H:LG P n N R X ops (k+1) ((t,v)::Γ) w'):LG P n N R X ops k Γ w:=by
 simp only[g7,decide_eq_true_eq,beq_iff_eq] at e
 obtain ⟨⟨h1,h⟩,f⟩:=e;have b:=h1
 unfold gA at b
 simp only[g7,decide_eq_true_eq] at b
 refine LG.op h1 d (R':=fun u w1=>u=v/\w1=w') (fun a c=>⟨c.want d,.inl ⟨v,w',?_,rfl,rfl⟩⟩) ?_
 ·rw[c.exec (Region.noSelect_spec b.1.2 k _ · · (bC b.1.1)) b.2];exact hr
 ·rintro a _ _ c ⟨rfl,rfl⟩
  rw[h];exact H _ (c.put f _)
theorem LG.out (t:Nat)(b:(decide (k<ops.size) && ((ao ops k).dst == some t) && decide (t<n))=true)(d:bA ops Γ (ao ops k)=some false)
  (H:LG P n N R X ops (k+1) ((t,undef)::Γ) w):LG P n N R X ops k Γ w:=by
 simp only[g7,decide_eq_true_eq,beq_iff_eq] at b
 obtain ⟨⟨h1,f⟩,e⟩:=b;intro a c;obtain ⟨m,hm⟩:∃ m,ops.size-k=m+1:=⟨ops.size-k-1,by omega⟩;rw[hm,o7,wpOps_cons]
 unfold wpOp
 simp only[bC h1,c.want d,la,if_false]
 have:=H _ (c.put e undef);rw[show ops.size-(k+1)=m by omega] at this
 rw[f];exact this
theorem LG.store (w':World)(e:(gA ops Γ k && ((ao ops k).dst == none))=true)(d:bA ops Γ (ao ops k)=some true)
  (hr:(execOp (ev Γ) (ao ops k)).run P w=.ok .skip w')(H:LG P n N R X ops (k+1) Γ w'):LG P n N R X ops k Γ w:=by
 simp only[g7,beq_iff_eq] at e
 obtain ⟨h1,f⟩:=e;have b:=h1
 unfold gA at b
 simp only[g7,decide_eq_true_eq] at b
 refine LG.op h1 d (R':=fun u w1=>w1=w') (fun a c=>⟨c.want d,.inr (.inl ⟨w',?_,rfl⟩)⟩) ?_
 ·rw[c.exec (Region.noSelect_spec b.1.2 k _ · · (bC b.1.1)) b.2];exact hr
 ·rintro a _ _ c rfl
  rw[f];exact H _ c
theorem LG.call (t f:Nat)(args:Array Value)(i:(gA ops Γ k && ((ao ops k).dst == some t) && decide (t<n))=true)(d:bA ops Γ (ao ops k)=some true)
  (hr:(execOp (ev Γ) (ao ops k)).run P w=.ok (.enter f args) w)(H:Calls P f args w (fun e w'=>∃ v,e=.returned v/\LG P n N R X ops (k+1) ((t,v)::Γ) w')):LG P n N R X ops k Γ w:=by
 simp only[g7,decide_eq_true_eq,beq_iff_eq] at i
 obtain ⟨⟨h1,l⟩,j⟩:=i;have b:=h1
 unfold gA at b
 simp only[g7,decide_eq_true_eq] at b
 refine LG.op h1 d (R':=fun v w'=>LG P n N R X ops (k+1) ((t,v)::Γ) w') (fun a c=>⟨c.want d,.inr (.inr ⟨f,args,?_,H⟩)⟩) ?_
 ·rw[c.exec (Region.noSelect_spec b.1.2 k _ · · (bC b.1.1)) b.2];exact hr
 ·rintro a v w' c h
  rw[l];exact h _ (c.put j _)
theorem LG.done (b:(k == ops.size)=true)(H:∀ a,Kn n a Γ->N a w):LG P n N R X ops k Γ w:=by
 simp only[beq_iff_eq] at b
 subst b;intro a c;rw[sA];exact H a c
theorem LG.next {y:Code}{N' R':Po}{X':Nat->Po}(b:(k == ops.size)=true)(H:CG P n N' R' X' y Γ w):LG P n (fun a w=>y.wp P (iE N' R' X') a w) R X ops k Γ w:=LG.done b H
end listed
theorem aq {ops:Array Oper}{k0:Nat}:∀ x∈([]:List Al),AlOk P ops k0 x:=fun _ h=>by cases h
theorem bv {ops:Array Oper}{k0:Nat}{x:Al}{l:List Al}(h:AlOk P ops k0 x)(k:∀ y∈l,AlOk P ops k0 y):∀ y∈x::l,AlOk P ops k0 y:=fun y a=>by
 rcases g1.1 a with rfl|a
 ·exact h
 ·exact k y a
def Dp (ops:Array Oper)(k0:Nat)(x:Al):Bool:=decide (x.i<ops.size) && ((ao ops x.i).dst == some x.t) && (ao ops x.i).guard.isNone && (ao ops x.i).after.isEmpty && decide (x.i<k0)
theorem dM {ops:Array Oper}{k0:Nat}{x:Al}(a:Dp ops k0 x=true)(hr:∀ (ρ:Operand->Value) (w:World),(execOp ρ (ao ops x.i)).run P w=.ok (.value (.pointer (some ⟨w.heap.size,0,none⟩))) (w.alloc x.o)):AlOk P ops k0 x:=by
 unfold Dp at a
 simp only[g7,decide_eq_true_eq,beq_iff_eq,Option.isNone_iff_eq_none,Array.isEmpty_iff] at a
 exact ⟨⟨_,bC a.1.1.1.1,a.1.1.1.2,a.1.1.2,a.1.2,hr⟩,a.2⟩
end code
def bU {α:Type}(P:Program):Sem α->List Value->Option (α × List Addr)
  | .pure a,_=>some (a,[])
  | .load _ a k,v::vs=>(bU P (k v) vs).map fun r=>(r.1,a::r.2)
  | .program k,vs=>bU P (k P) vs
  | .mark _ k,vs=>bU P k vs
  | _,_=>none
theorem bS {α:Type}{P:Program}{w:World}:∀ (s:Sem α) (vs:List Value) (r:α) (l:List Addr),bU P s vs=some (r,l) ->
    (∀ (i:Nat) a v,l[i]?=some a->vs[i]?=some v->w.cell? a=some v)->s.run P w=.ok r w:=by
  intro s
  induction s with
  | pure a=>intro vs r l h _;simp[bU] at h;simp[Sem.run,h.1]
  | load m a k ih =>
    intro vs r l h b;cases vs with
    | nil=>simp[bU] at h
    | cons v vs =>
      simp only[bU,ta] at h
      obtain ⟨⟨f,e⟩,h1,c⟩:=h
      injection c with e1 e2
      subst e1;subst e2;have h0:=b 0 a v (by simp) (by simp)
      simp only[Sem.run,h0]
      exact ih v vs _ _ h1 (fun i d v' ha hv=>b (i+1) d v' (by simpa using ha) (by simpa using hv))
  | program k ih=>intro vs r l h b;exact ih P vs r l h b
  | mark m k ih=>intro vs r l h b;exact ih vs r l h b
  | _=>intro vs r l h _;simp[bU] at h
def dJ {α:Type}(P:Program):Sem α->Option (α × List (Addr × Value))
  | .pure a=>some (a,[])
  | .store _ _ (.agg _) _=>none
  | .store _ _ (.tuple _) _=>none
  | .store _ a v k=>(dJ P k).map fun r=>(r.1,(a,v)::r.2)
  | .program k=>dJ P (k P)
  | .mark _ k=>dJ P k
  | _=>none
structure Put (b:Nat) (w w':World):Prop where
  os:w'.os=w.os
  tape:w'.tape=w.tape
  output:w'.output=w.output
  size:w'.heap.size=w.heap.size
  blk:∀ c,c≠b->w'.heap[c]?=w.heap[c]?
theorem Put.tl {b:Nat}{w w':World}(p:Put b w w'){M:Ms}(hz:∀ K bs,M.z=some (K,bs)->K<=b\/b∈bs):Tl M w w':=fun K bs e=>⟨Nat.le_of_eq p.size.symm,fun c d a=>p.blk c (fun h=>by
 rcases hz K bs e with h1|h1
 ·omega
 ·exact a (h▸h1))⟩
theorem Put.refl (b:Nat)(w:World):Put b w w:=⟨rfl,rfl,rfl,rfl,fun _ _=>rfl⟩
theorem Put.trans {b:Nat}{w1 w2 w3:World}(p:Put b w1 w2)(q:Put b w2 w3):Put b w1 w3 :=
 ⟨q.os.trans p.os,q.tape.trans p.tape,q.output.trans p.output,q.size.trans p.size,fun c a=>(q.blk c a).trans (p.blk c a)⟩
theorem Put.set (w:World)(p:Addr)(v:Value):Put p.block w (w.setCell p v) :=
 ⟨rfl,rfl,rfl,by simp,fun c a=>Below.heap_setCell _ _ _ _ a⟩
def Own (w:World)(b:Nat)(t:TypeId)(vs:List Value):Prop:=w.heap[b]?=some (.cells vs.toArray t (0,0))
theorem Own.cell {w:World}{b:Nat}{t:TypeId}{vs:List Value}(h:Own w b t vs)(i:Nat):w.cell? ⟨b,i,none⟩=vs[i]?:=by
 unfold World.cell?;rw[show w.heap[b]?=_ from h];simp
theorem Own.frozen {w:World}{b:Nat}{t:TypeId}{vs:List Value}(h:Own w b t vs)(i:Nat):w.frozen? ⟨b,i,none⟩=false:=by
 unfold World.frozen?;rw[show w.heap[b]?=_ from h];simp
theorem Own.set {w:World}{b:Nat}{t:TypeId}{vs:List Value}(h:Own w b t vs)(i:Nat)(v:Value):Own (w.setCell ⟨b,i,none⟩ v) b t (vs.set i v):=by
 unfold Own World.setCell
 simp only[Array.getElem?_modify,if_true,show w.heap[b]?=_ from h,tu]
 simp
theorem Own.lt {w:World}{b:Nat}{t:TypeId}{vs:List Value}(h:Own w b t vs):b<w.heap.size:=by
 rcases eb b w.heap.size with hl|hl
 ·exact hl
 ·unfold Own at h;rw[ek hl] at h;cases h
theorem Own.ext {w w':World}{b:Nat}{t:TypeId}{vs:List Value}(h:Own w b t vs)(x:Ext w w'):Own w' b t vs:=(Below.block x b h.lt).trans h
def fk (vs:List Value)(o:Nat):List Value->List Value
  | []=>vs
  | c::cs=>fk (vs.set o c) (o+1) cs
def n8 (b o:Nat):List Value->List (Addr × Value)
  | []=>[]
  | c::cs=>(⟨b,o,none⟩,c)::n8 b (o+1) cs
theorem ge {α:Type}{P:Program}{b:Nat}{t:TypeId}:∀ (s:Sem α) (r:α) (o:Nat) (cs vs:List Value) (w:World),dJ P s=some (r,n8 b o cs)->Own w b t vs->o+cs.length<=vs.length ->
    ∃ w',s.run P w=.ok r w'/\Put b w w'/\Own w' b t (fk vs o cs):=by
  intro s
  induction s with
  | pure a =>
    intro r o cs vs w h d _
    simp only[dJ,Option.some.injEq,Prod.mk.injEq] at h
    obtain ⟨h1,f⟩:=h;cases cs with
    | nil=>exact ⟨w,by simp[Sem.run,h1],Put.refl _ _,d⟩
    | cons c cs=>simp[n8] at f
  | store m a v k ih =>
    intro r o cs vs w h d i
    have z:∃ e,dJ P k=some e/\(e.1,(a,v)::e.2)=(r,n8 b o cs)/\(∀ l,v≠.agg l)/\∀ l,v≠.tuple l:=by
      cases v<;>simp only[dJ,ta] at h<;>first|(obtain ⟨e,h1,f⟩:=h;exact ⟨e,h1,f,by simp,by simp⟩)|cases h
    obtain ⟨⟨e,D⟩,h1,f,B,C⟩:=z
    injection f with e1 e2
    cases cs with
    | nil=>simp[n8] at e2
    | cons c cs =>
      simp only[n8,List.cons.injEq,Prod.mk.injEq] at e2
      obtain ⟨⟨p,ev⟩,u⟩:=e2;subst p;subst ev;subst u;subst e1
      simp only[ul] at i
      have y:w.cell? ⟨b,o,none⟩=some (vs[o]'oM):=by rw[d.cell,List.getElem?_eq_getElem]
      obtain ⟨w',hr,x,j⟩:=ih _ (o+1) cs (vs.set o v) (w.setCell ⟨b,o,none⟩ v) h1 (d.set o v) (by simp;omega);refine ⟨w',?_,(Put.set w ⟨b,o,none⟩ v).trans x,j⟩
      have:(Sem.store m ⟨b,o,none⟩ v k).run P w=k.run P (w.setCell ⟨b,o,none⟩ v):=by
        cases v<;>first|(simp only[Sem.run,y,d.frozen];rfl)|exact absurd rfl (B _)|exact absurd rfl (C _)
      rw[this];exact hr
  | program k ih=>intro r o cs vs w h d i;exact ih P r o cs vs w h d i
  | mark m k ih=>intro r o cs vs w h d i;exact ih r o cs vs w h d i
  | _=>intro r o cs vs w h _ _;simp[dJ] at h
structure Bx where
  b:Nat
  t:TypeId
  vs:List Value
  deriving Inhabited
structure St (w0:World) (h0:Hp) (w:World) (h:Hp) (B:List Bx):Prop where
  up:Up w0 h0 w h
  own:∀ x∈B,Own w x.b x.t x.vs
  jk:∀ x∈B,h[x.b]?=some bj
  lo:∀ x∈B,h0.size<=x.b
  nd:(B.map (·.b)).Nodup
theorem aJ {h:Hp}{b:Nat}{o:Obj}(e:h[b]?=some o):b<h.size:=by
 rcases eb b h.size with hl|hl
 ·exact hl
 ·rw[ek hl] at e;cases e
section st
variable {w0:World}{h0:Hp}{w:World}{h:Hp}{B:List Bx}
theorem St.start (g:G w h):St w h w h []:=⟨Up.refl g,fun _ a=>(by cases a),fun _ a=>(by cases a),fun _ a=>(by cases a),by simp⟩
theorem St.step (s:St w0 h0 w h B){w':World}{b:Hp}(u:Up w h w' b):St w0 h0 w' b B :=
 ⟨s.up.trans u,fun x a=>(s.own x a).ext u.ext,fun x a=>(u.gr.blk _ (aJ (s.jk x a))).trans (s.jk x a),s.lo,s.nd⟩
theorem St.g (s:St w0 h0 w h B):G w h:=s.up.g
theorem St.sz (s:St w0 h0 w h B):h0.size<=h.size:=s.up.gr.size
theorem St.new {wr:World}{hr:Hp}{e:List Bx}{x:Al}{b:Nat}(l:St w0 h0 wr hr e)(s:St w0 h0 w h B)(hB:∀ y∈B,y.b<hr.size\/y.b≠b)(k:Blk hr w h (x,b))(t:TypeId)(vs:List Value)(i:x.o=.cells vs.toArray t (0,0)) :
  St w0 h0 w h (⟨b,t,vs⟩::B):=by
 obtain ⟨j,k2,d⟩:=k;refine ⟨s.up,?_,?_,?_,?_⟩
 ·intro y a
  rcases g1.1 a with rfl|a
  ·show w.heap[b]?=_
   rw[<-i];exact j
  ·exact s.own y a
 ·intro y a
  rcases g1.1 a with rfl|a
  ·exact k2
  ·exact s.jk y a
 ·intro y a
  rcases g1.1 a with rfl|a
  ·exact eu l.sz d
  ·exact s.lo y a
 ·refine g2.2 ⟨fun hm=>?_,s.nd⟩
  obtain ⟨y,a,c⟩:=gs.1 hm
  rcases hB y a with hl|hl
  ·have f:y.b=b:=c
   have p:hr.size<=b:=d
   omega
  ·exact hl c
theorem St.new1 {wr:World}{hr:Hp}{x:Al}{b:Nat}(a:St w0 h0 wr hr B)(s:St w0 h0 w h B)(k:Blk hr w h (x,b))(t:TypeId)(vs:List Value)(d:x.o=.cells vs.toArray t (0,0)) :
 St w0 h0 w h (⟨b,t,vs⟩::B):=St.new a s (fun y c=>.inl (aJ (a.jk y c))) k t vs d
theorem St.new2 {wr:World}{hr:Hp}{x y:Al}{b c:Nat}(f:St w0 h0 wr hr B)(s:St w0 h0 w h B)(k:Blk hr w h (x,b))(k2:Blk hr w h (y,c))(i:b≠c)(t:TypeId)(vs:List Value)(j:x.o=.cells vs.toArray t (0,0))(e:TypeId)(a:List Value)(d:y.o=.cells a.toArray e (0,0)) :
  St w0 h0 w h (⟨b,t,vs⟩::⟨c,e,a⟩::B) :=
 St.new f (St.new1 f s k2 e a d) (fun z hz=>by
  rcases g1.1 hz with rfl|hz
  ·exact .inr (Ne.symm i)
  ·exact .inl (aJ (f.jk z hz))) k t vs j
def ax (B:List Bx)(j:Nat):Bx:=B.getD j default
def fy (B:List Bx)(j o:Nat)(cs:List Value):List Bx:=B.set j { ax B j with vs:=fk (ax B j).vs o cs }
theorem bu {j:Nat}(h:j<B.length):ax B j∈B:=by
 unfold ax
 have:B.getD j default=B[j]:=by simp[h]
 rw[this];exact fu h
theorem Up.put {b:Nat}{w':World}(u:Up w0 h0 w h)(p:Put b w w')(a:h[b]?=some bj)(d:h0.size<=b)(i:w0.heap.size=h0.size):Up w0 h0 w' h:=by
 refine ⟨⟨p.os.trans u.ext.os,p.tape.trans u.ext.tape,p.output.trans u.ext.output,by rw[p.size];exact u.ext.size,fun c f=>?_⟩,u.gr,⟨by rw[p.size];exact u.g.size,fun c=>?_⟩⟩
 ·rw[p.blk c oM]
  exact Below.block u.ext c f
 ·by_cases e:c=b
  ·subst e;exact .inr a
  ·rw[p.blk c e];exact u.g.blk c
theorem St.put (s:St w0 h0 w h B)(F:G w0 h0){j o:Nat}{cs:List Value}{w':World}(f:j<B.length)(p:Put (ax B j).b w w')(H:Own w' (ax B j).b (ax B j).t (fk (ax B j).vs o cs)):St w0 h0 w' h (fy B j o cs):=by
  have hm:=bu f
  have a:(fy B j o cs).map (·.b)=B.map (·.b):=by
    unfold fy
    rw[um]
    apply uE
    intro i
    by_cases e:j=i
    . subst e
      rw[u9 (by simpa using f)]
      simp[ax,f]
    . rw[va e]
  refine ⟨s.up.put p (s.jk _ hm) (s.lo _ hm) F.size,?_,?_,?_,by rw[a];exact s.nd⟩
  . intro x d
    obtain ⟨i,hi,c⟩:=vb.1 d;have l:i<B.length:=by simpa [fy] using hi
    by_cases e:j=i
    . subst e
      have:x={ ax B j with vs:=fk (ax B j).vs o cs }:=by rw[<-c];simp[fy]
      subst this;exact H
    . have z:x=B[i]:=by rw[<-c];simp[fy,e]
      subst z
      have D:B[i].b≠(ax B j).b:=by
        intro C
        have h1:(B.map (·.b))[i]'(by simpa using l)=(B.map (·.b))[j]'(by simpa using f):=by
          simp only[vl]
          rw[C]
          simp[ax,f]
        exact e ((vE s.nd).1 h1).symm
      show w'.heap[B[i].b]?=_
      rw[p.blk _ D];exact s.own _ (fu l)
  . intro x d
    have:x.b∈(fy B j o cs).map (·.b):=gs.2 ⟨x,d,rfl⟩;rw[a] at this
    obtain ⟨y,u,c⟩:=gs.1 this;rw[<-c];exact s.jk y u
  . intro x d
    have:x.b∈(fy B j o cs).map (·.b):=gs.2 ⟨x,d,rfl⟩;rw[a] at this
    obtain ⟨y,u,c⟩:=gs.1 this;rw[<-c];exact s.lo y u
def mC (b o:Nat):Nat->List Addr
  | 0=>[]
  | n+1=>⟨b,o,none⟩::mC b (o+1) n
theorem eL (b:Nat):∀ (n o i:Nat) (a:Addr),(mC b o n)[i]?=some a->a=⟨b,o+i,none⟩
  | 0,_,_,_,h=>by simp[mC] at h
  | n+1,o,0,a,h=>by simp[mC] at h;rw[<-h];rfl
  | n+1,o,i+1,a,h=>by
    have:=eL b n (o+1) i a (by simpa [mC] using h);rw[this];congr 1;omega
def cO (B:List Bx):List (Nat × Nat × Nat)->List Value
  | []=>[]
  | p::ps=>((ax B p.1).vs.drop p.2.1).take p.2.2++cO B ps
def bQ (B:List Bx):List (Nat × Nat × Nat)->List Addr
  | []=>[]
  | p::ps=>mC (ax B p.1).b p.2.1 p.2.2++bQ B ps
def ce (B:List Bx)(ps:List (Nat × Nat × Nat)):Bool:=ps.all fun p=>decide (p.1<B.length) && decide (p.2.1+p.2.2<=(ax B p.1).vs.length)
theorem iA (b o n:Nat):(mC b o n).length=n:=by
 induction n generalizing o with
 | zero=>rfl
 | succ n ih=>simp[mC,ih]
theorem cI (d:∀ x∈B,Own w x.b x.t x.vs):∀ (ps:List (Nat × Nat × Nat)),ce B ps=true->∀ (i:Nat) a v,(bQ B ps)[i]?=some a->(cO B ps)[i]?=some v->w.cell? a=some v
  | [],_,i,a,v,h,_=>by simp[bQ] at h
  | p :: ps,hok,i,a,v,ha,hv=>by
    unfold ce at hok
    rw[v2,g7] at hok
    obtain ⟨h1,e⟩:=hok
    simp only[g7,decide_eq_true_eq] at h1
    have c:(((ax B p.1).vs.drop p.2.1).take p.2.2).length=p.2.2:=by simp;omega
    unfold bQ at ha
    unfold cO at hv
    rcases eb i p.2.2 with hl|hl
    . rw[wk (by rw[iA];exact hl)] at ha
      rw[wk (by rw[c];exact hl)] at hv
      rw[eL _ _ _ _ _ ha,(d _ (bu h1.1)).cell];rw[wq hl,ws] at hv
      exact hv
    . rw[wu (by rw[iA];exact hl),iA] at ha
      rw[wu (by rw[c];exact hl),c] at hv
      exact cI d ps e _ a v ha hv
theorem Own.mo {w w':World}{b:Nat}{t:TypeId}{vs:List Value}{M:List Nat}(h:Own w b t vs)(x:Mo M w w')(hb:b ∉ M):Own w' b t vs:=(x.blk b h.lt hb).trans h
theorem gG {M:List Nat}{d:List (Nat × Nat × Nat)}(hM:∀ p∈d,(ax B p.1).b ∉ M)(e:∀ x∈B,x.b ∉ M->Own w x.b x.t x.vs):∀ (ps:List (Nat × Nat × Nat)),(∀ p∈ps,p∈d)->ce B ps=true->∀ (i:Nat) a v,(bQ B ps)[i]?=some a->(cO B ps)[i]?=some v->w.cell? a=some v
  | [],_,_,i,a,v,h,_=>by simp[bQ] at h
  | p :: ps,hsub,hok,i,a,v,ha,hv=>by
    unfold ce at hok
    rw[v2,g7] at hok
    obtain ⟨h1,j⟩:=hok
    simp only[g7,decide_eq_true_eq] at h1
    have c:(((ax B p.1).vs.drop p.2.1).take p.2.2).length=p.2.2:=by simp;omega
    unfold bQ at ha
    unfold cO at hv
    rcases eb i p.2.2 with hl|hl
    . rw[wk (by rw[iA];exact hl)] at ha
      rw[wk (by rw[c];exact hl)] at hv
      rw[eL _ _ _ _ _ ha,(e _ (bu h1.1) (hM p (hsub p (by simp)))).cell];rw[wq hl,ws] at hv
      exact hv
    . rw[wu (by rw[iA];exact hl),iA] at ha
      rw[wu (by rw[c];exact hl),c] at hv
      exact gG hM e ps (fun q f=>hsub q (by simp[f])) j _ a v ha hv
end st
section own
variable {M:Ms}{P:Program}{n:Nat}{N R:Po}{X:Nat->Po}{ops:Array Oper}{k0:Nat}{hr:Hp}{AL:List Al}{L:Array Bool}{Γ:ck}{w:World}{h:Hp}{w0:World}{h0:Hp}{B:List Bx}
theorem Rg.own (i t:Nat)(ps:List (Nat × Nat × Nat))(v:Value)(s:St w0 h0 w h B)(f:(dr n ops k0 AL L i t && bp Γ (ao ops i) && ip ops k0 i)=true)(c:bA ops Γ (ao ops i)=some true)
  (hM:∀ p∈ps,(ax B p.1).b ∉ M.l)(e:ce B ps=true)(j:bU P (execOp (ev Γ) (ao ops i)) (cO B ps)=some (.value v,bQ B ps))
  (k:EG M P n N R X ops k0 hr AL (L.setIfInBounds i true) ((t,v)::Γ) w h):EG M P n N R X ops k0 hr AL L Γ w h :=
 Rg.load i t v f c (fun w' d=>bS _ _ _ _ j (gG hM (fun x hm a=>(s.own x hm).mo d a) ps (fun _ h=>h) e)) k
theorem T.put (i j o:Nat)(cs:List Value)(s:St w0 h0 w h B)(p:G w0 h0)(u:(iz ops k0 L i && bp Γ (ao ops i) && ((ao ops i).dst == none))=true)(l:bA ops Γ (ao ops i)=some true)
  (f:(decide (j<B.length) && decide (o+cs.length<=(ax B j).vs.length))=true)(x:dJ P (execOp (ev Γ) (ao ops i))=some (.skip,n8 (ax B j).b o cs))
  (k:∀ w',Put (ax B j).b w w'->St w0 h0 w' h (fy B j o cs)->AG M P n N R X ops k0 (L.setIfInBounds i true) Γ w')(hz:∀ K bs,M.z=some (K,bs)->K<=(ax B j).b\/(ax B j).b∈bs:=by intro _ _ e;cases e):AG M P n N R X ops k0 L Γ w:=by
 simp only[g7,decide_eq_true_eq] at f
 obtain ⟨w',c,a,d⟩:=ge _ _ _ _ _ w x (s.own _ (bu f.1)) f.2;exact T.store i w' u l c (a.tl hz) (k w' a (s.put p f.1 a d))
theorem LG.own {k:Nat}(t:Nat)(ps:List (Nat × Nat × Nat))(v:Value)(s:St w0 h0 w h B)(c:(gA ops Γ k && ((ao ops k).dst == some t) && decide (t<n))=true)(a:bA ops Γ (ao ops k)=some true)
  (b:ce B ps=true)(d:bU P (execOp (ev Γ) (ao ops k)) (cO B ps)=some (.value v,bQ B ps))
  (H:LG P n N R X ops (k+1) ((t,v)::Γ) w):LG P n N R X ops k Γ w :=
 LG.val t v w c a (bS _ _ _ _ d (cI s.own ps b)) H
theorem LG.put {k:Nat}(j o:Nat)(cs:List Value)(s:St w0 h0 w h B)(i:G w0 h0)(l:(gA ops Γ k && ((ao ops k).dst == none))=true)(f:bA ops Γ (ao ops k)=some true)
  (e:(decide (j<B.length) && decide (o+cs.length<=(ax B j).vs.length))=true)(p:dJ P (execOp (ev Γ) (ao ops k))=some (.skip,n8 (ax B j).b o cs))
  (H:∀ w',Put (ax B j).b w w'->St w0 h0 w' h (fy B j o cs)->LG P n N R X ops (k+1) Γ w'):LG P n N R X ops k Γ w:=by
 simp only[g7,decide_eq_true_eq] at e
 obtain ⟨w',c,a,d⟩:=ge _ _ _ _ _ w p (s.own _ (bu e.1)) e.2;exact LG.store w' l f c (H w' a (s.put i e.1 a d))
theorem LG.var {k:Nat}(t:Nat)(ty:TypeId)(vs:List Value)(s:St w0 h0 w h B)(c:(gA ops Γ k && ((ao ops k).dst == some t) && decide (t<n))=true)(a:bA ops Γ (ao ops k)=some true)
  (hr:(execOp (ev Γ) (ao ops k)).run P w=.ok (.value (.pointer (some ⟨w.heap.size,0,none⟩))) (w.alloc (.cells vs.toArray ty (0,0))))
  (H:∀ b w' h',h.size<=b->Up w h w' h'->St w0 h0 w' h' (⟨b,ty,vs⟩::B)->LG P n N R X ops (k+1) ((t,.pointer (some ⟨b,0,none⟩))::Γ) w'):LG P n N R X ops k Γ w:=by
 have u:Up w h (w.alloc (.cells vs.toArray ty (0,0))) (h.push bj):=Up.allocAny s.g _ _ (.inr rfl);refine LG.val t _ _ c a hr (H _ _ _ (by rw[s.g.size];exact ep _) u (St.new1 (x:=⟨0,0,.cells vs.toArray ty (0,0)⟩) s (s.step u) ⟨?_,?_,?_⟩ ty vs rfl))
 ·rw[heap_alloc];exact e6
 ·rw[s.g.size];exact e6
 ·show h.size<=w.heap.size;rw[s.g.size];exact ep _
def oI (fn:Func)(Γ:ck):Sem Value:=do
  let vs <-fn.results.mapM fun
    | .tmp t=>Pure.pure (ev Γ (.tmp t))
    | .cell a t=>do loadVar t (<-asAddr (ev Γ (.tmp a)))
  Pure.pure (if h:vs.size=1 then vs[0] else .tuple vs)
def GP (fn:Func)(Γ:ck):Bool:=fn.results.all fun|.tmp t=>gT Γ (.tmp t)|.cell a _=>gT Γ (.tmp a)
def n9 (fn:Func)(Γ:ck):Bool:=(fY Γ).isEmpty && GP fn Γ
theorem tc {a:Func}{Γ:ck}(h:n9 a Γ=true):fY Γ=[]:=by
 unfold n9 at h;rw[g7] at h;exact List.isEmpty_iff.1 h.1
theorem py {α β:Type}(l:List α)(f g:α->Sem β)(h:∀ x∈l,f x=g x):l.mapM f=l.mapM g:=by
 induction l with
 | nil=>rfl
 | cons a l ih=>rw[xa,xa,h a (by simp),ih (fun x b=>h x (by simp[b]))]
theorem ot {b:Func}{a:Act}(c:Kn n a Γ)(hk:GP b Γ=true):results b a.tmps=oI b Γ:=by
 unfold results oI
 have e:∀ x∈b.results.toList,((match x with|.tmp t=>Pure.pure (a.tmps.getD t undef)|.cell ad t=>(do loadVar t (<-asAddr (a.tmps.getD ad undef)))):Sem Value)=((match x with|.tmp t=>Pure.pure (ev Γ (.tmp t))|.cell ad t=>(do loadVar t (<-asAddr (ev Γ (.tmp ad))))):Sem Value):=by
  intro x d;have h1:=(g9.1 hk) x (by simpa using d);cases x with
  | tmp t=>have:=c.eval h1;simp only[Act.eval] at this;simp only[this]
  | cell ad t=>have:=c.eval h1;simp only[Act.eval] at this;simp only[this]
 rw[xb,xb]
 congr 2
 exact py _ _ _ e
theorem kc {b:Func}{a:Act}(c:Kn n a Γ)(hk:n9 b Γ=true):results b a.tmps=oI b Γ :=
 ot c (by unfold n9 at hk;rw[g7] at hk;exact hk.2)
def Ret (w0:World)(h0:Hp)(Φ:Value->Hp->Prop):Ending->World->Prop:=fun e w'=>∃ v h',e=.returned v/\Up w0 h0 w' h'/\Φ v h'
theorem HV {c:Func}{Φ:Value->Hp->Prop}(s:St w0 h0 w h B)(ps:List (Nat × Nat × Nat))(v:Value)(hk:(n9 c Γ && ce B ps)=true)(e:bU P (oI c Γ) (cO B ps)=some (v,bQ B ps))(b:Φ v h) :
  ∀ a,Kn n a Γ->nL P c (Ret w0 h0 Φ) a w:=by
 intro a d;rw[g7] at hk
 refine ⟨d.df.trans (tc hk.1),v,?_,v,h,rfl,s.up,b⟩;rw[kc d hk.1];exact bS _ _ _ _ e (cI s.own ps hk.2)
end own
abbrev CV (f:FuncId)(a:Array Value)(w:World)(h:Hp)(x:Value):Prop:=Calls Tryz.prog f a w (Ret w h fun v _=>v=x)
abbrev CR (f:FuncId)(a:Array Value)(w:World)(h:Hp)(Φ:Value->Hp->Prop):Prop:=Calls Tryz.prog f a w (Ret w h Φ)
def dL (h:Hp)(b i:Nat):Option Value :=
  match h[b]? with
  | some (.cells c _ _)=>c[i]?
  | _=>none
structure Gw (h h':Hp):Prop where
  size:h.size<=h'.size
  blk:∀ b:Nat,b<h.size->h'[b]?=h[b]?\/h[b]?=some bj
theorem Gr.gw {h a:Hp}(u:Gr h a):Gw h a:=⟨u.size,fun b hb=>.inl (u.blk b hb)⟩
theorem wg {h a:Hp}(u:Gw h a){b i:Nat}{v:Value}(e:dL h b i=some v):dL a b i=some v:=by
  unfold dL at *
  cases hb:h[b]? with
  | none=>rw[hb] at e;cases e
  | some o =>
    rcases u.blk b (aJ hb) with h1|h1
    . rw[h1];exact e
    . rw[h1] at e;simp[bj] at e
theorem kp {w:World}{h:Hp}(g:G w h){b i:Nat}{v:Value}(e:dL h b i=some v):w.cell? ⟨b,i,none⟩=some v:=by
 unfold dL at e
 rcases g.blk b with h1|h1
 ·unfold World.cell?
  rw[<-h1];cases hb:h[b]? with
  | none=>rw[hb] at e;cases e
  | some o=>rw[hb] at e;cases o<;>simp at e ⊢ <;> exact e
 ·rw[h1] at e;simp[bj] at e
def Seg (h:Hp)(b o:Nat)(cs:List Value):Prop:=∀ (i:Nat) (v:Value),cs[i]?=some v->dL h b (o+i)=some v
theorem Seg.gw {h a:Hp}{b o:Nat}{cs:List Value}(s:Seg h b o cs)(u:Gw h a):Seg a b o cs:=fun i v hv=>wg u (s i v hv)
theorem xm {M:List Nat}{w w':World}{h:Hp}(g:G w h)(x:Mo M w w')(hM:∀ b∈M,h[b]?=some bj){b i:Nat}{v:Value}(e:dL h b i=some v):w'.cell? ⟨b,i,none⟩=some v:=by
 have f:b ∉ M:=fun hm=>by
  unfold dL at e
  rw[hM b hm] at e
  simp[bj] at e
 have d:=kp g e
 have c:b<w.heap.size:=by
  rcases eb b w.heap.size with c|c
  ·exact c
  ·unfold World.cell? at d;rw[ek c] at d;cases d
 rw[World.cell?_of_block (w:=w) (a:=⟨b,i,none⟩) (x.blk b c f)];exact d
theorem Seg.runM {α:Type}{M:List Nat}{P:Program}{w w':World}{h:Hp}{b o:Nat}{cs:List Value}{s:Sem α}{r:α}(d:Seg h b o cs)(g:G w h)(hM:∀ b∈M,h[b]?=some bj)(x:Mo M w w')(c:bU P s cs=some (r,mC b o cs.length)):s.run P w'=.ok r w' :=
 bS _ _ _ _ c (fun i a v ha hv=>by rw[eL _ _ _ _ _ ha];exact xm g x hM (d i v hv))
theorem Seg.run {α:Type}{P:Program}{w w':World}{h:Hp}{b o:Nat}{cs:List Value}{s:Sem α}{r:α}(d:Seg h b o cs)(g:G w h)(x:Ext w w')(c:bU P s cs=some (r,mC b o cs.length)):s.run P w'=.ok r w' :=
 bS _ _ _ _ c (fun i a v ha hv=>by rw[eL _ _ _ _ _ ha];exact x.some (kp g (d i v hv)))
theorem Seg.part {h:Hp}{b o:Nat}{cs:List Value}(s:Seg h b o cs)(j n:Nat):Seg h b (o+j) ((cs.drop j).take n):=fun i v hv=>by
 have hi:i<n:=by
  rcases eb i n with hl|hl
  ·exact hl
  ·rw[pe (by simp;omega)] at hv;cases hv
 rw[wq hi,ws] at hv
 rw[xf];exact s (j+i) v hv
def aB (A:Z9):Nat:=match A with|some a=>a.block|none=>0
def aO (A:Z9):Nat:=match A with|some a=>a.off|none=>0
structure SlO {α:Type} (sz:Nat) (f:α->List Value) (d:α) (h:Hp) (A:Z9) (l:List α):Prop where
  ok:0<l.length->A=some ⟨aB A,aO A,none⟩
  el:∀ k,k<l.length->Seg h (aB A) (aO A+k*sz) (f (l.getD k d))
theorem SlO.gw {α:Type}{sz:Nat}{f:α->List Value}{d:α}{h a:Hp}{A:Z9}{l:List α}(s:SlO sz f d h A l)(u:Gw h a):SlO sz f d a A l:=⟨s.ok,fun k hk=>(s.el k hk).gw u⟩
theorem SlO.nil {α:Type}{sz:Nat}{f:α->List Value}{d:α}{h:Hp}{A:Z9}:SlO sz f d h A []:=⟨fun h=>by simp at h,fun k hk=>by simp at hk⟩
def HG {α:Type}(sz:Nat)(f:α->List Value)(d:α)(h:Hp)(v:Value)(l:List α):Prop :=
  ∃ A cap,v=.slice A l.length cap/\l.length<=cap/\SlO sz f d h A l
theorem SlO.of_flat {α:Type}{sz:Nat}{f:α->List Value}{d:α}{h:Hp}{b o:Nat}{l:List α}(hf:∀ x,(f x).length=sz)(s:Seg h b o (l.flatMap f)):SlO sz f d h (some ⟨b,o,none⟩) l:=by
  refine ⟨fun _=>rfl,?_⟩
  induction l generalizing o with
  | nil=>intro k hk;simp at hk
  | cons x l ih =>
    intro k hk;cases k with
    | zero =>
      have:=s.part 0 sz
      simp only[x0,ya,yb] at this
      rw[yc (by rw[hf];exact ep _),<-hf x,yd] at this
      simpa [aB,aO] using this
    | succ k =>
      have a:Seg h b (o+sz) (l.flatMap f):=fun i v hv=>by
        have:=s (sz+i) v (by rw[x0,wu (by rw[hf];omega),hf];simpa using hv)
        rwa [<-xf] at this
      have:=ih a k (by simpa using hk)
      simp only[aB,aO,ye] at this ⊢
      rw[yf,yg (k*sz) sz,<-xf];exact this
theorem Seg.new {h:Hp}(cs:List Value)(ty:TypeId):Seg (h.push (.cells cs.toArray ty (0,0))) h.size 0 cs:=fun i v hv=>by
 unfold dL
 rw[e6]
 simpa using hv
theorem dG {α:Type}{f:α->List Value}{sz:Nat}(hf:∀ x,(f x).length=sz)(l:List α):(l.flatMap f).length=l.length*sz:=by
 induction l with
 | nil=>simp
 | cons x l ih=>simp only[x0,yh,ih,hf,ul,yf];omega
theorem f4 {α:Type}{f:α->List Value}{sz:Nat}(hf:∀ x,(f x).length=sz)(d:α):∀ (l:List α) (k:Nat),k<l.length->((l.flatMap f).drop (k*sz)).take sz=f (l.getD k d)
  | [],k,h=>by simp at h
  | x::l,0,h=>by
    simp only[x0,yi,yb,List.getD_cons_zero]
    rw[yc (by rw[hf];exact ep _),<-hf x,yd]
  | x::l,k+1,h=>by
    simp only[x0,ye]
    rw[yf,List.drop_append,hf,show k*sz+sz-sz=k*sz by omega,List.drop_eq_nil_of_le (by rw[hf];omega),List.nil_append];exact f4 hf d l k (by simpa using h)
theorem jc (cs:List Value):∀ (a b:List Value) (o:Nat),fk (a++b) (a.length+o) cs=a++fk b o cs:=by
  induction cs with
  | nil=>intro a b o;rfl
  | cons c cs ih =>
    intro a b o
    show fk ((a++b).set (a.length+o) c) (a.length+o+1) cs=a++fk (b.set o c) (o+1) cs
    rw[List.set_append_right _ _ oM,show a.length+o-a.length=o by omega,xf];exact ih a (b.set o c) (o+1)
theorem jV:∀ (cs a b:List Value),a.length=cs.length->fk (a++b) 0 cs=cs++b:=by
  intro cs
  induction cs with
  | nil=>intro a b h;have:a=[]:=yj (by simpa using h);subst this;rfl
  | cons c cs ih =>
    intro a b h;cases a with
    | nil=>simp at h
    | cons y a =>
      show fk (c::(a++b)) (0+1) cs=c::(cs++b)
      have:=jc cs [c] (a++b) 0
      simp only[List.length_singleton,List.singleton_append] at this
      rw[show 0+1=1+0 by omega,this,ih a b (by simpa using h)]
theorem iW {α:Type}{f:α->List Value}{sz:Nat}(hf:∀ x,(f x).length=sz):∀ (l:List α) (k:Nat) (x:α),k<l.length->fk (l.flatMap f) (k*sz) (f x)=(l.set k x).flatMap f
  | [],k,x,h=>by simp at h
  | y::l,0,x,h=>by
    simp only[x0,yi,List.set_cons_zero]
    exact jV _ _ _ (by rw[hf,hf])
  | y::l,k+1,x,h=>by
    simp only[x0,yk]
    rw[yf,yg,<-hf y,jc,hf y,iW hf l k x (by simpa using h)]
section rows
variable {M:Ms}{P:Program}{n:Nat}{N R:Po}{X:Nat->Po}{ops:Array Oper}{k0:Nat}{hr:Hp}{AL:List Al}{L:Array Bool}{Γ:ck}{w:World}{h:Hp}
theorem LG.row {k:Nat}(t:Nat)(ty:TypeId)(m:Nat)(cs:List Value)(g:G w h)(d:(gA ops Γ k && ((ao ops k).dst == some t) && decide (t<n))=true)(c:bA ops Γ (ao ops k)=some true)
  (a:(execOp (ev Γ) (ao ops k)).run P w=.ok (.value (.slice (some ⟨w.heap.size,0,none⟩) m m)) (w.alloc (.cells cs.toArray ty (0,0))))
  (H:∀ b w' h',Up w h w' h'->Seg h' b 0 cs->LG P n N R X ops (k+1) ((t,.slice (some ⟨b,0,none⟩) m m)::Γ) w'):LG P n N R X ops k Γ w :=
 LG.val t _ _ d c a (H _ _ _ (Up.allocAny g _ _ (.inl rfl)) (by rw[g.size];exact Seg.new cs ty))
theorem Rg.row (i t:Nat)(ty:TypeId)(m:Nat)(cs:List Value)(e:(nh n ops k0 AL L i t && bp Γ (ao ops i))=true)(d:bA ops Γ (ao ops i)=some true)
  (a:∀ w,(execOp (ev Γ) (ao ops i)).run P w=.ok (.value (.slice (some ⟨w.heap.size,0,none⟩) m m)) (w.alloc (.cells cs.toArray ty (0,0))))
  (H:∀ b w' c,Up w h w' c->Seg c b 0 cs->EG M P n N R X ops k0 hr AL (L.setIfInBounds i true) ((t,.slice (some ⟨b,0,none⟩) m m)::Γ) w' c):EG M P n N R X ops k0 hr AL L Γ w h :=
 Rg.event i t e d (fun w' c u=>.inl ⟨_,_,_,a w',(Up.allocAny u.g _ _ (.inl rfl)).m M.l,H _ _ _ (u.trans (Up.allocAny u.g _ _ (.inl rfl))) (by rw[u.g.size];exact Seg.new cs ty)⟩)
theorem Rg.ownA {w0:World}{h0:Hp}{B:List Bx}{α:Type}(i t j:Nat)(l:List α)(f:α->List Value)(sz:Nat)(d:α)(e:Nat)(v:Value)(s:St w0 h0 w h B)(z:(dr n ops k0 AL L i t && bp Γ (ao ops i) && ip ops k0 i)=true)(C:bA ops Γ (ao ops i)=some true)
  (o:(ax B j).b ∉ M.l)(D:decide (j<B.length)=true)(hB:(ax B j).vs=l.flatMap f)(hf:∀ x,(f x).length=sz)(hk:e<l.length)
  (p:bU P (execOp (ev Γ) (ao ops i)) (f (l.getD e d))=some (.value v,mC (ax B j).b (0+e*sz) (f (l.getD e d)).length))
  (k:EG M P n N R X ops k0 hr AL (L.setIfInBounds i true) ((t,v)::Γ) w h):EG M P n N R X ops k0 hr AL L Γ w h :=
 Rg.load i t v z C (fun w' F=>bS _ _ _ _ p (fun q a u ha c=>by
  rw[eL _ _ _ _ _ ha,((s.own _ (bu (oT D))).mo F o).cell,hB];rw[<-f4 hf d l e hk] at c
  have y:q<sz:=by
   rcases eb q sz with hl|hl
   ·exact hl
   ·rw[pe (by simp;omega)] at c;cases c
  rw[wq y,ws] at c
  rw[yl];exact c)) k
theorem LG.ownA {w0:World}{h0:Hp}{B:List Bx}{α:Type}{k:Nat}(t j:Nat)(l:List α)(f:α->List Value)(sz:Nat)(d:α)(e:Nat)(v:Value)(s:St w0 h0 w h B)(p:(gA ops Γ k && ((ao ops k).dst == some t) && decide (t<n))=true)(y:bA ops Γ (ao ops k)=some true)
  (z:decide (j<B.length)=true)(hB:(ax B j).vs=l.flatMap f)(hf:∀ x,(f x).length=sz)(hk:e<l.length)
  (i:bU P (execOp (ev Γ) (ao ops k)) (f (l.getD e d))=some (.value v,mC (ax B j).b (0+e*sz) (f (l.getD e d)).length))
  (H:LG P n N R X ops (k+1) ((t,v)::Γ) w):LG P n N R X ops k Γ w :=
 LG.val t v w p y (bS _ _ _ _ i (fun q a u ha c=>by
  rw[eL _ _ _ _ _ ha,(s.own _ (bu (oT z))).cell,hB];rw[<-f4 hf d l e hk] at c
  have o:q<sz:=by
   rcases eb q sz with hl|hl
   ·exact hl
   ·rw[pe (by simp;omega)] at c;cases c
  rw[wq o,ws] at c
  rw[yl];exact c)) H
theorem LG.arr {w0:World}{h0:Hp}{B:List Bx}{k:Nat}(t:Nat)(ty:TypeId)(m:Nat)(vs:List Value)(s:St w0 h0 w h B)(d:(gA ops Γ k && ((ao ops k).dst == some t) && decide (t<n))=true)(c:bA ops Γ (ao ops k)=some true)
  (a:(execOp (ev Γ) (ao ops k)).run P w=.ok (.value (.slice (some ⟨w.heap.size,0,none⟩) m m)) (w.alloc (.cells vs.toArray ty (0,0))))
  (H:∀ b w' h',h.size<=b->Up w h w' h'->St w0 h0 w' h' (⟨b,ty,vs⟩::B)->LG P n N R X ops (k+1) ((t,.slice (some ⟨b,0,none⟩) m m)::Γ) w'):LG P n N R X ops k Γ w:=by
 have u:Up w h (w.alloc (.cells vs.toArray ty (0,0))) (h.push bj):=Up.allocAny s.g _ _ (.inr rfl);refine LG.val t _ _ d c a (H _ _ _ (by rw[s.g.size];exact ep _) u (St.new1 (x:=⟨0,0,.cells vs.toArray ty (0,0)⟩) s (s.step u) ⟨?_,?_,?_⟩ ty vs rfl))
 ·rw[heap_alloc];exact e6
 ·rw[s.g.size];exact e6
 ·show h.size<=w.heap.size;rw[s.g.size];exact ep _
def gN (B:List Bx)(j:Nat)(vs:List Value):List Bx:=B.set j { ax B j with vs:=vs }
theorem LG.putA {w0:World}{h0:Hp}{B:List Bx}{α:Type}{k:Nat}(j:Nat)(l:List α)(f:α->List Value)(sz e:Nat)(x:α)(s:St w0 h0 w h B)(y:G w0 h0)(z:(gA ops Γ k && ((ao ops k).dst == none))=true)(C:bA ops Γ (ao ops k)=some true)
  (D:decide (j<B.length)=true)(hB:(ax B j).vs=l.flatMap f)(hf:∀ x,(f x).length=sz)(hk:e<l.length)
  (u:dJ P (execOp (ev Γ) (ao ops k))=some (.skip,n8 (ax B j).b (0+e*sz) (f x)))
  (H:∀ w',Put (ax B j).b w w'->St w0 h0 w' h (gN B j ((l.set e x).flatMap f))->LG P n N R X ops (k+1) Γ w'):LG P n N R X ops k Γ w:=by
 have d:=oT D
 have p:(0+e*sz)+(f x).length<=(ax B j).vs.length:=by
  rw[hB,dG hf,hf,yl,<-yf];exact ym _ hk
 obtain ⟨w',i,a,o⟩:=ge _ _ _ _ _ w u (s.own _ (bu d)) p;have c:=s.put y d a o;refine LG.store w' z C i (H w' a ?_)
 unfold fy at c
 rw[hB,yl,iW hf l e x hk] at c
 exact c
theorem T.putA {w0:World}{h0:Hp}{B:List Bx}{α:Type}(i j:Nat)(l:List α)(f:α->List Value)(sz e:Nat)(x:α)(s:St w0 h0 w h B)(C:G w0 h0)(D:(iz ops k0 L i && bp Γ (ao ops i) && ((ao ops i).dst == none))=true)(F:bA ops Γ (ao ops i)=some true)
  (I:decide (j<B.length)=true)(hB:(ax B j).vs=l.flatMap f)(hf:∀ x,(f x).length=sz)(hk:e<l.length)
  (y:dJ P (execOp (ev Γ) (ao ops i))=some (.skip,n8 (ax B j).b (0+e*sz) (f x)))
  (H:∀ w',Put (ax B j).b w w'->St w0 h0 w' h (gN B j ((l.set e x).flatMap f))->AG M P n N R X ops k0 (L.setIfInBounds i true) Γ w')(hz:∀ K bs,M.z=some (K,bs)->K<=(ax B j).b\/(ax B j).b∈bs:=by intro _ _ e;cases e):AG M P n N R X ops k0 L Γ w:=by
 have d:=oT I
 have u:(0+e*sz)+(f x).length<=(ax B j).vs.length:=by
  rw[hB,dG hf,hf,yl,<-yf];exact ym _ hk
 obtain ⟨w',o,a,p⟩:=ge _ _ _ _ _ w y (s.own _ (bu d)) u;have c:=s.put C d a p;refine T.store i w' D F o (a.tl hz) (H w' a ?_)
 unfold fy at c
 rw[hB,yl,iW hf l e x hk] at c
 exact c
end rows
theorem kg {a b:Int}(h:a=b):(a == b)=true:=by simpa using h
theorem cD {a b:Int}(h:a≠b):(a == b)=false:=by simpa using h
theorem H7 {a b:Int}(h:a≠b):(a != b)=true:=by simpa using h
theorem Fz {a b:Int}(h:a=b):(a != b)=false:=by simpa using h
theorem St.drop {w0:World}{h0:Hp}{w:World}{h:Hp}{B:List Bx}(s:St w0 h0 w h B)(k:Nat):St w0 h0 w h (B.drop k) :=
 ⟨s.up,fun x a=>s.own x (yn a),fun x a=>s.jk x (yn a),fun x a=>s.lo x (yn a),s.nd.sublist ((yo k B).map (·.b))⟩
theorem aY {a b:Int}(h:(a != b)=false):a=b:=by simpa using h
theorem a6 {a b:Int}(h:(a != b)=true):a≠b:=by simpa using h
theorem ag {a b:Int}(h:(a == b)=false):a≠b:=by simpa using h
theorem pN {α:Type}{f:α->List Value}{b:α}{sz:Nat}(hf:(f b).length=sz)(a:0<sz):∀ (m i:Nat),i<m*sz->((yp m b).flatMap f)[i]?=(f b)[i%sz]?
  | 0,i,h=>by simp at h
  | m + 1,i,h=>by
    rw[yq,x0]
    rcases eb i sz with hl|hl
    . rw[wk oM,yr hl]
    . rw[wu oM,hf,pN hf a m (i-sz) (by rw[yf] at h;omega)]
      congr 1
      rw[Nat.mod_eq_sub_mod hl]
theorem tY {α:Type}{f:α->List Value}{c:α}{z:Value}{sz m:Nat}(d:z.cells.toList=f c)(b:z.cells.size=sz)(a:0<sz):madeCells z.cells (m*sz)=((yp m c).flatMap f).toArray:=by
 have hf:(f c).length=sz:=by rw[<-d];simpa using b
 apply Array.ext_getElem?
 intro i;rw[show ((yp m c).flatMap f).toArray[i]?=((yp m c).flatMap f)[i]? from by simp]
 rcases eb i (m*sz) with hl|hl
 ·rw[pN hf a m i hl,<-d]
  have hm:i%sz<z.cells.size:=by rw[b];exact ys _ a
  simp only[madeCells,Array.getElem?_map,Array.getElem?_range,hl,if_true,tu,b,Array.getElem?_toList]
  rw[e5 hm,getElem!_pos z.cells (i%sz) hm]
 ·rw[ek (by rw[size_madeCells];exact hl),pe]
  have:∀ m,((yp m c).flatMap f).length=m*sz:=by
   intro m
   induction m with
   | zero=>simp
   | succ m ih=>rw[yq,x0,yh,ih,hf,yf];omega
  rw[this];exact hl
section ops
variable {P:Program}{Γ:ck}{o:Oper}
theorem Ef {t e:TypeId}{x ix:Operand}{A:Z9}{len c sz:Nat}{i:Int}(k:Nat)(u:o.op=.indexAddr t x ix)(p:ev Γ x=.slice A len c)(hi:ev Γ ix=.int .i64 i)
    (f:P.underlying t=some (.slice e))(d:(P.info? e).map (·.size)=some sz)(h:A=some ⟨aB A,aO A,none⟩)(hk:i=k)(y:k<len)(w:World) :
    (execOp (ev Γ) o).run P w=.ok (.value (.pointer (some ⟨aB A,aO A+k*sz,none⟩))) w:=by
  subst hk
  unfold execOp
  simp only[u]
  rw[p,hi];have b:P.elem t=e:=by unfold Program.elem;rw[f]
  have h1:=run_indexAt_slice (P:=P) w t ⟨aB A,aO A,none⟩ len c .i64 (k:Int) (by rw[b];exact f);rw[if_pos ⟨by omega,by omega⟩,b] at h1
  have l:(sizeOf e).run P w=.ok sz w:=by
    cases a:P.info? e with
    | none=>rw[a] at d;cases d
    | some i =>
      rw[a] at d
      simp at d
      simp[sizeOf,typeInfo,a,d]
  rw[l] at h1
  have j:((⟨aB A,aO A,none⟩:Addr).add ((k:Int).toNat*sz))=⟨aB A,aO A+k*sz,none⟩:=by
    unfold Addr.add
    simp only[yt]
    split
    . rename_i h0;rw[h0];rfl
    . rfl
  simp only[Result.andThen] at h1
  rw[j] at h1
  rw[<-h] at h1
  rw[Sem.run_bind,h1]
  rfl
theorem Ip {t e:TypeId}{x y:Operand}{z:Value}{m sz c:Nat}{α:Type}{f:α->List Value}{j:α}(C:o.op=.makeSlice t x y)(B:ev Γ x=.int .i64 (m:Int))(l:ev Γ y=.int .i64 (m:Int))
    (p:P.underlying t=some (.slice e))(hi:(P.info? e).map (fun i=>(i.zero,i.size,i.bytes))=some (some z,sz,c))(h:z.cells.toList=f j)(d:z.cells.size=sz)(b:0<sz)(hm:c*m<=140737488355328)(F:m<9223372036854775808)(w:World) :
    (execOp (ev Γ) o).run P w=.ok (.value (.slice (some ⟨w.heap.size,0,none⟩) m m)) (w.alloc (.cells ((yp m j).flatMap f).toArray e (0,0))):=by
  cases a:P.info? e with
  | none=>rw[a] at hi;cases hi
  | some inf =>
    rw[a] at hi
    simp only[tu,Option.some.injEq,Prod.mk.injEq] at hi
    obtain ⟨h1,u,D⟩:=hi
    unfold execOp
    simp only[C]
    have hb:(inf.bytes:Int)*(m:Int)<=281474976710656:=by
      rw[D];have:((c*m:Nat):Int)<=281474976710656:=by omega
      simpa using this
    rw[B,l,Sem.run_bind,run_make (P:=P) w t e inf z p a h1 .i64 .i64 (m:Int) (m:Int) oM oM hb oM]
    simp only[Result.andThen,yt,u]
    rw[tY h d b]
    rfl
theorem Iq {t e:TypeId}{x hi:Operand}{A:Z9}{len b:Nat}{i:Int}(k:Nat)(u:o.op=.slice t x none (some hi) none)(p:ev Γ x=.slice A len b)(d:ev Γ hi=.int .i64 i)
  (l:P.underlying t=some (.slice e))(y:(P.info? e).isSome=true)(hk:i=k)(f:k<=b)(w:World) :
  (execOp (ev Γ) o).run P w=.ok (.value (.slice A k b)) w:=by
 subst hk;obtain ⟨h,c⟩:=g8.1 y
 unfold execOp
 simp only[u,yu,tu]
 rw[p,d];have j:∀ a:Addr,a.add 0=a:=fun a=>by unfold Addr.add;simp
 have e1:A.map (fun a=>a.add (0*h.size))=A:=by cases A<;>simp[j]
 simp[Instr.sliceAt,Instr.slice,Instr.sliceBounds,Instr.sliceBound,run_underlying l,asIntOf,sizeOf,typeInfo,c,Result.andThen,f]
 intro _;cases A<;>simp[j]
theorem DM {t e:TypeId}{x c:Operand}{A:Z9}{len b sz:Nat}{i:Int}(k:Nat)(p:o.op=.slice t x (some c) none none)(l:ev Γ x=.slice A len b)(f:ev Γ c=.int .i64 i)
    (j:P.underlying t=some (.slice e))(d:(P.info? e).map (·.size)=some sz)(hk:i=k)(h:k<=len)(w:World) :
    (execOp (ev Γ) o).run P w=.ok (.value (.slice (if b=k then A else A.map (·.add (k*sz))) (len-k) (b-k))) w:=by
  subst hk;cases a:P.info? e with
  | none=>rw[a] at d;cases d
  | some inf =>
    rw[a] at d
    simp at d
    unfold execOp
    simp only[p,yu,tu]
    rw[l,f]
    simp[Instr.sliceAt,Instr.slice,Instr.sliceBounds,Instr.sliceBound,run_underlying j,asIntOf,sizeOf,typeInfo,a,Result.andThen,h,d]
end ops
def BT (z:Int):List Value:=[.int .i64 z]
abbrev Si (A:Z9)(l:List Int):Hp->Prop:=fun h_=>SlO 1 BT 0 h_ A l
structure Gro (h0:Hp) (B:List Nat) (w:World) (h:Hp) (ty:TypeId) (sz:Nat) (v:Value) (n:Nat) (cs:List Value):Prop where
  own:w.ownsRow h0.size ty sz v n cs
  jk:∀ b,v.ownBlock=some b->h[b]?=some bj
  ap:∀ b,v.ownBlock=some b->b ∉ B
section gro
variable {h0:Hp}{B:List Nat}{w:World}{h:Hp}{ty:TypeId}{sz:Nat}{v:Value}{n:Nat}{cs:List Value}
theorem Gro.nil:Gro h0 B w h ty sz (.slice none 0 0) 0 []:=⟨World.ownsRow_nil _ _ _ _,fun b hb=>by simp[Value.ownBlock] at hb,fun b hb=>by simp[Value.ownBlock] at hb⟩
theorem ef {base:Nat}(o:w.ownsRow base ty sz v n cs){w':World}(hb:∀ b,v.ownBlock=some b->w'.heap[b]?=w.heap[b]?):w'.ownsRow base ty sz v n cs:=by
 rcases o with ⟨h1,h2|⟨g,cap,cur,hv,hb',hg,hn,hm,hs,ht⟩⟩
 ·exact ⟨h1,.inl h2⟩
 ·exact ⟨h1,.inr ⟨g,cap,cur,hv,hb',(hb g (by rw[hv];rfl)).trans hg,hn,hm,hs,ht⟩⟩
theorem Gro.lt (r:Gro h0 B w h ty sz v n cs){b:Nat}(hb:v.ownBlock=some b):b<h.size:=aJ (r.jk b hb)
theorem iX {base:Nat}(o:w.ownsRow base ty sz v n cs){b:Nat}(hb:v.ownBlock=some b):b<w.heap.size:=by
 rcases o with ⟨_,⟨rfl,_⟩|⟨g,cap,cur,rfl,_,hg,_⟩⟩
 ·simp[Value.ownBlock] at hb
 ·simp[Value.ownBlock] at hb
  subst hb
  rcases eb g w.heap.size with hl|hl
  ·exact hl
  ·rw[ek hl] at hg;cases hg
theorem Gro.up (r:Gro h0 B w h ty sz v n cs){w':World}{a:Hp}(u:Up w h w' a):Gro h0 B w' a ty sz v n cs :=
 ⟨ef r.own (fun b hb=>Below.block u.ext b (iX r.own hb)),fun b hb=>(u.gr.blk b (r.lt hb)).trans (r.jk b hb),r.ap⟩
theorem Gro.put (r:Gro h0 B w h ty sz v n cs){w':World}{b:Nat}(p:Put b w w')(hb:b∈B):Gro h0 B w' h ty sz v n cs :=
 ⟨ef r.own (fun c a=>p.blk c (fun e=>r.ap c a (e▸hb))),r.jk,r.ap⟩
theorem Gro.new (r:Gro h0 B w h ty sz v n cs)(b:Nat)(hb:∀ c,v.ownBlock=some c->c≠b):Gro h0 (b::B) w h ty sz v n cs :=
 ⟨r.own,r.jk,fun c a hm=>by
  rcases g1.1 hm with e|e
  ·exact hb c a e
  ·exact r.ap c a e⟩
theorem Gro.sub (r:Gro h0 B w h ty sz v n cs)(a:List Nat)(c:∀ b∈a,b∈B):Gro h0 a w h ty sz v n cs:=⟨r.own,r.jk,fun b hb hm=>r.ap b hb (c b hm)⟩
theorem Gro.out (r:Gro h0 B w h ty sz v n cs){d:Hp}{b:Nat}(hb:b∈B)(f:∀ c,c≠b->d[c]?=h[c]?):Gro h0 B w d ty sz v n cs :=
 ⟨r.own,fun c a=>(f c (fun e=>r.ap c a (e▸hb))).trans (r.jk c a),r.ap⟩
theorem Gro.app (r:Gro h0 B w h ty sz v n cs){w':World}{c:Hp}{row:Option Nat}(d:w.grownBy w' row)(f:Gr h c)(a:∀ b,v.ownBlock=some b->row≠some b):Gro h0 B w' c ty sz v n cs :=
 ⟨ef r.own (fun b hb=>d.block b (iX r.own hb) (fun e=>a b hb e.symm)),fun b hb=>(f.blk b (r.lt hb)).trans (r.jk b hb),r.ap⟩
theorem ph {w0:World}{f:List Bx}{w':World}(s:St w0 h0 w h f)(p:G w0 h0)(r:Gro h0 (f.map (·.b)) w h ty sz v n cs)(a:w.grownBy w' v.ownBlock):∃ i,Gr h i/\St w0 h0 w' i f/\∀ b,h.size<=b->b<w'.heap.size->i[b]?=some bj:=by
  have l:∀ b,v.ownBlock=some b->h0.size<=b:=by
    intro b hb
    rcases r.own with ⟨_,⟨rfl,_⟩|⟨g,cap,cur,rfl,hbb,_⟩⟩
    . simp[Value.ownBlock] at hb
    . simp[Value.ownBlock] at hb;omega
  have o:=s.g.size;have j:=a.size;have c:Gr h (h++o8 (w'.heap.size-h.size) bj):=⟨by simp,fun b hb=>po hb⟩;refine ⟨h++o8 (w'.heap.size-h.size) bj,c,⟨⟨⟨a.os.trans s.up.ext.os,a.tape.trans s.up.ext.tape,a.output.trans s.up.ext.output,eu s.up.ext.size j,fun b hb=>?_⟩,s.up.gr.trans c,⟨by simp;omega,fun b=>?_⟩⟩,?_,?_,s.lo,s.nd⟩,?_⟩
  . rw[a.block b (ey hb s.up.ext.size) (fun e=>by have:=l b e.symm;rw[p.size] at hb;omega)]
    exact Below.block s.up.ext b hb
  . rcases eb b h.size with hb|hb
    . rw[po hb]
      by_cases e:v.ownBlock=some b
      . exact .inr (r.jk b e)
      . rw[a.block b oM (fun u=>e u.symm)];exact s.g.blk b
    . by_cases hl:b<w'.heap.size
      . right
        rw[yv hb,yw,if_pos oM]
      . left
        rw[ek (by simp;omega),ek oM]
  . intro x d
    show w'.heap[x.b]?=_
    rw[a.block x.b (s.own x d).lt (fun e=>r.ap x.b e.symm (gs.2 ⟨x,d,rfl⟩))];exact s.own x d
  . intro x d
    rw[c.blk _ (aJ (s.jk x d))];exact s.jk x d
  . intro b h1 y
    rw[yv h1,yw,if_pos oM]
def Apart (v u:Value):Prop:=∀ b,v.ownBlock=some b->u.ownBlock≠some b
theorem Apart.symm {v u:Value}(h:Apart v u):Apart u v:=fun b hb hv=>h b hv hb
theorem Apart.grown {v v' u:Value}(h:Apart v u)(hb:v'.ownBlock=v.ownBlock\/v'.ownBlock=some w.heap.size)(c:∀ b,u.ownBlock=some b->b<w.heap.size):Apart v' u:=fun b hv a=>by
 rcases hb with e|e
 ·exact h b (e▸hv) a
 ·rw[e] at hv
  injection hv with hv
  have:=c b a
  omega
theorem Apart.nil {u:Value}:Apart (.slice none 0 0) u:=fun b hb=>by simp[Value.ownBlock] at hb
end gro
section app
variable {P:Program}{n:Nat}{N R:Po}{X:Nat->Po}{ops:Array Oper}{k0:Nat}{hr:Hp}{AL:List Al}{L:Array Bool}{Γ:ck}{w:World}{h:Hp}{w0:World}{h0:Hp}{B:List Bx}
theorem rV {o:Oper}{x y:Operand}{t e:TypeId}{z:Value}{sz C m m2 c:Nat}{v:Value}{cs news:List Value}{a:Addr}(M:o.op=.call { callee:=.builtin .append,args:=#[x,y],argTypes:=#[t,t] })
    (L:ev Γ x=v)(H:ev Γ y=.slice (some a) m2 c)(I:P.underlying t=some (.slice e))(hi:(P.info? e).map (fun i=>(i.zero,i.size,i.bytes))=some (some z,sz,C))(D:z.cells.size=sz)(l:0<sz)
    (s:St w0 h0 w h B)(r:Gro h0 (B.map (·.b)) w h e sz v m cs)(Q:news.length=m2*sz)(f:∀ j u,news[j]?=some u->w.cell? (a.add j)=some u)(h1:∀ u∈news,u.oneCell'=true)
    (hm:m+m2<=1099511627776)(hb:(m+m2)*C<=140737488355328) :
    ∃ v' w',(execOp (ev Γ) o).run P w=.ok (.value v') w'/\w'.ownsRow h0.size e sz v' (m+m2) (cs++news)/\w.grownBy w' v.ownBlock/\(v'.ownBlock=v.ownBlock\/v'.ownBlock=some w.heap.size):=by
  cases d:P.info? e with
  | none=>rw[d] at hi;cases hi
  | some inf =>
    rw[d] at hi
    simp only[tu,Option.some.injEq,Prod.mk.injEq] at hi
    obtain ⟨i1,K,F⟩:=hi;obtain ⟨v',w',p,J,O,U,S⟩:=run_append_own_at (P:=P) w h0.size t o.type e inf z sz C I d i1 K F D l v m cs r.own a m2 c news Q f h1 (by unfold maxLen;omega) hb (by rw[s.g.size];exact s.sz);refine ⟨v',w',?_,J,O,S⟩
    unfold execOp
    simp only[M,resolve,invoke,builtin,Sem.run_bind,Sem.run_pure,Result.andThen_ok,List.map_toArray,yx,List.map_nil,L,H,p]
theorem Gro.grown {ty:TypeId}{sz m m2:Nat}{v v':Value}{cs news:List Value}{w':World}{c:Hp}(s:St w0 h0 w h B)(r:Gro h0 (B.map (·.b)) w h ty sz v m cs)(f:w'.ownsRow h0.size ty sz v' (m+m2) (cs++news))(hb:v'.ownBlock=v.ownBlock\/v'.ownBlock=some w.heap.size)(p:Gr h c)(o:∀ b,h.size<=b->b<w'.heap.size->c[b]?=some bj) :
  Gro h0 (B.map (·.b)) w' c ty sz v' (m+m2) (cs++news):=by
 have d:∀ b,v'.ownBlock=some b->b<w'.heap.size:=by
  intro b a
  rcases f with ⟨_,⟨rfl,_⟩|⟨g,cap,cur,rfl,_,hg,_⟩⟩
  ·simp[Value.ownBlock] at a
  ·simp[Value.ownBlock] at a
   subst a
   rcases eb g w'.heap.size with hl|hl
   ·exact hl
   ·rw[ek hl] at hg;cases hg
 refine ⟨f,fun b a=>?_,fun b a=>?_⟩
 ·rcases hb with e|e
  ·rw[e] at a;rw[p.blk b (r.lt a)];exact r.jk b a
  ·have:b=w.heap.size:=by rw[e] at a;injection a with a;exact a.symm
   exact o b (by rw[this,s.g.size];exact ep _) (d b a)
 ·rcases hb with e|e
  ·rw[e] at a;exact r.ap b a
  ·have:b=w.heap.size:=by rw[e] at a;injection a with a;exact a.symm
   intro hm;obtain ⟨x,l,i⟩:=gs.1 hm;have:=(s.own x l).lt;have j:x.b=b:=i
   omega
theorem lr {b:Nat}{news:List Value}(g:G w h)(c:Seg h b 0 news):∀ j u,news[j]?=some u->w.cell? ((⟨b,0,none⟩:Addr).add j)=some u:=by
 intro j u a;have:=kp g (c j u a)
 unfold Addr.add
 split
 ·rename_i h0;subst h0;exact this
 ·exact this
end app
theorem UpM.put {M:List Nat}{w0 w w':World}{h0 h:Hp}{b:Nat}(u:UpM M w0 h0 w h)(p:Put b w w')(hb:b∈M)(g:G w' h):UpM M w0 h0 w' h :=
 ⟨⟨p.os.trans u.mo.os,p.tape.trans u.mo.tape,p.output.trans u.mo.output,by rw[p.size];exact u.mo.size,fun c d a=>(p.blk c (fun e=>a (e▸hb))).trans (u.mo.blk c d a)⟩,u.gr,g⟩
theorem St.at_ {w:World}{h:Hp}{rb:Nat}{t:TypeId}{vs:List Value}(g:G w h)(o:Own w rb t vs)(j:h[rb]?=some bj):∃ w0 h0,G w0 h0/\St w0 h0 w h [⟨rb,t,vs⟩]:=by
 have e:=aJ j;have d:=g.size;refine ⟨{ w with heap:=w.heap.extract 0 rb },h.extract 0 rb,⟨by simp;omega,fun b=>?_⟩,⟨⟨⟨rfl,rfl,rfl,by simp;omega,fun b hb=>?_⟩,⟨by simp;omega,fun b hb=>?_⟩,g⟩,?_,?_,?_,by simp⟩⟩
 ·show (h.extract 0 rb)[b]?=(w.heap.extract 0 rb)[b]?\/_
  rw[yy,yy]
  by_cases hb:b<rb
  ·rw[if_pos oM,if_pos oM];simpa using g.blk b
  ·rw[if_neg oM,if_neg oM];exact .inl rfl
 ·have c:b<rb:=by have:b<(w.heap.extract 0 rb).size:=hb;simp at this;omega
  show w.heap[b]?=(w.heap.extract 0 rb)[b]?
  rw[yy,if_pos oM];simp
 ·have c:b<rb:=by simp at hb;omega
  rw[yy,if_pos oM];simp
 ·intro x a;rw[ov] at a;subst a;exact o
 ·intro x a;rw[ov] at a;subst a;exact j
 ·intro x a;rw[ov] at a;subst a;simp;omega
def dX (rb:Nat)(w0:World)(h0:Hp)(Φ:Value->World->Hp->Prop):Ending->World->Prop:=fun e w'=>∃ v h',e=.returned v/\UpM [rb] w0 h0 w' h'/\Φ v w' h'
section
variable {P:Program}{n:Nat}{Γ:ck}{w:World}{h:Hp}{w0 wz:World}{h0 hz:Hp}{B:List Bx}
theorem retM {c:Func}{rb:Nat}{Φ:Value->World->Hp->Prop}(s:St wz hz w h B)(f:UpM [rb] w0 h0 w h)(ps:List (Nat × Nat × Nat))(v:Value)(hk:(n9 c Γ && ce B ps)=true)(e:bU P (oI c Γ) (cO B ps)=some (v,bQ B ps))(b:Φ v w h) :
  ∀ a,Kn n a Γ->nL P c (dX rb w0 h0 Φ) a w:=by
 intro a d;rw[g7] at hk
 refine ⟨d.df.trans (tc hk.1),v,?_,v,h,rfl,f,b⟩;rw[kc d hk.1];exact bS _ _ _ _ e (cI s.own ps hk.2)
theorem St.stepM (s:St w0 h0 w h B)(L:G w0 h0){j:Nat}{vs:List Value}{w':World}{H:Hp}(p:j<B.length)(u:UpM [(ax B j).b] w h w' H)(M:Own w' (ax B j).b (ax B j).t vs):St w0 h0 w' H (gN B j vs):=by
  have hm:=bu p;have O:=s.lo _ hm
  have o:(gN B j vs).map (·.b)=B.map (·.b):=by
    unfold gN
    rw[um]
    apply uE
    intro i
    by_cases e:j=i
    . subst e
      rw[u9 (by simpa using p)]
      simp[ax,p]
    . rw[va e]
  have C:Up w0 h0 w' H:=by
    refine ⟨⟨u.mo.os.trans s.up.ext.os,u.mo.tape.trans s.up.ext.tape,u.mo.output.trans s.up.ext.output,eu s.up.ext.size u.mo.size,fun c F=>?_⟩,s.up.gr.trans u.gr,u.g⟩;rw[u.mo.blk c (ey F s.up.ext.size) (fun hm=>by rw[ov] at hm;rw[L.size] at F;omega)];exact Below.block s.up.ext c F
  have d:∀ x∈gN B j vs,∃ y∈B,y.b=x.b:=by
    intro x f;have:x.b∈(gN B j vs).map (·.b):=gs.2 ⟨x,f,rfl⟩;rw[o] at this
    obtain ⟨y,l,a⟩:=gs.1 this;exact ⟨y,l,a⟩
  refine ⟨C,?_,?_,?_,by rw[o];exact s.nd⟩
  . intro x f
    obtain ⟨i,hi,a⟩:=vb.1 f;have z:i<B.length:=by simpa [gN] using hi
    by_cases e:j=i
    . subst e
      have:x={ ax B j with vs:=vs }:=by rw[<-a];simp[gN]
      subst this;exact M
    . have D:x=B[i]:=by rw[<-a];simp[gN,e]
      subst D
      have J:B[i].b≠(ax B j).b:=by
        intro I
        have h1:(B.map (·.b))[i]'(by simpa using z)=(B.map (·.b))[j]'(by simpa using p):=by
          simp only[vl]
          rw[I]
          simp[ax,p]
        exact e ((vE s.nd).1 h1).symm
      have K:=s.own _ (fu z)
      show w'.heap[B[i].b]?=_
      rw[u.mo.blk _ K.lt (fun hm=>J (ov.1 hm))];exact K
  . intro x f
    obtain ⟨y,l,a⟩:=d x f;rw[<-a,u.gr.blk _ (aJ (s.jk y l))];exact s.jk y l
  . intro x f
    obtain ⟨y,l,a⟩:=d x f;rw[<-a];exact s.lo y l
theorem Gro.upM {hb:Hp}{d:List Nat}{ty:TypeId}{sz:Nat}{v:Value}{m:Nat}{cs:List Value}(r:Gro hb d w h ty sz v m cs){w':World}{f:Hp}{b:Nat}(u:UpM [b] w h w' f)(hm:b∈d):Gro hb d w' f ty sz v m cs :=
 ⟨ef r.own (fun c a=>u.mo.blk c (iX r.own a) (fun e=>by rw[ov] at e;exact r.ap c a (e▸hm))),fun c a=>(u.gr.blk c (r.lt a)).trans (r.jk c a),r.ap⟩
theorem fI (s:St w0 h0 w h B){i j:Nat}(hi:decide (i<B.length)=true)(f:decide (j<B.length)=true)(e:(i == j)=false):(ax B i).b≠(ax B j).b:=by
 have a:=oT hi;have c:=oT f;intro d
 have h1:(B.map (·.b))[i]'(by simpa using a)=(B.map (·.b))[j]'(by simpa using c):=by
  simp only[vl]
  simpa [ax,a,c] using d
 have:=(vE s.nd).1 h1;subst this
 simp at e
end
section pub
variable {h0:Hp}{B:List Nat}{w:World}{h:Hp}{ty:TypeId}{sz:Nat}{v:Value}{n:Nat}{cs:List Value}
theorem Gro.pub3 {w0:World}{o:List Bx}{A:Z9}{f a:Nat}(s:St w0 h0 w h o)(r:Gro h0 (o.map (·.b)) w h ty sz (.slice A f a) n cs):∃ z,St w0 h0 w z o/\Gw h z/\(∀ c,(Value.slice A f a).ownBlock≠some c->z[c]?=h[c]?)/\f=n/\n<=a/\(0<n->A=some ⟨aB A,0,none⟩/\aO A=0)/\Seg z (aB A) 0 cs:=by
  rcases r.own with ⟨h1,⟨e,rfl⟩|⟨b,cap',cur,e,hbb,hg,hn,hm,hs,ht⟩⟩
  . injection e with e1 e2 e3
    subst e1 e2 e3;have:cs=[]:=yj (by simpa using h1);subst this;exact ⟨h,s,⟨ep _,fun _ _=>.inl rfl⟩,fun _ _=>rfl,rfl,ep _,fun h=>by omega,fun i v hv=>by simp at hv⟩
  . injection e with e1 e2 e3
    subst e1 e2 e3;have j:=r.jk b rfl;have l:=aJ j;have B:∀ x∈o,x.b≠b:=fun x y e=>r.ap b rfl (gs.2 ⟨x,y,e⟩)
    refine ⟨h.setIfInBounds b (.cells cur ty),⟨⟨s.up.ext,⟨by simp;exact s.up.gr.size,fun c p=>?_⟩,⟨by simp;exact s.up.g.size,fun c=>?_⟩⟩,s.own,?_,s.lo,s.nd⟩,⟨by simp,fun c p=>?_⟩,fun c p=>?_,rfl,hn,fun _=>⟨rfl,rfl⟩,?_⟩
    . rw[g6 oM];exact s.up.gr.blk c p
    . by_cases e:b=c
      . subst e;left;rw[yz l];exact hg.symm
      . rw[g6 e];exact s.up.g.blk c
    . intro x y
      rw[g6 (Ne.symm (B x y))];exact s.jk x y
    . by_cases e:b=c
      . subst e;exact .inr j
      . left;rw[g6 e]
    . rw[g6 (fun e=>p (by rw[<-e];rfl))]
    . intro i u d
      unfold dL
      show (match (h.setIfInBounds b (.cells cur ty))[b]? with|some (.cells c _ _)=>c[0+i]?|_=>none)=some u
      rw[yz l];rw[<-ht] at d
      have hi:i<f*sz:=by
        rcases eb i (f*sz) with hl|hl
        . exact hl
        . rw[pe (by simp;omega)] at d;cases d
      rw[wq hi] at d
      simpa using d
theorem Gro.pubo (r:Gro h0 B w h ty sz v n cs){a:Hp}{u:Value}(d:∀ c,u.ownBlock≠some c->a[c]?=h[c]?)(e:Apart v u):Gro h0 B w a ty sz v n cs:=⟨r.own,fun b hb=>(d b (e b hb)).trans (r.jk b hb),r.ap⟩
theorem SlO.of_pub {α:Type}{f:α->List Value}{d:α}{l:List α}{A:Z9}(hf:∀ x,(f x).length=sz)(b:0<l.length->A=some ⟨aB A,0,none⟩/\aO A=0)(a:Seg h (aB A) 0 (l.flatMap f)):SlO sz f d h A l:=by
 rcases yA l.length with h0'|h0'
 ·have:l=[]:=yj h0'
  subst this;exact SlO.nil
 ·obtain ⟨e1,e2⟩:=b h0'
  have:=SlO.of_flat (d:=d) hf a;rw[<-e1] at this
  exact this
end pub
theorem St.pubX {w0:World}{h0:Hp}{w:World}{h:Hp}{B:List Bx}(s:St w0 h0 w h B)(j:Nat)(f:j<B.length):∃ o,St w0 h0 w o (B.eraseIdx j)/\Gw h o/\Seg o (ax B j).b 0 (ax B j).vs/\o[(ax B j).b]?=some (.cells (ax B j).vs.toArray (ax B j).t (0,0))/\∀ c,c≠(ax B j).b->o[c]?=h[c]?:=by
 have hm:=bu f;have F:=s.own _ hm;have l:=s.jk _ hm;have d:=aJ l
 have z:∀ x∈B.eraseIdx j,x.b≠(ax B j).b:=by
  intro x a;obtain ⟨i,hi,u⟩:=vb.1 a;rw[yB] at u
  intro hb;have p:=s.nd;have C:(ax B j)=B[j]:=by unfold ax;simp[f]
  split at u
  ·rename_i H
   have:(B.map (·.b))[i]'(by simp;omega)=(B.map (·.b))[j]'(by simpa using f):=by simp only[vl];rw[u,hb,C]
   have:=(vE p).1 this
   omega
  ·rename_i H
   have y:i+1<B.length:=by rw[yC f] at hi;omega
   have:(B.map (·.b))[i+1]'(by simpa using y)=(B.map (·.b))[j]'(by simpa using f):=by simp only[vl];rw[u,hb,C]
   have:=(vE p).1 this
   omega
 refine ⟨h.setIfInBounds (ax B j).b (.cells (ax B j).vs.toArray (ax B j).t (0,0)),⟨⟨s.up.ext,⟨by simp;exact s.up.gr.size,fun b hb=>?_⟩,⟨by simp;exact s.up.g.size,fun b=>?_⟩⟩,?_,?_,?_,?_⟩,⟨by simp,fun b hb=>?_⟩,?_,yz d,fun c D=>g6 (Ne.symm D)⟩
 ·have:=s.lo _ hm
  rw[g6 oM];exact s.up.gr.blk b hb
 ·by_cases e:(ax B j).b=b
  ·subst e
   left
   rw[yz d];exact F.symm
  ·rw[g6 e];exact s.up.g.blk b
 ·exact fun x a=>s.own x (yD a)
 ·intro x a
  rw[g6 (Ne.symm (z x a))];exact s.jk x (yD a)
 ·exact fun x a=>s.lo x (yD a)
 ·exact s.nd.sublist ((yE B j).map (·.b))
 ·by_cases e:(ax B j).b=b
  ·subst e;exact .inr l
  ·left;rw[g6 e]
 ·intro i v hv
  unfold dL
  rw[yz d]
  simpa using hv
structure Rw where
  ty:TypeId
  sz:Nat
  A:Z9
  c:Nat
  n:Nat
  cs:List Value
  deriving Inhabited
def Rw.v (r:Rw):Value:=.slice r.A r.n r.c
def AllF:List (Hp->Prop)->Hp->Prop
  | [],_=>True
  | p::l,h=>p h/\AllF l h
theorem AllF.q {a b c d:Hp->Prop}{F:List (Hp->Prop)}{h:Hp}(x:AllF (a::b::c::d::F) h):AllF F h:=x.2.2.2.2
theorem AllF.r {a b:Hp->Prop}{F:List (Hp->Prop)}{h:Hp}(x:AllF (a::b::F) h):AllF F h:=x.2.2
theorem AllF.gw:∀ {F:List (Hp->Prop)} {h a:Hp},(∀ p∈F,∀ h a,Gw h a->p h->p a)->Gw h a->AllF F h->AllF F a
 | [],_,_,_,_,_=>trivial
 | p::_,_,_,m,u,x=>⟨m p (by simp) _ _ u x.1,AllF.gw (fun q b=>m q (by simp[b])) u x.2⟩
structure SS (w0:World) (h0:Hp) (w:World) (h:Hp) (B:List Bx) (R:List Rw) (F:List (Hp->Prop)):Prop where
  g0:G w0 h0
  st:St w0 h0 w h B
  ro:∀ r∈R,Gro h0 (B.map (·.b)) w h r.ty r.sz r.v r.n r.cs
  ap:R.Pairwise (fun r s=>Apart r.v s.v)
  mo:∀ p∈F,∀ h h',Gw h h'->p h->p h'
  f:AllF F h
section ss
variable {w0:World}{h0:Hp}{w:World}{h:Hp}{B:List Bx}{R:List Rw}{F:List (Hp->Prop)}
theorem SS.start (g:G w h):SS w h w h [] [] []:=⟨g,St.start g,fun _ a=>(by cases a),.nil,fun _ a=>(by cases a),trivial⟩
theorem SS.g (s:SS w0 h0 w h B R F):G w h:=s.st.g
theorem SS.step (s:SS w0 h0 w h B R F){w':World}{a:Hp}(u:Up w h w' a):SS w0 h0 w' a B R F :=
 ⟨s.g0,s.st.step u,fun r hr=>(s.ro r hr).up u,s.ap,s.mo,s.f.gw s.mo u.gr.gw⟩
theorem SS.add (s:SS w0 h0 w h B R F){K:Hp->Prop}(x:K h)(m:∀ h h',Gw h h'->K h->K h':=by intro _ _ u x;exact x.gw u):SS w0 h0 w h B R (K::F) :=
 ⟨s.g0,s.st,s.ro,s.ap,fun p a=>by
  rcases g1.1 a with rfl|a
  ·exact m
  ·exact s.mo p a,x,s.f⟩
theorem SS.a_SlO {α:Type}{sz:Nat}{f:α->List Value}{d:α}{A:Z9}{l:List α}(s:SS w0 h0 w h B R F)(x:SlO sz f d h A l):SS w0 h0 w h B R ((fun h=>SlO sz f d h A l)::F):=s.add (K:=fun h=>SlO sz f d h A l) x
theorem SS.a_Seg {b o:Nat}{cs:List Value}(s:SS w0 h0 w h B R F)(x:Seg h b o cs):SS w0 h0 w h B R ((fun h=>Seg h b o cs)::F):=s.add (K:=fun h=>Seg h b o cs) x
theorem SS.tl {K:Hp->Prop}(s:SS w0 h0 w h B R (K::F)):SS w0 h0 w h B R F:=⟨s.g0,s.st,s.ro,s.ap,fun p a=>s.mo p (List.mem_cons_of_mem _ a),s.f.2⟩
theorem SS.nil (s:SS w0 h0 w h B R F)(ty:TypeId)(sz:Nat):SS w0 h0 w h B (⟨ty,sz,none,0,0,[]⟩::R) F :=
 ⟨s.g0,s.st,fun r hr=>by
  rcases g1.1 hr with rfl|hr
  ·exact Gro.nil
  ·exact s.ro r hr,List.pairwise_cons.2 ⟨fun _ _=>Apart.nil,s.ap⟩,s.mo,s.f⟩
theorem SS.to (s:SS w0 h0 w h B R F)(a:List Bx)(R':List Rw)(e:B=a:=by kernel_rfl)(e2:R=R':=by kernel_rfl):SS w0 h0 w h a R' F:=e▸e2▸s
theorem kz {j o:Nat}{cs:List Value}(a:j<B.length):(fy B j o cs).map (·.b)=B.map (·.b):=by
 unfold fy
 rw[um]
 apply uE
 intro i
 by_cases e:j=i
 ·subst e
  rw[u9 (by simpa using a)]
  simp[ax,a]
 ·rw[va e]
theorem jS {j:Nat}{vs:List Value}(a:j<B.length):(gN B j vs).map (·.b)=B.map (·.b):=by
 unfold gN
 rw[um]
 apply uE
 intro i
 by_cases e:j=i
 ·subst e
  rw[u9 (by simpa using a)]
  simp[ax,a]
 ·rw[va e]
theorem SS.put0 (s:SS w0 h0 w h B R F){j:Nat}{a:List Bx}{w':World}(c:j<B.length)(p:Put (ax B j).b w w')(d:St w0 h0 w' h a)(e:a.map (·.b)=B.map (·.b)):SS w0 h0 w' h a R F :=
 ⟨s.g0,d,fun r hr=>by rw[e];exact (s.ro r hr).put p (gs.2 ⟨_,bu c,rfl⟩),s.ap,s.mo,s.f⟩
theorem SS.new (s:SS w0 h0 w h B R F){w':World}{a:Hp}(u:Up w h w' a){b:Nat}{ty:TypeId}{vs:List Value}(hb:h.size<=b)(i:St w0 h0 w' a (⟨b,ty,vs⟩::B)):SS w0 h0 w' a (⟨b,ty,vs⟩::B) R F :=
 ⟨s.g0,i,fun r hr=>((s.ro r hr).up u).new b (fun c d e=>by have:=(s.ro r hr).lt d;omega),s.ap,s.mo,s.f.gw s.mo u.gr.gw⟩
theorem SS.stepM (s:SS w0 h0 w h B R F)(j:Nat){rb:Nat}{vs:List Value}{w':World}{c:Hp}(u:UpM [rb] w h w' c)(i:Own w' rb (ax B j).t vs)(d:decide (j<B.length)=true:=by kernel_rfl)(e:(ax B j).b=rb:=by kernel_rfl):SS w0 h0 w' c (gN B j vs) R F:=by
 subst e;have a:=oT d;exact ⟨s.g0,s.st.stepM s.g0 a u i,fun r hr=>by rw[jS a];exact (s.ro r hr).upM u (gs.2 ⟨_,bu a,rfl⟩),s.ap,s.mo,s.f.gw s.mo u.gr.gw⟩
theorem SS.drop (s:SS w0 h0 w h B R F)(k m:Nat):SS w0 h0 w h (B.drop k) (R.drop m) F :=
 ⟨s.g0,s.st.drop k,fun r hr=>(s.ro r (yn hr)).sub _ (fun b hb=>by
  obtain ⟨x,a,e⟩:=gs.1 hb;exact gs.2 ⟨x,yn a,e⟩),s.ap.sublist (yo _ _),s.mo,s.f⟩
theorem SS.own (s:SS w0 h0 w h B R F)(j:Nat)(a:decide (j<B.length)=true:=by kernel_rfl):Own w (ax B j).b (ax B j).t (ax B j).vs:=s.st.own _ (bu (oT a))
theorem SS.jk (s:SS w0 h0 w h B R F)(j:Nat)(a:decide (j<B.length)=true:=by kernel_rfl):h[(ax B j).b]?=some bj:=s.st.jk _ (bu (oT a))
theorem SS.pub (s:SS w0 h0 w h B R F)(j:Nat)(o:decide (j<B.length)=true:=by kernel_rfl):∃ a,SS w0 h0 w a (B.eraseIdx j) R F/\Seg a (ax B j).b 0 (ax B j).vs/\h0.size<=(ax B j).b/\a[(ax B j).b]?=some (.cells (ax B j).vs.toArray (ax B j).t (0,0)):=by
 have c:=oT o;obtain ⟨a,u,gw,i,p,d⟩:=s.st.pubX j c;have hm:=bu c;refine ⟨a,⟨s.g0,u,fun r hr=>((s.ro r hr).out (gs.2 ⟨_,hm,rfl⟩) d).sub _ (fun b hb=>?_),s.ap,s.mo,s.f.gw s.mo gw⟩,i,s.st.lo _ hm,p⟩;obtain ⟨x,l,e⟩:=gs.1 hb;exact gs.2 ⟨x,yD l,e⟩
theorem SS.take (s:SS w0 h0 w h B R F){w':World}{j:Hp}(u:Up w h w' j){b:Nat}{ty:TypeId}{vs:List Value}(hb:h.size<=b)(d:j[b]?=some (.cells vs.toArray ty (0,0)))(l:(ty == 0)=false:=by kernel_rfl) :
  ∃ i,SS w0 h0 w' i (⟨b,ty,vs⟩::B) R F/\(∀ c,c≠b->i[c]?=j[c]?)/\Gr h i:=by
 have o:=aJ d;have p:Gr h (j.setIfInBounds b bj):=⟨by simp;exact u.gr.size,fun c f=>by rw[g6 oM];exact u.gr.blk c f⟩
 have J:G w' (j.setIfInBounds b bj):=⟨by simp;exact u.g.size,fun c=>by
  by_cases e:b=c
  ·subst e;right;rw[yz o]
  ·rw[g6 e];exact u.g.blk c⟩
 have z:Up w h w' (j.setIfInBounds b bj):=⟨u.ext,p,J⟩
 have I:Own w' b ty vs:=by
  rcases u.g.blk b with e|e
  ·exact e.symm.trans d
  ·rw[e] at d
   injection d with d
   unfold bj at d
   injection d with h1 h2 h3
   rw[<-h2] at l
   cases l
 refine ⟨j.setIfInBounds b bj,s.new z hb ⟨s.st.up.trans z,?_,?_,?_,?_⟩,fun c f=>g6 (Ne.symm f),p⟩
 ·intro x a
  rcases g1.1 a with rfl|a
  ·exact I
  ·exact (s.st.own x a).ext u.ext
 ·intro x a
  rcases g1.1 a with rfl|a
  ·exact yz o
  ·rw[p.blk _ (aJ (s.st.jk x a))];exact s.st.jk x a
 ·intro x a
  rcases g1.1 a with rfl|a
  ·exact eu s.st.sz hb
  ·exact s.st.lo x a
 ·refine g2.2 ⟨fun hm=>?_,s.st.nd⟩
  obtain ⟨y,C,D⟩:=gs.1 hm;have:=aJ (s.st.jk y C);have H:y.b=b:=D
  omega
theorem SS.pubr (s:SS w0 h0 w h B R F)(j:Nat){ty:TypeId}{sz c:Nat}{A:Z9}{α:Type}{f:α->List Value}{l:List α}(d:α)(hf:∀ x,(f x).length=sz)(hr:R.getD j default=⟨ty,sz,A,c,l.length,l.flatMap f⟩:=by kernel_rfl)(L:decide (j<R.length)=true:=by kernel_rfl) :
  ∃ o,SS w0 h0 w o B (R.eraseIdx j) ((fun h=>SlO sz f d h A l)::F)/\l.length<=c:=by
 have a:=oT L;have D:R[j]=⟨ty,sz,A,c,l.length,l.flatMap f⟩:=by rw[<-hr];simp[a]
 have hm:R[j]∈R:=fu a;have H:=s.ro _ hm;rw[D] at H
 obtain ⟨o,J,gw,M,_,I,hz,K⟩:=Gro.pub3 s.st H
 have z:∀ r∈R.eraseIdx j,Apart r.v R[j].v:=by
  intro r hr;obtain ⟨i,hi,e⟩:=vb.1 hr;rw[yB] at e
  have b:=yF.1 s.ap
  split at e
  ·rename_i C;rw[<-e];exact b i j oM a C
  ·rename_i C
   rw[<-e];have y:i+1<R.length:=by rw[yC a] at hi;omega
   exact (b j (i+1) a y oM).symm
 refine ⟨o,⟨s.g0,J,fun r hr=>(s.ro r (yD hr)).pubo M (by have:=z r hr;rw[D] at this;exact this),s.ap.sublist (yE R j),fun p b=>by
  rcases g1.1 b with rfl|b
  ·exact fun _ _ u x=>x.gw u
  ·exact s.mo p b,SlO.of_pub hf hz K,s.f.gw s.mo gw⟩,I⟩
theorem SS.grown (s:SS w0 h0 w h B R F){j:Nat}(I:j<R.length){w':World}{v':Value}{m2:Nat}{news:List Value}(O:w'.ownsRow h0.size R[j].ty R[j].sz v' (R[j].n+m2) (R[j].cs++news))(M:w.grownBy w' R[j].v.ownBlock)(hb:v'.ownBlock=R[j].v.ownBlock\/v'.ownBlock=some w.heap.size) :
    ∃ z A c,v'=.slice A (R[j].n+m2) c/\Gr h z/\SS w0 h0 w' z B (R.set j ⟨R[j].ty,R[j].sz,A,c,R[j].n+m2,R[j].cs++news⟩) F:=by
  have hm:R[j]∈R:=fu I;have r:=s.ro _ hm;obtain ⟨z,C,S,J⟩:=ph s.st s.g0 r M;have Q:=r.grown s.st O hb C J
  have L:∃ A c,v'=.slice A (R[j].n+m2) c:=by
    rcases O with ⟨_,⟨e,e2⟩|⟨g,cap,cur,e,_⟩⟩
    . exact ⟨none,0,by rw[e,e2]⟩
    . exact ⟨_,_,e⟩
  obtain ⟨A,c,e⟩:=L;subst e;have H:=yF.1 s.ap
  have d:∀ i (hi:i<R.length),i≠j->Apart R[j].v R[i].v:=fun i hi p=>by
    rcases Nat.lt_or_gt_of_ne p with hl|hl
    . exact (H i j hi I hl).symm
    . exact H j i I hi hl
  have l:∀ i (hi:i<R.length),i≠j->Apart (.slice A (R[j].n+m2) c) R[i].v:=fun i hi p =>
    Apart.grown (w:=w) (d i hi p) hb (fun b o=>iX (s.ro _ (fu hi)).own o)
  refine ⟨z,A,c,rfl,C,⟨s.g0,S,?_,?_,s.mo,s.f.gw s.mo C.gw⟩⟩
  . intro x U
    obtain ⟨i,hi,y⟩:=vb.1 U;have a:i<R.length:=by simpa using hi
    by_cases e:j=i
    . subst e
      simp at y
      rw[<-y];exact Q
    . rw[yG e] at y
      rw[<-y];exact (s.ro _ (fu a)).app M C (fun b o D=>d i a (Ne.symm e) b D o)
  . refine yF.2 (fun i k hi hk K=>?_)
    have a:i<R.length:=by simpa using hi
    have u:k<R.length:=by simpa using hk
    by_cases e:j=i
    . subst e
      rw[yH,yG oM];exact l k u oM
    . by_cases e2:j=k
      . subst e2
        rw[yH,yG oM];exact (l i a oM).symm
      . rw[yG e,yG e2]
        exact H i k a u K
end ss
theorem SS.aS {α:Type}{sz:Nat}{f:α->List Value}{x:α}{A:Z9}{l:List α}{w0 w:World}{h0 h:Hp}{B:List Bx}{R:List Rw}{F:List (Hp->Prop)}(s:SS w0 h0 w h B R F)(p:SlO sz f x h A l):SS w0 h0 w h B R ((fun h=>SlO sz f x h A l)::F):=s.a_SlO p
theorem SS.aP {α β:Type}{sz a:Nat}{f:α->List Value}{x:α}{A:Z9}{l:List α}{g:β->List Value}{y:β}{D:Z9}{m:List β}{w0 w:World}{h0 h:Hp}{B:List Bx}{R:List Rw}{F:List (Hp->Prop)}(s:SS w0 h0 w h B R F)(p:SlO sz f x h A l)(q:SlO a g y h D m):SS w0 h0 w h B R ((fun h=>SlO a g y h D m)::(fun h=>SlO sz f x h A l)::F):=(s.a_SlO p).a_SlO q
section
variable {P:Program}{n:Nat}{N R:Po}{X:Nat->Po}{Γ:ck}{w:World}{h:Hp}
theorem cQ {x y:Code}(H:CG P n (fun a w=>y.wp P (iE N R X) a w) R X x Γ w):CG P n N R X (.seq x y) Γ w:=CG.seq H
theorem cK {y:Code}{N' R':Po}{X':Nat->Po}(H:CG P n N' R' X' y Γ w):CG P n (fun a w=>y.wp P (iE N' R' X') a w) R X .skip Γ w:=CG.skipN H
theorem kQ {id:Nat}{ops:Array Oper}(H:LG P n N R X ops 0 Γ w):CG P n N R X (.region id ops false) Γ w:=CG.listed H
theorem kZ {id:Nat}{c:Code}(H:CG P n N R (fun i=>if i=id then N else X i) c Γ w):CG P n N R X (.block id c) Γ w:=CG.block H
theorem kX (H:∀ a,Kn n a Γ->R a w):CG P n N R X .ret Γ w:=CG.ret H
theorem sS (g:G w h):SS w h w h [] [] []:=SS.start g
end
theorem nR (n:Nat):n<=n:=ep n
theorem gj {n:Int}(h0 : -9223372036854775808<=n)(h1:n<=9223372036854775807):IntKind.wrap .i64 n=n:=by rw[IntKind.wrap_i64];omega
def CF (P:Program)(ρ:Operand->Value)(o:Oper):Option (Value × Value × Nat) :=
  match o.op with
  | .indexAddr t x ix=>match P.underlying t with
    | some (.slice e)=>(P.info? e).map fun i=>(ρ x,ρ ix,i.size)
    | _=>none
  | _=>none
theorem gt {P:Program}{Γ:ck}{o:Oper}{A:Z9}{len a sz:Nat}{i:Int}{k:Nat}(h:CF P (ev Γ) o=some (.slice A len a,.int .i64 i,sz))(c:A=some ⟨aB A,aO A,none⟩)(hk:i=k)(b:k<len)(w:World) :
    (execOp (ev Γ) o).run P w=.ok (.value (.pointer (some ⟨aB A,aO A+k*sz,none⟩))) w:=by
  unfold CF at h
  split at h
  . rename_i t x ix f
    split at h
    . rename_i e d
      cases hi:P.info? e with
      | none=>rw[hi] at h;cases h
      | some inf =>
        rw[hi] at h
        simp only[tu,Option.some.injEq,Prod.mk.injEq] at h
        exact Ef (P:=P) k f h.1 h.2.1 d (by rw[hi];simp[h.2.2]) c hk b w
    . cases h
  . cases h
def DJ (P:Program)(ρ:Operand->Value)(o:Oper):Option (Value × Option Value × Option Value × Nat) :=
  match o.op with
  | .slice t x lo' hi' none=>match P.underlying t with
    | some (.slice e)=>(P.info? e).map fun i=>(ρ x,lo'.map ρ,hi'.map ρ,i.size)
    | _=>none
  | _=>none
theorem FD {P:Program}{Γ:ck}{o:Oper}{A:Z9}{len a sz:Nat}{i:Int}(k:Nat)(h:DJ P (ev Γ) o=some (.slice A len a,none,some (.int .i64 i),sz))(hk:i=k)(b:k<=a)(w:World) :
    (execOp (ev Γ) o).run P w=.ok (.value (.slice A k a)) w:=by
  unfold DJ at h
  split at h
  . rename_i t x l r d
    split at h
    . rename_i e c
      cases hi:P.info? e with
      | none=>rw[hi] at h;cases h
      | some inf =>
        rw[hi] at h
        simp only[tu,Option.some.injEq,Prod.mk.injEq,yI,ta] at h
        obtain ⟨h1,rfl,⟨y,rfl,f⟩,j⟩:=h;exact Iq (P:=P) k d h1 f c (by rw[hi];rfl) hk b w
    . cases h
  . cases h
theorem oz {P:Program}{Γ:ck}{o:Oper}{A:Z9}{len a sz:Nat}{i:Int}(k:Nat)(h:DJ P (ev Γ) o=some (.slice A len a,some (.int .i64 i),none,sz))(hk:i=k)(b:k<=len)(w:World) :
    (execOp (ev Γ) o).run P w=.ok (.value (.slice (if a=k then A else A.map (·.add (k*sz))) (len-k) (a-k))) w:=by
  unfold DJ at h
  split at h
  . rename_i t x l r d
    split at h
    . rename_i e c
      cases hi:P.info? e with
      | none=>rw[hi] at h;cases h
      | some inf =>
        rw[hi] at h
        simp only[tu,Option.some.injEq,Prod.mk.injEq,yI,ta] at h
        obtain ⟨h1,⟨y,rfl,f⟩,rfl,j⟩:=h;exact DM (P:=P) k d h1 f c (by rw[hi];simp[j]) hk b w
    . cases h
  . cases h
def HH (P:Program)(ρ:Operand->Value)(o:Oper):Option (Value × Value × TypeId × Value × Nat × Nat) :=
  match o.op with
  | .makeSlice t x y=>match P.underlying t with
    | some (.slice e)=>match P.info? e with
      | some i=>i.zero.map fun z=>(ρ x,ρ y,e,z,i.size,i.bytes)
      | _=>none
    | _=>none
  | _=>none
theorem sI {P:Program}{Γ:ck}{o:Oper}{e:TypeId}{z:Value}{m sz i:Nat}{α:Type}{f:α->List Value}{j:α}(h:HH P (ev Γ) o=some (.int .i64 (m:Int),.int .i64 (m:Int),e,z,sz,i))(d:z.cells.toList=f j)(b:z.cells.size=sz)(a:0<sz)(hm:i*m<=140737488355328)(c:m<9223372036854775808)(w:World) :
    (execOp (ev Γ) o).run P w=.ok (.value (.slice (some ⟨w.heap.size,0,none⟩) m m)) (w.alloc (.cells ((yp m j).flatMap f).toArray e (0,0))):=by
  unfold HH at h
  split at h
  . rename_i t x y u
    split at h
    . rename_i H l
      split at h
      . rename_i D hi
        simp only[ta,Prod.mk.injEq] at h
        obtain ⟨F,hz,h1,p,rfl,rfl,B,C⟩:=h;exact Ip (P:=P) u h1 p l (by rw[hi];simp[hz,B,C]) d b a hm c w
      . cases h
    . cases h
  . cases h
def CW (P:Program)(ρ:Operand->Value)(o:Oper):Option (Value × Value × TypeId × Value × Nat × Nat) :=
  match o.op with
  | .call { callee:=.builtin .append,args:=⟨[x,y]⟩,argTypes:=⟨[t,u]⟩ }=>if t=u then match P.underlying t with
    | some (.slice e)=>match P.info? e with
      | some i=>i.zero.map fun z=>(ρ x,ρ y,e,z,i.size,i.bytes)
      | _=>none
    | _=>none else none
  | _=>none
theorem qR {P:Program}{ρ:Operand->Value}{o:Oper}{r:Value × Value × TypeId × Value × Nat × Nat}(h:CW P ρ o=some r):∃ x y t,o.op=.call { callee:=.builtin .append,args:=#[x,y],argTypes:=#[t,t] }/\ρ x=r.1/\ρ y=r.2.1/\P.underlying t=some (.slice r.2.2.1)/\(P.info? r.2.2.1).map (fun i=>(i.zero,i.size,i.bytes))=some (some r.2.2.2.1,r.2.2.2.2.1,r.2.2.2.2.2):=by
  unfold CW at h
  split at h
  . rename_i x y t u c
    split at h
    . rename_i a
      subst a
      split at h
      . rename_i e b
        split at h
        . rename_i d hi
          simp only[ta] at h
          obtain ⟨z,hz,rfl⟩:=h;exact ⟨x,y,t,c,rfl,rfl,b,by rw[hi];simp[hz]⟩
        . cases h
      . cases h
    . cases h
  . cases h
section listed
variable {P:Program}{n:Nat}{N R:Po}{X:Nat->Po}{ops:Array Oper}{k:Nat}{Γ:ck}{w:World}{h:Hp}{w0:World}{h0:Hp}{B:List Bx}{Rs:List Rw}{F:List (Hp->Prop)}
def cL (ops:Array Oper)(Γ:ck)(k t n:Nat):Bool:=gA ops Γ k && ((ao ops k).dst == some t) && decide (t<n) && (bA ops Γ (ao ops k) == some true)
def cS (ops:Array Oper)(Γ:ck)(k:Nat):Bool:=gA ops Γ k && ((ao ops k).dst == none) && (bA ops Γ (ao ops k) == some true)
theorem bR {t:Nat}(h:cL ops Γ k t n=true):(gA ops Γ k && ((ao ops k).dst == some t) && decide (t<n))=true/\bA ops Γ (ao ops k)=some true:=by
 unfold cL at h
 rw[g7] at h
 exact ⟨h.1,by simpa using h.2⟩
theorem iH (h:cS ops Γ k=true):(gA ops Γ k && ((ao ops k).dst == none))=true/\bA ops Γ (ao ops k)=some true:=by
 unfold cS at h
 rw[g7] at h
 exact ⟨h.1,by simpa using h.2⟩
theorem lV (t:Nat)(v:Value)(H:LG P n N R X ops (k+1) ((t,v)::Γ) w)(a:cL ops Γ k t n=true:=by kernel_rfl)(hr:(execOp (ev Γ) (ao ops k)).run P w=.ok (.value v) w:=by kernel_rfl):LG P n N R X ops k Γ w :=
 LG.val t v w (bR a).1 (bR a).2 hr H
theorem lB (t:Nat){e b:Bool}(hb:e=b)(H:LG P n N R X ops (k+1) ((t,.bool b)::Γ) w)(a:cL ops Γ k t n=true:=by kernel_rfl)(hr:(execOp (ev Γ) (ao ops k)).run P w=.ok (.value (.bool e)) w:=by kernel_rfl):LG P n N R X ops k Γ w :=
 LG.val t _ w (bR a).1 (bR a).2 (hb▸hr) H
theorem lI (t:Nat)(m:Int)(H:LG P n N R X ops (k+1) ((t,.int .i64 m)::Γ) w)(a:cL ops Γ k t n=true:=by kernel_rfl)(hr:(execOp (ev Γ) (ao ops k)).run P w=.ok (.value (.int .i64 (IntKind.wrap .i64 m))) w:=by kernel_rfl)(h0 : -9223372036854775808<=m:=by omega)(h1:m<=9223372036854775807:=by omega):LG P n N R X ops k Γ w :=
 LG.val t _ w (bR a).1 (bR a).2 (by rw[gj h0 h1] at hr;exact hr) H
theorem bI (t:Nat)(m:Int)(j:Nat)(H:LG P n N R X ops (k+1) ((t,.int .i64 (j:Int))::Γ) w)(a:cL ops Γ k t n=true:=by kernel_rfl)(hr:(execOp (ev Γ) (ao ops k)).run P w=.ok (.value (.int .i64 (IntKind.wrap .i64 m))) w:=by kernel_rfl)(b:m=j:=by omega)(h1:m<=9223372036854775807:=by omega):LG P n N R X ops k Γ w :=
 LG.val t _ w (bR a).1 (bR a).2 (by rw[gj oM h1,b] at hr;exact hr) H
theorem lO (t:Nat)(ps:List (Nat × Nat × Nat))(v:Value)(s:SS w0 h0 w h B Rs F)(H:LG P n N R X ops (k+1) ((t,v)::Γ) w)(a:cL ops Γ k t n=true:=by kernel_rfl)(b:ce B ps=true:=by kernel_rfl)(c:bU P (execOp (ev Γ) (ao ops k)) (cO B ps)=some (.value v,bQ B ps):=by kernel_rfl):LG P n N R X ops k Γ w :=
 LG.own t ps v s.st (bR a).1 (bR a).2 b c H
def Hk (P:Program)(ops:Array Oper)(B:List Bx):ck->Nat->List (Nat × Value × List (Nat × Nat × Nat))->List (Option (Next × List Addr))
  | _,_,[]=>[]
  | Γ,k,x::l=>bU P (execOp (ev Γ) (ao ops k)) (cO B x.2.2)::Hk P ops B ((x.1,x.2.1)::Γ) (k+1) l
def Gt (n:Nat)(ops:Array Oper)(B:List Bx):ck->Nat->List (Nat × Value × List (Nat × Nat × Nat))->Bool
  | _,_,[]=>true
  | Γ,k,x::l=>cL ops Γ k x.1 n && ce B x.2.2 && Gt n ops B ((x.1,x.2.1)::Γ) (k+1) l
def sN (Γ:ck):List (Nat × Value × List (Nat × Nat × Nat))->ck
  | []=>Γ
  | x::l=>sN ((x.1,x.2.1)::Γ) l
theorem lS (s:SS w0 h0 w h B Rs F)(l:List (Nat × Value × List (Nat × Nat × Nat)))(H:LG P n N R X ops (k+l.length) (sN Γ l) w)(a:Gt n ops B Γ k l=true:=by kernel_rfl)(b:Hk P ops B Γ k l=l.map (fun x=>some (.value x.2.1,bQ B x.2.2)):=by kernel_rfl):LG P n N R X ops k Γ w:=by
  induction l generalizing Γ k with
  | nil=>exact H
  | cons x l ih =>
    unfold Gt at a
    simp only[g7] at a
    unfold Hk at b
    rw[yx] at b
    injection b with e1 e2
    refine lO x.1 x.2.2 x.2.1 s (ih ?_ a.2 e2) a.1.1 a.1.2 e1;have:k+1+l.length=k+(x::l).length:=by simp;omega
    rw[this];exact H
inductive It where
  | c
  | v (x:Value)
  | o (x:Value) (j a n:Nat)
def nT (ops:Array Oper)(k:Nat):Nat:=(ao ops k).dst.getD 0
def nX (ops:Array Oper)(k:Nat)(Γ:ck):Value:=match (ao ops k).op with
  | .move x=>ev Γ x
  | .assign x=>ev Γ x
  | _=>.tuple #[]
def It.to (ops:Array Oper)(k:Nat)(Γ:ck):It->Nat × Value × List (Nat × Nat × Nat)
  | .c=>(nT ops k,nX ops k Γ,[])
  | .v x=>(nT ops k,x,[])
  | .o x j a n=>(nT ops k,x,[(j,a,n)])
def uw (ops:Array Oper):Nat->ck->List It->List (Nat × Value × List (Nat × Nat × Nat))
  | _,_,[]=>[]
  | k,Γ,x::l=>x.to ops k Γ::uw ops (k+1) (((x.to ops k Γ).1,(x.to ops k Γ).2.1)::Γ) l
theorem CB (ops:Array Oper)(k:Nat)(Γ:ck)(l:List It):(uw ops k Γ l).length=l.length:=by
 induction l generalizing k Γ with
 | nil=>rfl
 | cons x l ih=>show (uw _ _ _ l).length+1=_;rw[ih];rfl
abbrev ac:List It:=[.c]
abbrev aK:List It:=[.c,.c]
abbrev fE:List It:=[.c,.c,.c]
abbrev pR:List It:=[.c,.c,.c,.c]
abbrev I1:List It:=[.c,.c,.c,.c,.c]
abbrev m6:List It:=[.c,.c,.c,.c,.c,.c]
theorem lL (s:SS w0 h0 w h B Rs F)(l:List It)(H:LG P n N R X ops (k+l.length) (sN Γ (uw ops k Γ l)) w)(a:Gt n ops B Γ k (uw ops k Γ l)=true:=by kernel_rfl)(b:Hk P ops B Γ k (uw ops k Γ l)=(uw ops k Γ l).map (fun x=>some (.value x.2.1,bQ B x.2.2)):=by kernel_rfl):LG P n N R X ops k Γ w :=
 lS s (uw ops k Γ l) (by rw[CB];exact H) a b
theorem lP (j o:Nat)(cs:List Value)(s:SS w0 h0 w h B Rs F)(H:∀ w',SS w0 h0 w' h (fy B j o cs) Rs F->LG P n N R X ops (k+1) Γ w')(c:cS ops Γ k=true:=by kernel_rfl)
  (a:(decide (j<B.length) && decide (o+cs.length<=(ax B j).vs.length))=true:=by kernel_rfl)(d:dJ P (execOp (ev Γ) (ao ops k))=some (.skip,n8 (ax B j).b o cs):=by kernel_rfl):LG P n N R X ops k Γ w :=
 LG.put j o cs s.st s.g0 (iH c).1 (iH c).2 a d (fun w' p e=>H w' (s.put0 (oT (g7 _ _▸a).1) p e (kz (oT (g7 _ _▸a).1))))
theorem lA (t:Nat)(ty:TypeId)(vs:List Value)(s:SS w0 h0 w h B Rs F)(H:∀ b w' a,SS w0 h0 w' a (⟨b,ty,vs⟩::B) Rs F->LG P n N R X ops (k+1) ((t,.pointer (some ⟨b,0,none⟩))::Γ) w')(c:cL ops Γ k t n=true:=by kernel_rfl)
  (hr:(execOp (ev Γ) (ao ops k)).run P w=.ok (.value (.pointer (some ⟨w.heap.size,0,none⟩))) (w.alloc (.cells vs.toArray ty (0,0))):=by kernel_rfl):LG P n N R X ops k Γ w :=
 LG.var t ty vs s.st (bR c).1 (bR c).2 hr (fun b w' a hb u d=>H b w' a (s.new u hb d))
theorem lC (t:Nat){f:FuncId}{args:Array Value}{Φ:Value->Hp->Prop}(s:SS w0 h0 w h B Rs F)(c:Calls P f args w (Ret w h Φ))(H:∀ v w' a,SS w0 h0 w' a B Rs F->Φ v a->LG P n N R X ops (k+1) ((t,v)::Γ) w')(d:cL ops Γ k t n=true:=by kernel_rfl)(hr:(execOp (ev Γ) (ao ops k)).run P w=.ok (.enter f args) w:=by kernel_rfl):LG P n N R X ops k Γ w :=
 LG.call t f args (bR d).1 (bR d).2 hr (c.mono fun e w' ⟨v,a,i,u,b⟩=>⟨v,i,H v w' a (s.step u) b⟩)
theorem j6 (t:Nat){f:FuncId}{args:Array Value}{Φ:Value->Hp->Prop}(c:Calls P f args w (Ret w h Φ))(H:∀ v w' a,Up w h w' a->Φ v a->LG P n N R X ops (k+1) ((t,v)::Γ) w')(d:cL ops Γ k t n=true:=by kernel_rfl)(hr:(execOp (ev Γ) (ao ops k)).run P w=.ok (.enter f args) w:=by kernel_rfl):LG P n N R X ops k Γ w :=
 LG.call t f args (bR d).1 (bR d).2 hr (c.mono fun e w' ⟨v,a,i,u,b⟩=>⟨v,i,H v w' a u b⟩)
theorem fD (t:Nat){f:FuncId}{args:Array Value}{rb:Nat}{Φ:Value->World->Hp->Prop}(c:Calls P f args w (dX rb w h Φ))(H:∀ v w' a,UpM [rb] w h w' a->Φ v w' a->LG P n N R X ops (k+1) ((t,v)::Γ) w')(d:cL ops Γ k t n=true:=by kernel_rfl)(hr:(execOp (ev Γ) (ao ops k)).run P w=.ok (.enter f args) w:=by kernel_rfl):LG P n N R X ops k Γ w :=
 LG.call t f args (bR d).1 (bR d).2 hr (c.mono fun e w' ⟨v,a,i,u,b⟩=>⟨v,i,H v w' a u b⟩)
theorem lH (t:Nat)(v:Value){b o:Nat}{cs:List Value}(s:SS w0 h0 w h B Rs F)(c:Seg h b o cs)(H:LG P n N R X ops (k+1) ((t,v)::Γ) w)(a:cL ops Γ k t n=true:=by kernel_rfl)(d:bU P (execOp (ev Γ) (ao ops k)) cs=some (.value v,mC b o cs.length):=by kernel_rfl):LG P n N R X ops k Γ w :=
 LG.val t v w (bR a).1 (bR a).2 (Seg.run c s.g (Ext.refl _) d) H
theorem I3 (t:Nat)(v:Value){u:Value}{b o:Nat}{cs:List Value}(s:SS w0 h0 w h B Rs F)(c:Seg h b o cs)(e:v=u)(H:LG P n N R X ops (k+1) ((t,u)::Γ) w)(a:cL ops Γ k t n=true:=by kernel_rfl)(d:bU P (execOp (ev Γ) (ao ops k)) cs=some (.value v,mC b o cs.length):=by kernel_rfl):LG P n N R X ops k Γ w :=
 LG.val t u w (bR a).1 (bR a).2 (e▸Seg.run c s.g (Ext.refl _) d) H
theorem lX (t:Nat)(A:Z9)(len a sz:Nat)(i:Int)(j:Nat)(d:A=some ⟨aB A,aO A,none⟩)(H:LG P n N R X ops (k+1) ((t,.pointer (some ⟨aB A,aO A+j*sz,none⟩))::Γ) w)(c:cL ops Γ k t n=true:=by kernel_rfl)(e:CF P (ev Γ) (ao ops k)=some (.slice A len a,.int .i64 i,sz):=by kernel_rfl)(hk:i=j:=by omega)(b:j<len:=by omega):LG P n N R X ops k Γ w :=
 LG.val t _ w (bR c).1 (bR c).2 (gt e d hk b w) H
theorem lT (t:Nat)(A:Z9)(len a sz:Nat)(i:Int)(j:Nat)(H:LG P n N R X ops (k+1) ((t,.slice A j a)::Γ) w)(c:cL ops Γ k t n=true:=by kernel_rfl)(d:DJ P (ev Γ) (ao ops k)=some (.slice A len a,none,some (.int .i64 i),sz):=by kernel_rfl)(hk:i=j:=by omega)(b:j<=a:=by omega):LG P n N R X ops k Γ w :=
 LG.val t _ w (bR c).1 (bR c).2 (FD j d hk b w) H
theorem lF (t:Nat)(A:Z9)(len a sz:Nat)(i:Int)(j:Nat)(H:LG P n N R X ops (k+1) ((t,.slice (if a=j then A else A.map (·.add (j*sz))) (len-j) (a-j))::Γ) w)(c:cL ops Γ k t n=true:=by kernel_rfl)(d:DJ P (ev Γ) (ao ops k)=some (.slice A len a,some (.int .i64 i),none,sz):=by kernel_rfl)(hk:i=j:=by omega)(b:j<=len:=by omega):LG P n N R X ops k Γ w :=
 LG.val t _ w (bR c).1 (bR c).2 (oz j d hk b w) H
theorem lR (t:Nat)(ty:TypeId)(m:Nat)(cs:List Value)(s:SS w0 h0 w h B Rs F)(H:∀ b w' a,SS w0 h0 w' a B Rs ((fun h=>Seg h b 0 cs)::F)->LG P n N R X ops (k+1) ((t,.slice (some ⟨b,0,none⟩) m m)::Γ) w')(c:cL ops Γ k t n=true:=by kernel_rfl)
  (hr:(execOp (ev Γ) (ao ops k)).run P w=.ok (.value (.slice (some ⟨w.heap.size,0,none⟩) m m)) (w.alloc (.cells cs.toArray ty (0,0))):=by kernel_rfl):LG P n N R X ops k Γ w :=
 LG.row t ty m cs s.g (bR c).1 (bR c).2 hr (fun b w' a u d=>H b w' a ((s.step u).a_Seg d))
theorem lK {α:Type}(t:Nat)(ty:TypeId)(m sz j:Nat)(z:Value)(f:α->List Value)(o:α)(s:SS w0 h0 w h B Rs F)(H:∀ b w' d,SS w0 h0 w' d (⟨b,ty,(yp m o).flatMap f⟩::B) Rs F->LG P n N R X ops (k+1) ((t,.slice (some ⟨b,0,none⟩) m m)::Γ) w')(l:cL ops Γ k t n=true:=by kernel_rfl)
  (p:HH P (ev Γ) (ao ops k)=some (.int .i64 (m:Int),.int .i64 (m:Int),ty,z,sz,j):=by kernel_rfl)(i:z.cells.toList=f o:=by kernel_rfl)(c:z.cells.size=sz:=by kernel_rfl)(a:0<sz:=by decide)(hm:j*m<=140737488355328:=by omega)(e:m<9223372036854775808:=by omega):LG P n N R X ops k Γ w :=
 LG.arr t ty m _ s.st (bR l).1 (bR l).2 (sI p i c a hm e w) (fun b w' d hb u x=>H b w' d (s.new u hb x))
theorem lQ {α:Type}(t j:Nat)(l:List α)(f:α->List Value)(sz:Nat)(d:α)(e:Nat)(v:Value)(s:SS w0 h0 w h B Rs F)(hk:e<l.length)(H:LG P n N R X ops (k+1) ((t,v)::Γ) w)(a:cL ops Γ k t n=true:=by kernel_rfl)
  (c:decide (j<B.length)=true:=by kernel_rfl)(hB:(ax B j).vs=l.flatMap f:=by kernel_rfl)(hf:∀ x,(f x).length=sz:=by intro _;rfl)
  (i:bU P (execOp (ev Γ) (ao ops k)) (f (l.getD e d))=some (.value v,mC (ax B j).b (0+e*sz) (f (l.getD e d)).length):=by kernel_rfl):LG P n N R X ops k Γ w :=
 LG.ownA t j l f sz d e v s.st (bR a).1 (bR a).2 c hB hf hk i H
theorem lW {α:Type}(j:Nat)(l:List α)(f:α->List Value)(sz e:Nat)(x:α)(s:SS w0 h0 w h B Rs F)(hk:e<l.length)(H:∀ w',SS w0 h0 w' h (gN B j ((l.set e x).flatMap f)) Rs F->LG P n N R X ops (k+1) Γ w')(c:cS ops Γ k=true:=by kernel_rfl)
  (a:decide (j<B.length)=true:=by kernel_rfl)(hB:(ax B j).vs=l.flatMap f:=by kernel_rfl)(hf:∀ x,(f x).length=sz:=by intro _;rfl)
  (d:dJ P (execOp (ev Γ) (ao ops k))=some (.skip,n8 (ax B j).b (0+e*sz) (f x)):=by kernel_rfl):LG P n N R X ops k Γ w :=
 LG.putA j l f sz e x s.st s.g0 (iH c).1 (iH c).2 a hB hf hk d (fun w' p i=>H w' (s.put0 (oT a) p i (jS (oT a))))
theorem l8 {R:List Rw}{j:Nat}{r:Rw}(hr:R.getD j default=r)(a:j<R.length):R[j]=r:=by rw[<-hr];simp[a]
theorem I7 (t j:Nat){ty:TypeId}{sz c m:Nat}{A:Z9}{cs:List Value}{C m2 c2:Nat}{z:Value}{a:Addr}(news:List Value)(s:SS w0 h0 w h B Rs F)(b:∀ i u,news[i]?=some u->w.cell? (a.add i)=some u)(Y:news.length=m2*sz)(h1:∀ u∈news,u.oneCell'=true)(I:j<Rs.length)(hr:Rs[j]=⟨ty,sz,A,c,m,cs⟩)
  (D:cL ops Γ k t n=true)(M:CW P (ev Γ) (ao ops k)=some (.slice A m c,.slice (some a) m2 c2,ty,z,sz,C))(o:z.cells.size=sz)(d:0<sz)(hm:m+m2<=1099511627776)(hb:(m+m2)*C<=140737488355328)
  (H:∀ l c' w' p,SS w0 h0 w' p B (Rs.set j ⟨ty,sz,l,c',m+m2,cs++news⟩) F->LG P n N R X ops (k+1) ((t,.slice l (m+m2) c')::Γ) w'):LG P n N R X ops k Γ w:=by
 obtain ⟨x,y,S,W,U,L,O,hi⟩:=qR M;have r:=s.ro _ (fu I);rw[hr] at r
 obtain ⟨v',w',f,V,K,e⟩:=rV (P:=P) W U L O hi o d s.st r Y b h1 hm hb;have J:=s.grown (j:=j) I (w':=w') (v':=v') (m2:=m2) (news:=news) (by rw[hr];exact V) (by rw[hr];exact K) (by rw[hr];exact e);rw[hr] at J
 obtain ⟨p,l,c',rfl,_,Q⟩:=J;exact LG.val t _ w' (bR D).1 (bR D).2 f (H l c' w' p Q)
theorem pT {α:Type}{f:α->List Value}{l:List α}{x:α}:l.flatMap f++f x=(l++[x]).flatMap f:=by simp
theorem lY {α:Type}(t j:Nat)(ty:TypeId)(sz c:Nat)(A:Z9)(l:List α)(f:α->List Value)(x:α)(p b:Nat)(z:Value)(s:SS w0 h0 w h B Rs F)(J:Seg h b 0 (f x))
  (H:∀ e c' w' o,SS w0 h0 w' o B (Rs.set j ⟨ty,sz,e,c',(l++[x]).length,(l++[x]).flatMap f⟩) F->LG P n N R X ops (k+1) ((t,.slice e (l++[x]).length c')::Γ) w')
  (I:cL ops Γ k t n=true:=by kernel_rfl)(C:CW P (ev Γ) (ao ops k)=some (.slice A l.length c,.slice (some ⟨b,0,none⟩) 1 1,ty,z,sz,p):=by kernel_rfl)(i:z.cells.size=sz:=by kernel_rfl)(d:0<sz:=by decide)
  (hr:Rs.getD j default=⟨ty,sz,A,c,l.length,l.flatMap f⟩:=by kernel_rfl)(K:decide (j<Rs.length)=true:=by kernel_rfl)(h1:(f x).all (·.oneCell')=true:=by kernel_rfl)(L:(f x).length=1*sz:=by kernel_rfl)(hm:l.length+1<=1099511627776:=by omega)(hb:(l.length+1)*p<=140737488355328:=by omega):LG P n N R X ops k Γ w:=by
 have a:=oT K;refine I7 t j (f x) s (lr s.g J) L (fun u D=>(hH.1 h1) u D) a (l8 hr a) I C i d hm hb (fun e c' w' o y=>?_);have e1:l.length+1=(l++[x]).length:=by simp
 rw[pT,e1] at y
 rw[e1];exact H e c' w' o y
end listed
section code
variable {P:Program}{n:Nat}{N R:Po}{X:Nat->Po}{Γ:ck}{w:World}
theorem aD {id:Nat}{ops:Array Oper}{y:Code}(H:LG P n (fun a w=>y.wp P (iE N R X) a w) R X ops 0 Γ w):CG P n N R X (.seq (.region id ops false) y) Γ w:=CG.seq (CG.listed H)
theorem cl {c:Operand}{x y:Code}(b:CG P n N R X x Γ w)(a:gT Γ c=true:=by kernel_rfl)(hv:ev Γ c=.bool true:=by kernel_rfl):CG P n N R X (.cond c x y) Γ w:=CG.condT a hv b
theorem cW {c:Operand}{x y:Code}(b:CG P n N R X y Γ w)(a:gT Γ c=true:=by kernel_rfl)(hv:ev Γ c=.bool false:=by kernel_rfl):CG P n N R X (.cond c x y) Γ w:=CG.condF a hv b
theorem cj {c:Code}(Γ':ck)(H:CG P n N R X c Γ' w)(b:jL Γ (Γ'.map (·.1))=Γ':=by kernel_rfl)(a:fY Γ'=fY Γ:=by kernel_rfl):CG P n N R X c Γ w:=CG.to Γ' b a H
theorem lN {ops:Array Oper}{k:Nat}{y:Code}{N' R':Po}{X':Nat->Po}(H:CG P n N' R' X' y Γ w)(b:(k == ops.size)=true:=by kernel_rfl):LG P n (fun a w=>y.wp P (iE N' R' X') a w) R X ops k Γ w:=LG.next b H
theorem aR {ops:Array Oper}{k:Nat}{id:Nat}{b:Array Oper}{y:Code}{N' R':Po}{X':Nat->Po}(H:LG P n (fun a w=>y.wp P (iE N' R' X') a w) R' X' b 0 Γ w)(c:(k == ops.size)=true:=by kernel_rfl):LG P n (fun a w=>(Code.seq (.region id b false) y).wp P (iE N' R' X') a w) R X ops k Γ w:=lN (aD H) c
theorem lD {ops:Array Oper}{k:Nat}(H:∀ a,Kn n a Γ->N a w)(b:(k == ops.size)=true:=by kernel_rfl):LG P n N R X ops k Γ w:=LG.done b H
theorem lG {ops:Array Oper}{k:Nat}(t:Nat)(H:LG P n N R X ops (k+1) ((t,undef)::Γ) w)(b:(decide (k<ops.size) && ((ao ops k).dst == some t) && decide (t<n))=true:=by kernel_rfl)(a:bA ops Γ (ao ops k)=some false:=by kernel_rfl):LG P n N R X ops k Γ w:=LG.out t b a H
theorem SS.ret {c:Func}{Φ:Value->Hp->Prop}{w0:World}{h0:Hp}{h:Hp}{B:List Bx}{Rs:List Rw}{F:List (Hp->Prop)}(s:SS w0 h0 w h B Rs F)(ps:List (Nat × Nat × Nat))(v:Value)(b:Φ v h)(hk:(n9 c Γ && ce B ps)=true:=by kernel_rfl)(d:bU P (oI c Γ) (cO B ps)=some (v,bQ B ps):=by kernel_rfl):∀ a,Kn n a Γ->nL P c (Ret w0 h0 Φ) a w:=HV s.st ps v hk d b
theorem SS.retM {c:Func}{rb:Nat}{Φ:Value->World->Hp->Prop}{w0 wz:World}{h0 hz:Hp}{h:Hp}{B:List Bx}{Rs:List Rw}{F:List (Hp->Prop)}(s:SS wz hz w h B Rs F)(d:UpM [rb] w0 h0 w h)(ps:List (Nat × Nat × Nat))(v:Value)(b:Φ v w h)(hk:(n9 c Γ && ce B ps)=true:=by kernel_rfl)(e:bU P (oI c Γ) (cO B ps)=some (v,bQ B ps):=by kernel_rfl):∀ a,Kn n a Γ->nL P c (dX rb w0 h0 Φ) a w:=Go.Proofs.YtpnchlalmgmkeaaGreatDoor.retM s.st d ps v hk e b
theorem go {f:FuncId}{a:Func}{c:Code}{args:Array Value}{d:Ending->World->Prop}(hf:P.funcs[f]?=some a)(Γ0:ck)(hb:a.body=some c)(H:CG P a.ntmps (nL P a d) (nL P a d) (fun _ _ _=>False) c Γ0 w)(h:Nat.ble args.size a.ntmps=true:=by kernel_rfl)(e:Γ0=envOf args.toList:=by kernel_rfl)(b:Nat.ble a.ntmps 1000000=true:=by kernel_rfl):Calls P f args w d :=
 enter hf hb rfl (yJ h) (yJ b) Γ0 e H
end code
section
variable {P:Program}{n:Nat}{N R N' R' R2:Po}{X X' X2:Nat->Po}{Γ:ck}{w w0:World}{h h0:Hp}{B:List Bx}{Rs:List Rw}{F:List (Hp->Prop)}{ops:Array Oper}{k:Nat}
theorem am (t:Nat){f:FuncId}{args:Array Value}{x:Value}(s:SS w0 h0 w h B Rs F)(c:Calls P f args w (Ret w h fun v _=>v=x))(H:∀ w1 h1,SS w0 h0 w1 h1 B Rs F->LG P n N R X ops (k+1) ((t,x)::Γ) w1)(a:cL ops Γ k t n=true:=by kernel_rfl)(hr:(execOp (ev Γ) (ao ops k)).run P w=.ok (.enter f args) w:=by kernel_rfl):LG P n N R X ops k Γ w:=lC t s c (fun v w1 h1 b e=>by subst e;exact H w1 h1 b) a hr
theorem aa {id:Nat}{y:Code}(s:SS w0 h0 w h B Rs F)(l:List It)(H:LG P n (fun a w=>y.wp P (iE N R X) a w) R X ops (0+l.length) (sN Γ (uw ops 0 Γ l)) w)(b:Gt n ops B Γ 0 (uw ops 0 Γ l)=true:=by kernel_rfl)(c:Hk P ops B Γ 0 (uw ops 0 Γ l)=(uw ops 0 Γ l).map (fun x=>some (.value x.2.1,bQ B x.2.2)):=by kernel_rfl):CG P n N R X (.seq (.region id ops false) y) Γ w:=aD (lL s l H b c)
theorem af {x y:Code}(H:CG P n (fun a w=>y.wp P (iE N' R' X') a w) R' X' x Γ w)(b:(k==ops.size)=true:=by kernel_rfl):LG P n (fun a w=>(Code.seq x y).wp P (iE N' R' X') a w) R X ops k Γ w:=lN (CG.seq H) b
theorem bh {id:Nat}{c:Code}(H:CG P n N' R' (fun i=>if i=id then N' else X' i) c Γ w)(b:(k==ops.size)=true:=by kernel_rfl):LG P n (fun a w=>(Code.block id c).wp P (iE N' R' X') a w) R X ops k Γ w:=lN (CG.block H) b
theorem ah {c:Operand}{x y:Code}(H:CG P n N' R' X' y Γ w)(b:(k==ops.size)=true:=by kernel_rfl)(hi:gT Γ c=true:=by kernel_rfl)(hv:ev Γ c=.bool false:=by kernel_rfl):LG P n (fun a w=>(Code.cond c x y).wp P (iE N' R' X') a w) R X ops k Γ w:=lN (cW H hi hv) b
theorem au {c:Operand}{x y:Code}(H:CG P n N' R' X' x Γ w)(b:(k==ops.size)=true:=by kernel_rfl)(hi:gT Γ c=true:=by kernel_rfl)(hv:ev Γ c=.bool true:=by kernel_rfl):LG P n (fun a w=>(Code.cond c x y).wp P (iE N' R' X') a w) R X ops k Γ w:=lN (cl H hi hv) b
theorem ae {c:Func}{Φ:Value->Hp->Prop}(s:SS w0 h0 w h B Rs F)(ps:List (Nat×Nat×Nat))(v:Value)(b:Φ v h)(d:(k==ops.size)=true:=by kernel_rfl)(hk:(n9 c Γ&&ce B ps)=true:=by kernel_rfl)(e:bU P (oI c Γ) (cO B ps)=some (v,bQ B ps):=by kernel_rfl):LG P n (fun a w=>Code.ret.wp P (iE N' (nL P c (Ret w0 h0 Φ)) X') a w) R X ops k Γ w:=lN (CG.ret (s.ret ps v b hk e)) d
end
section drawn
variable {M:Ms}{P:Program}{n:Nat}{N R:Po}{X:Nat->Po}{ops:Array Oper}{k0:Nat}{hr:Hp}{AL:List Al}{L:Array Bool}{Γ:ck}{w:World}{h:Hp}{w0:World}{h0:Hp}{B:List Bx}{Rs:List Rw}{F:List (Hp->Prop)}
def cE (n:Nat)(ops:Array Oper)(k0:Nat)(AL:List Al)(L:Array Bool)(Γ:ck)(i t:Nat):Bool:=dr n ops k0 AL L i t && bp Γ (ao ops i) && (bA ops Γ (ao ops i) == some true)
def BY (n:Nat)(ops:Array Oper)(k0:Nat)(AL:List Al)(L:Array Bool)(Γ:ck)(i t:Nat):Bool:=dr n ops k0 AL L i t && bp Γ (ao ops i) && ip ops k0 i && (bA ops Γ (ao ops i) == some true)
def C4 (n:Nat)(ops:Array Oper)(k0:Nat)(AL:List Al)(L:Array Bool)(Γ:ck)(i t:Nat):Bool:=nh n ops k0 AL L i t && bp Γ (ao ops i) && (bA ops Γ (ao ops i) == some true)
theorem jR {i t:Nat}(h:cE n ops k0 AL L Γ i t=true):(dr n ops k0 AL L i t && bp Γ (ao ops i))=true/\bA ops Γ (ao ops i)=some true:=by
 unfold cE at h;rw[g7] at h;exact ⟨h.1,by simpa using h.2⟩
theorem je {i t:Nat}(h:BY n ops k0 AL L Γ i t=true):(dr n ops k0 AL L i t && bp Γ (ao ops i) && ip ops k0 i)=true/\bA ops Γ (ao ops i)=some true:=by
 unfold BY at h;rw[g7] at h;exact ⟨h.1,by simpa using h.2⟩
theorem iK {i t:Nat}(h:C4 n ops k0 AL L Γ i t=true):(nh n ops k0 AL L i t && bp Γ (ao ops i))=true/\bA ops Γ (ao ops i)=some true:=by
 unfold C4 at h;rw[g7] at h;exact ⟨h.1,by simpa using h.2⟩
theorem eV (i t:Nat)(v:Value)(H:EG M P n N R X ops k0 hr AL (L.setIfInBounds i true) ((t,v)::Γ) w h)(a:cE n ops k0 AL L Γ i t=true:=by kernel_rfl)(hv:∀ w,(execOp (ev Γ) (ao ops i)).run P w=.ok (.value v) w:=by intro _;kernel_rfl):EG M P n N R X ops k0 hr AL L Γ w h :=
 Rg.pure i t v (jR a).1 (jR a).2 hv H
theorem eB (i t:Nat){e b:Bool}(hb:e=b)(H:EG M P n N R X ops k0 hr AL (L.setIfInBounds i true) ((t,.bool b)::Γ) w h)(a:cE n ops k0 AL L Γ i t=true:=by kernel_rfl)(hv:∀ w,(execOp (ev Γ) (ao ops i)).run P w=.ok (.value (.bool e)) w:=by intro _;kernel_rfl):EG M P n N R X ops k0 hr AL L Γ w h :=
 Rg.pure i t _ (jR a).1 (jR a).2 (fun w=>hb▸hv w) H
theorem eI (i t:Nat)(m:Int)(H:EG M P n N R X ops k0 hr AL (L.setIfInBounds i true) ((t,.int .i64 m)::Γ) w h)(a:cE n ops k0 AL L Γ i t=true:=by kernel_rfl)(hv:∀ w,(execOp (ev Γ) (ao ops i)).run P w=.ok (.value (.int .i64 (IntKind.wrap .i64 m))) w:=by intro _;kernel_rfl)(h0 : -9223372036854775808<=m:=by omega)(h1:m<=9223372036854775807:=by omega):EG M P n N R X ops k0 hr AL L Γ w h :=
 Rg.pure i t _ (jR a).1 (jR a).2 (fun w=>by have:=hv w;rw[gj h0 h1] at this;exact this) H
theorem mt (i t:Nat)(m:Int)(j:Nat)(H:EG M P n N R X ops k0 hr AL (L.setIfInBounds i true) ((t,.int .i64 (j:Int))::Γ) w h)(a:cE n ops k0 AL L Γ i t=true:=by kernel_rfl)(hv:∀ w,(execOp (ev Γ) (ao ops i)).run P w=.ok (.value (.int .i64 (IntKind.wrap .i64 m))) w:=by intro _;kernel_rfl)(b:m=j:=by omega)(h1:m<=9223372036854775807:=by omega):EG M P n N R X ops k0 hr AL L Γ w h :=
 Rg.pure i t _ (jR a).1 (jR a).2 (fun w=>by have:=hv w;rw[gj oM h1,b] at this;exact this) H
theorem eG (i t:Nat)(H:EG M P n N R X ops k0 hr AL (L.setIfInBounds i true) ((t,undef)::Γ) w h)(b:dr n ops k0 AL L i t=true:=by kernel_rfl)(a:bA ops Γ (ao ops i)=some false:=by kernel_rfl):EG M P n N R X ops k0 hr AL L Γ w h:=Rg.skip i t b a H
theorem eO (i t:Nat)(ps:List (Nat × Nat × Nat))(v:Value)(s:SS w0 h0 w h B Rs F)(H:EG M P n N R X ops k0 hr AL (L.setIfInBounds i true) ((t,v)::Γ) w h)(hM:∀ p∈ps,(ax B p.1).b ∉ M.l:=by intro _ _;exact List.not_mem_nil)(a:BY n ops k0 AL L Γ i t=true:=by kernel_rfl)(c:ce B ps=true:=by kernel_rfl)(d:bU P (execOp (ev Γ) (ao ops i)) (cO B ps)=some (.value v,bQ B ps):=by kernel_rfl):EG M P n N R X ops k0 hr AL L Γ w h :=
 Rg.own i t ps v s.st (je a).1 (je a).2 hM c d H
theorem eH (i t:Nat)(v:Value){b o:Nat}{cs:List Value}(s:SS w0 h0 w h B Rs F)(c:Seg h b o cs)(H:EG M P n N R X ops k0 hr AL (L.setIfInBounds i true) ((t,v)::Γ) w h)(hM:∀ b∈M.l,h[b]?=some bj:=by intro _ hb;cases hb)(a:BY n ops k0 AL L Γ i t=true:=by kernel_rfl)(e:bU P (execOp (ev Γ) (ao ops i)) cs=some (.value v,mC b o cs.length):=by kernel_rfl):EG M P n N R X ops k0 hr AL L Γ w h :=
 Rg.load i t v (je a).1 (je a).2 (fun _ d=>Seg.runM c s.g hM d e) H
theorem Jk (i t:Nat)(v:Value){u:Value}{b o:Nat}{cs:List Value}(s:SS w0 h0 w h B Rs F)(c:Seg h b o cs)(e:v=u)(H:EG M P n N R X ops k0 hr AL (L.setIfInBounds i true) ((t,u)::Γ) w h)(hM:∀ b∈M.l,h[b]?=some bj:=by intro _ hb;cases hb)(a:BY n ops k0 AL L Γ i t=true:=by kernel_rfl)(f:bU P (execOp (ev Γ) (ao ops i)) cs=some (.value v,mC b o cs.length):=by kernel_rfl):EG M P n N R X ops k0 hr AL L Γ w h :=
 Rg.load i t u (je a).1 (je a).2 (fun _ d=>e▸Seg.runM c s.g hM d f) H
theorem eX (i t:Nat)(A:Z9)(len a sz:Nat)(x:Int)(j:Nat)(d:A=some ⟨aB A,aO A,none⟩)(H:EG M P n N R X ops k0 hr AL (L.setIfInBounds i true) ((t,.pointer (some ⟨aB A,aO A+j*sz,none⟩))::Γ) w h)(c:cE n ops k0 AL L Γ i t=true:=by kernel_rfl)(e:CF P (ev Γ) (ao ops i)=some (.slice A len a,.int .i64 x,sz):=by kernel_rfl)(hk:x=j:=by omega)(b:j<len:=by omega):EG M P n N R X ops k0 hr AL L Γ w h :=
 Rg.pure i t _ (jR c).1 (jR c).2 (gt e d hk b) H
theorem eQ {α:Type}(i t j:Nat)(l:List α)(f:α->List Value)(sz:Nat)(d:α)(e:Nat)(v:Value)(s:SS w0 h0 w h B Rs F)(hk:e<l.length)(H:EG M P n N R X ops k0 hr AL (L.setIfInBounds i true) ((t,v)::Γ) w h)(hM:(ax B j).b ∉ M.l:=by exact List.not_mem_nil)(a:BY n ops k0 AL L Γ i t=true:=by kernel_rfl)
  (o:decide (j<B.length)=true:=by kernel_rfl)(hB:(ax B j).vs=l.flatMap f:=by kernel_rfl)(hf:∀ x,(f x).length=sz:=by intro _;rfl)
  (c:bU P (execOp (ev Γ) (ao ops i)) (f (l.getD e d))=some (.value v,mC (ax B j).b (0+e*sz) (f (l.getD e d)).length):=by kernel_rfl):EG M P n N R X ops k0 hr AL L Γ w h :=
 Rg.ownA i t j l f sz d e v s.st (je a).1 (je a).2 hM o hB hf hk c H
theorem eC (i t:Nat){f:FuncId}{args:Array Value}{Φ:World->Hp->Value->Hp->Prop}(s:SS w0 h0 w h B Rs F)(c:∀ w1 h1,SS w0 h0 w1 h1 B Rs F->Calls P f args w1 (Ret w1 h1 (Φ w1 h1)))(H:∀ w1 h1 v w' a,SS w0 h0 w' a B Rs F->Φ w1 h1 v a->EG M P n N R X ops k0 hr AL (L.setIfInBounds i true) ((t,v)::Γ) w' a)(d:C4 n ops k0 AL L Γ i t=true:=by kernel_rfl)(hv:∀ w,(execOp (ev Γ) (ao ops i)).run P w=.ok (.enter f args) w:=by intro _;kernel_rfl):EG M P n N R X ops k0 hr AL L Γ w h :=
 Rg.call i t f args (iK d).1 (iK d).2 hv (fun w1 h1 u=>(c w1 h1 (s.step u)).mono fun e w' ⟨v,a,o,j,b⟩=>⟨v,a,o,j.m M.l,H w1 h1 v w' a ((s.step u).step j) b⟩)
theorem eR (i t:Nat)(ty:TypeId)(m:Nat)(cs:List Value)(s:SS w0 h0 w h B Rs F)(H:∀ b w' a,SS w0 h0 w' a B Rs ((fun h=>Seg h b 0 cs)::F)->EG M P n N R X ops k0 hr AL (L.setIfInBounds i true) ((t,.slice (some ⟨b,0,none⟩) m m)::Γ) w' a)(c:C4 n ops k0 AL L Γ i t=true:=by kernel_rfl)
  (hv:∀ w,(execOp (ev Γ) (ao ops i)).run P w=.ok (.value (.slice (some ⟨w.heap.size,0,none⟩) m m)) (w.alloc (.cells cs.toArray ty (0,0))):=by intro _;kernel_rfl):EG M P n N R X ops k0 hr AL L Γ w h :=
 Rg.row i t ty m cs (iK c).1 (iK c).2 hv (fun b w' a u d=>H b w' a ((s.step u).a_Seg d))
theorem eY {α:Type}(i t j:Nat)(ty:TypeId)(sz c:Nat)(A:Z9)(l:List α)(f:α->List Value)(x:α)(Y b:Nat)(z:Value)(s:SS w0 h0 w h B Rs F)(sg:∀ h,AllF F h->Seg h b 0 (f x))(U:∀ b,(Value.slice A l.length c).ownBlock=some b->b∈M.l)
  (H:∀ K c' w' D,SS w0 h0 w' D B (Rs.set j ⟨ty,sz,K,c',(l++[x]).length,(l++[x]).flatMap f⟩) F->EG M P n N R X ops k0 hr AL (L.setIfInBounds i true) ((t,.slice K (l++[x]).length c')::Γ) w' D)
  (O:C4 n ops k0 AL L Γ i t=true:=by kernel_rfl)(he:CW P (ev Γ) (ao ops i)=some (.slice A l.length c,.slice (some ⟨b,0,none⟩) 1 1,ty,z,sz,Y):=by kernel_rfl)(V:z.cells.size=sz:=by kernel_rfl)(p:0<sz:=by decide)
  (S:Rs.getD j default=⟨ty,sz,A,c,l.length,l.flatMap f⟩:=by kernel_rfl)(hj:decide (j<Rs.length)=true:=by kernel_rfl)(h1:(f x).all (·.oneCell')=true:=by kernel_rfl)(hl:(f x).length=1*sz:=by kernel_rfl)(hm:l.length+1<=1099511627776:=by omega)(hb:(l.length+1)*Y<=140737488355328:=by omega):EG M P n N R X ops k0 hr AL L Γ w h:=by
 have d:=oT hj;refine Rg.event i t (iK O).1 (iK O).2 (fun w1 h1' u=>?_);have J:=s.step u;obtain ⟨x',y,ty',ho,hx,hy,W,hi⟩:=qR he;have r:=J.ro _ (fu d);have I:=l8 S d;rw[I] at r
 obtain ⟨v',w',a,ow,o,C⟩:=rV (P:=P) ho hx hy W hi V p J.st r hl (lr J.g (sg _ J.f)) (fun u W=>(hH.1 h1) u W) hm hb;have Z:=J.grown (j:=j) d (w':=w') (v':=v') (m2:=1) (news:=f x) (by rw[I];exact ow) (by rw[I];exact o) (by rw[I];exact C);rw[I] at Z
 obtain ⟨D,K,c',rfl,e2,Q⟩:=Z;have e1:l.length+1=(l++[x]).length:=by simp
 simp only[] at Q
 rw[pT,e1] at Q
 rw[e1] at a
 exact .inl ⟨_,w',D,a,⟨⟨o.os,o.tape,o.output,o.size,fun c O hn=>o.block c O (fun e=>hn (U c e.symm))⟩,e2,Q.g⟩,H K c' w' D Q⟩
theorem bY (s:SS w0 h0 w h B Rs F)(H:∀ w' a,SS w0 h0 w' a B Rs F->AG M P n N R X ops k0 L Γ w')(b:fT ops [] L=true:=by kernel_rfl):EG M P n N R X ops k0 hr [] L Γ w h:=Rg.fin0 b (fun w' a u=>H w' a (s.step u))
def cT (n:Nat)(ops:Array Oper)(k0:Nat)(L:Array Bool)(Γ:ck)(i t:Nat):Bool:=iz ops k0 L i && bp Γ (ao ops i) && ((ao ops i).dst == some t) && decide (t<n) && (bA ops Γ (ao ops i) == some true)
def FJ (ops:Array Oper)(k0:Nat)(L:Array Bool)(Γ:ck)(i:Nat):Bool:=iz ops k0 L i && bp Γ (ao ops i) && ((ao ops i).dst == none) && (bA ops Γ (ao ops i) == some true)
theorem qi {i t:Nat}(h:cT n ops k0 L Γ i t=true):(iz ops k0 L i && bp Γ (ao ops i) && ((ao ops i).dst == some t) && decide (t<n))=true/\bA ops Γ (ao ops i)=some true:=by
 unfold cT at h;rw[g7] at h;exact ⟨h.1,by simpa using h.2⟩
theorem j9 {i:Nat}(h:FJ ops k0 L Γ i=true):(iz ops k0 L i && bp Γ (ao ops i) && ((ao ops i).dst == none))=true/\bA ops Γ (ao ops i)=some true:=by
 unfold FJ at h;rw[g7] at h;exact ⟨h.1,by simpa using h.2⟩
theorem tV (i t:Nat)(v:Value)(H:AG M P n N R X ops k0 (L.setIfInBounds i true) ((t,v)::Γ) w)(a:cT n ops k0 L Γ i t=true:=by kernel_rfl)(hv:(execOp (ev Γ) (ao ops i)).run P w=.ok (.value v) w:=by kernel_rfl):AG M P n N R X ops k0 L Γ w:=T.val i t v w (qi a).1 (qi a).2 hv H
theorem tP (i j o:Nat)(cs:List Value)(s:SS w0 h0 w h B Rs F)(H:∀ w',SS w0 h0 w' h (fy B j o cs) Rs F->AG M P n N R X ops k0 (L.setIfInBounds i true) Γ w')(c:FJ ops k0 L Γ i=true:=by kernel_rfl)
  (a:(decide (j<B.length) && decide (o+cs.length<=(ax B j).vs.length))=true:=by kernel_rfl)(d:dJ P (execOp (ev Γ) (ao ops i))=some (.skip,n8 (ax B j).b o cs):=by kernel_rfl)(hz:∀ K bs,M.z=some (K,bs)->K<=(ax B j).b\/(ax B j).b∈bs:=by intro _ _ e;cases e):AG M P n N R X ops k0 L Γ w :=
 T.put i j o cs s.st s.g0 (j9 c).1 (j9 c).2 a d (fun w' p f=>H w' (s.put0 (oT (g7 _ _▸a).1) p f (kz (oT (g7 _ _▸a).1)))) hz
theorem tW {α:Type}(i j:Nat)(l:List α)(f:α->List Value)(sz e:Nat)(x:α)(s:SS w0 h0 w h B Rs F)(hk:e<l.length)(H:∀ w',SS w0 h0 w' h (gN B j ((l.set e x).flatMap f)) Rs F->AG M P n N R X ops k0 (L.setIfInBounds i true) Γ w')(c:FJ ops k0 L Γ i=true:=by kernel_rfl)
  (a:decide (j<B.length)=true:=by kernel_rfl)(hB:(ax B j).vs=l.flatMap f:=by kernel_rfl)(hf:∀ x,(f x).length=sz:=by intro _;rfl)
  (d:dJ P (execOp (ev Γ) (ao ops i))=some (.skip,n8 (ax B j).b (0+e*sz) (f x)):=by kernel_rfl)(hz:∀ K bs,M.z=some (K,bs)->K<=(ax B j).b\/(ax B j).b∈bs:=by intro _ _ e;cases e):AG M P n N R X ops k0 L Γ w :=
 T.putA i j l f sz e x s.st s.g0 (j9 c).1 (j9 c).2 a hB hf hk d (fun w' p o=>H w' (s.put0 (oT a) p o (jS (oT a)))) hz
theorem tN {y:Code}{N' R':Po}{X':Nat->Po}(H:CG P n N' R' X' y Γ w)(b:(Region.ready .any ops L).isEmpty=true:=by kernel_rfl):AG M P n (fun a w=>y.wp P (iE N' R' X') a w) R X ops k0 L Γ w:=T.next b H
theorem xL {id:Nat}{b:Array Oper}{y:Code}{N' R':Po}{X':Nat->Po}(H:LG P n (fun a w=>y.wp P (iE N' R' X') a w) R' X' b 0 Γ w)(c:(Region.ready .any ops L).isEmpty=true:=by kernel_rfl):AG M P n (fun a w=>(Code.seq (.region id b false) y).wp P (iE N' R' X') a w) R X ops k0 L Γ w:=tN (aD H) c
theorem tD (H:∀ a,Kn n a Γ->N a w)(b:(Region.ready .any ops L).isEmpty=true:=by kernel_rfl):AG M P n N R X ops k0 L Γ w:=T.done b H
theorem cR {id:Nat}{d:Bool}(k0:Nat)(AL:List Al)(hm:P.follows .mixedOrders=true)(s:SS w0 h0 w h B Rs F)(b:∀ x∈AL,AlOk P ops k0 x)(H:EG ⟨[],none⟩ P n N R X ops k0 h AL (o8 ops.size false) Γ w h)(a:kC ops=true:=by kernel_rfl):CG P n N R X (.region id ops d) Γ w :=
 CG.region ⟨[],none⟩ k0 AL hm a s.g b (fun _ hb=>by cases hb) H
end drawn
theorem ai {M:Ms}{P:Program}{n:Nat}{N R:Po}{X:Nat->Po}{ops:Array Oper}{k0:Nat}{hr:Hp}{AL:List Al}{L:Array Bool}{Γ:ck}{w w0:World}{h h0:Hp}{B:List Bx}{Rs:List Rw}{F:List (Hp->Prop)}(i t:Nat){f:FuncId}{args:Array Value}{x:Value}(s:SS w0 h0 w h B Rs F)(c:∀ w1 h1,SS w0 h0 w1 h1 B Rs F->Calls P f args w1 (Ret w1 h1 fun v _=>v=x))(H:∀ w1 h1,SS w0 h0 w1 h1 B Rs F->EG M P n N R X ops k0 hr AL (L.setIfInBounds i true) ((t,x)::Γ) w1 h1)(a:C4 n ops k0 AL L Γ i t=true:=by kernel_rfl)(hv:∀ w,(execOp (ev Γ) (ao ops i)).run P w=.ok (.enter f args) w:=by intro _;kernel_rfl):EG M P n N R X ops k0 hr AL L Γ w h:=eC i t s c (fun _ _ v w1 h1 b e=>by subst e;exact H w1 h1 b) a hv
theorem B2 {w:World}{h:Hp}(g:G w h){b:Nat}{ty:TypeId}{vs:List Value}(f:h[b]?=some bj)(o:Own w b ty vs):∃ d,G w d/\Gw h d/\Seg d b 0 vs/\∀ c,c≠b->d[c]?=h[c]?:=by
 have a:=aJ f;refine ⟨h.setIfInBounds b (.cells vs.toArray ty (0,0)),⟨by simp;exact g.size,fun c=>?_⟩,⟨by simp,fun c j=>?_⟩,fun i v hv=>?_,fun c j=>g6 (Ne.symm j)⟩
 ·by_cases e:b=c
  ·subst e;left;rw[yz a];exact o.symm
  ·rw[g6 e];exact g.blk c
 ·by_cases e:b=c
  ·subst e;exact .inr f
  ·left;rw[g6 e]
 ·unfold dL
  rw[yz a]
  simpa using hv
theorem qW {w w':World}{h i j:Hp}{b:Nat}(l:h[b]?=some bj)(o:∀ c,c≠b->i[c]?=h[c]?)(f:i.size=h.size)(u:Up w i w' j):∃ d,Up w h w' d:=by
 have p:=aJ l;have a:b<j.size:=ey oM u.gr.size;refine ⟨j.setIfInBounds b bj,u.ext,⟨by simp;rw[<-f];exact u.gr.size,fun c x=>?_⟩,⟨by simp;exact u.g.size,fun c=>?_⟩⟩
 ·by_cases e:b=c
  ·subst e;rw[yz a,l]
  ·rw[g6 e,u.gr.blk c oM,o c (Ne.symm e)]
 ·by_cases e:b=c
  ·subst e;right;rw[yz a]
  ·rw[g6 e];exact u.g.blk c
theorem G.sz {w:World}{h a:Hp}(g:G w h)(b:G w a):a.size=h.size:=by rw[<-g.size,<-b.size]
section lent
variable {M:Ms}{P:Program}{n:Nat}{N R:Po}{X:Nat->Po}{ops:Array Oper}{k k0:Nat}{hr:Hp}{AL:List Al}{L:Array Bool}{Γ:ck}{w:World}{h:Hp}{w0:World}{h0:Hp}{B:List Bx}{Rs:List Rw}{F:List (Hp->Prop)}
theorem SS.lends (s:SS w0 h0 w h B Rs F){j:Nat}(p:j<B.length){f:FuncId}{args:Array Value}{Φ:Value->Prop}(c:∀ a,G w a->AllF F a->Seg a (ax B j).b 0 (ax B j).vs->Calls P f args w (Ret w a (fun v _=>Φ v))):Calls P f args w (Ret w h (fun v _=>Φ v)):=by
 have hm:=bu p;obtain ⟨a,g,gw,o,x⟩:=B2 s.g (s.st.jk _ hm) (s.st.own _ hm);refine (c a g (s.f.gw s.mo gw) o).mono ?_;rintro e w' ⟨v,z,l,u,d⟩;obtain ⟨i,y⟩:=qW (s.st.jk _ hm) x (s.g.sz g) u;exact ⟨v,i,l,y,d⟩
theorem IP (t j:Nat){f:FuncId}{args:Array Value}{Φ:Value->Prop}(s:SS w0 h0 w h B Rs F)(c:∀ hp,G w hp->AllF F hp->Seg hp (ax B j).b 0 (ax B j).vs->Calls P f args w (Ret w hp (fun v _=>Φ v)))(H:∀ v w' h',SS w0 h0 w' h' B Rs F->Φ v->LG P n N R X ops (k+1) ((t,v)::Γ) w')(a:decide (j<B.length)=true:=by kernel_rfl)(d:cL ops Γ k t n=true:=by kernel_rfl)(hr:(execOp (ev Γ) (ao ops k)).run P w=.ok (.enter f args) w:=by kernel_rfl):LG P n N R X ops k Γ w :=
 lC t s (s.lends (oT a) c) H d hr
end lent
section unroll
variable {P:Program}{n:Nat}{N R:Po}{X:Nat->Po}{Γ:ck}{w:World}
def I6 (P:Program)(N R:Po)(X:Nat->Po)(c:Code)(a:Act)(w:World):Prop:=∀ (b:Frame) (k:List Item) (cs:List Frame),∃ e a' w',iE N R X e a' w'/\Arrives P (lone (b.at a (.code c::.inLoop c::k)) cs w) b k cs e a' w'
def CL (P:Program)(n:Nat)(N R:Po)(X:Nat->Po)(c:Code)(Γ:ck)(w:World):Prop:=∀ a,Kn n a Γ->I6 P N R X c a w
theorem cU {c:Code}(H:CL P n N R X c Γ w):CG P n N R X (.loop c) Γ w:=fun a h b k cs=>by
 obtain ⟨e,i,w',f,d⟩:=H a h b k cs;exact ⟨e,i,w',f,.of_steps (.one step_loop) d⟩
theorem cN {c:Code}(H:CG P n (I6 P N R X c) R X c Γ w):CL P n N R X c Γ w:=fun a z b k cs=>by
  obtain ⟨e,i,h,o,d⟩:=H a z b (.inLoop c::k) cs;cases e with
  | normal =>
    obtain ⟨u,p,y,j,f⟩:=o b k cs;exact ⟨u,p,y,j,.of_steps (Steps.trans d (.one step_inLoop)) f⟩
  | exit id=>exact ⟨.exit id,i,h,o,.pass (x:=.inLoop c) rfl (fun _ _=>.inl (by simp)) d⟩
  | goto l=>exact o.elim
  | ret=>exact ⟨.ret,i,h,o,.pass (x:=.inLoop c) rfl (fun _ _=>.inl (by simp)) d⟩
  | panic ch=>exact o.elim
  | outgrown=>exact o.elim
theorem CL.to {c:Code}(Γ':ck)(H:CL P n N R X c Γ' w)(b:jL Γ (Γ'.map (·.1))=Γ':=by kernel_rfl)(d:fY Γ'=fY Γ:=by kernel_rfl):CL P n N R X c Γ w:=fun a e=>H a (e.to Γ' b d)
end unroll
theorem mixed:Tryz.prog.follows .mixedOrders=true:=by kernel_rfl
theorem rb {s:Result Next}{e b:Bool}{w:World}(h:s=.ok (.value (.bool e)) w)(a:e=b):s=.ok (.value (.bool b)) w:=a▸h
theorem be {s:Result Next}{k:IntKind}{n m:Int}{w:World}(h:s=.ok (.value (.int k n)) w)(e:n=m):s=.ok (.value (.int k m)) w:=e▸h
theorem rU {s:Result Next}{m:Int}{w:World}(x:Int)(h:s=.ok (.value (.int .u64 (IntKind.wrap .u64 x))) w)(e:IntKind.wrap .u64 x=m):s=.ok (.value (.int .u64 m)) w:=be (n:=IntKind.wrap .u64 x) h e
theorem rS {s:Result Next}{m:Int}{w:World}(x:Int)(h:s=.ok (.value (.int .i64 (IntKind.wrap .i64 x))) w)(e:IntKind.wrap .i64 x=m):s=.ok (.value (.int .i64 m)) w:=be (n:=IntKind.wrap .i64 x) h e
theorem rT {s:Result Next}{m:Int}{w:World}(x:Int)(h:s=.ok (.value (.int .u32 (IntKind.wrap .u32 x))) w)(e:IntKind.wrap .u32 x=m):s=.ok (.value (.int .u32 m)) w:=be (n:=IntKind.wrap .u32 x) h e
theorem AB (n:Nat):IntKind.wrap .u8 (n:Int)=((n%256:Nat):Int):=by rw[IntKind.wrap_u8];omega
theorem v6 (n:Nat):IntKind.wrap .u32 (n:Int)=((n%4294967296:Nat):Int):=by rw[IntKind.wrap_u32];omega
theorem vr (n:Nat):IntKind.wrap .u64 (n:Int)=((n%18446744073709551616:Nat):Int):=by rw[IntKind.wrap_u64];omega
theorem qB {n:Int}(h0:0<=n)(h:n<4294967296):IntKind.wrap .u32 n=n:=by rw[IntKind.wrap_u32];omega
theorem bM {n:Int}(h0:0<=n)(h:n<18446744073709551616):IntKind.wrap .u64 n=n:=by rw[IntKind.wrap_u64];omega
theorem nJ {n:Int}(h0 : -9223372036854775808<=n)(h:n<9223372036854775808):IntKind.wrap .i64 n=n:=by rw[IntKind.wrap_i64];omega
theorem F9 {n:Nat}(h:n<4294967296):IntKind.wrap .u32 (n:Int)=(n:Int):=by rw[IntKind.wrap_u32];omega
theorem FX {n:Nat}(h:n<18446744073709551616):IntKind.wrap .u64 (n:Int)=(n:Int):=by rw[IntKind.wrap_u64];omega
theorem Gc {n:Nat}(h:n<9223372036854775808):IntKind.wrap .i64 (n:Int)=(n:Int):=by rw[IntKind.wrap_i64];omega
theorem kF (a b:Nat):Int.fdiv (a:Int) (b:Int)=((a/b:Nat):Int):=by rw[yK _ oM];simp
theorem sx (a b:Nat):yL (a:Int) (b:Int)=((a/b:Nat):Int):=rfl
theorem dx (a b:Nat):Int.tmod (a:Int) (b:Int)=((a%b:Nat):Int):=rfl
theorem kO (a b:Nat)(h:a<18446744073709551616):IntKind.wrap .u64 (yL (a:Int) (b:Int))=((a/b:Nat):Int):=by rw[sx];exact FX (yM (yN _ _) h)
theorem dl (a b:Nat)(h:a<9223372036854775808):IntKind.wrap .i64 (yL (a:Int) (b:Int))=((a/b:Nat):Int):=by rw[sx];exact Gc (yM (yN _ _) h)
section div
variable {P:Program}{Γ:ck}{o:Oper}
theorem dD {t u:TypeId}{x y:Operand}{k:IntKind}{a b:Int}(e:o.op=.binOp .quo t x y u)(c:ev Γ x=.int k a)(d:ev Γ y=.int k b)(hb:b≠0)(w:World) :
  (execOp (ev Γ) o).run P w=.ok (.value (.int k (k.wrap (a.tdiv b)))) w:=by
 unfold execOp;simp only[e];rw[c,d]
 simp[binOp,eqGuard,Op.intDiv,hb,Result.andThen]
theorem fR {t u:TypeId}{x y:Operand}{k:IntKind}{a b:Int}(e:o.op=.binOp .rem t x y u)(c:ev Γ x=.int k a)(d:ev Γ y=.int k b)(hb:b≠0)(w:World) :
  (execOp (ev Γ) o).run P w=.ok (.value (.int k (a.tmod b))) w:=by
 unfold execOp;simp only[e];rw[c,d]
 simp[binOp,eqGuard,Op.intDiv,hb,Result.andThen]
theorem FR {t u:TypeId}{x y:Operand}{k ky:IntKind}{a:Int}{n:Nat}(d:o.op=.binOp .shl t x y u)(b:ev Γ x=.int k a)(c:ev Γ y=.int ky (n:Int))(e:n<=k.bits)(w:World) :
  (execOp (ev Γ) o).run P w=.ok (.value (.int k (k.wrap (a*2^n)))) w:=by
 unfold execOp;simp only[d];rw[b,c]
 have hm:min n k.bits=n:=by omega
 have hz:¬((n:Int)<0):=by omega
 simp[binOp,eqGuard,Op.shift,Result.andThen,hm,hz]
theorem GN {t u:TypeId}{x y:Operand}{k ky:IntKind}{a:Int}{n:Nat}(e:o.op=.binOp .shr t x y u)(b:ev Γ x=.int k a)(d:ev Γ y=.int ky (n:Int))(f:n<=k.bits)(w:World) :
  (execOp (ev Γ) o).run P w=.ok (.value (.int k (a/2^n))) w:=by
 unfold execOp;simp only[e];rw[b,d]
 have hm:min n k.bits=n:=by omega
 have hz:¬((n:Int)<0):=by omega
 have c:(0:Int)<=2^n:=yO kD
 simp[binOp,eqGuard,Op.shift,Result.andThen,hm,hz,yK _ c]
theorem jC {t u:TypeId}{x y:Operand}{a b:Nat}(f:o.op=.binOp .or t x y u)(c:ev Γ x=.int .u64 (a:Int))(d:ev Γ y=.int .u64 (b:Int))(ha:a<18446744073709551616)(hb:b<18446744073709551616)(w:World) :
  (execOp (ev Γ) o).run P w=.ok (.value (.int .u64 ((a ||| b:Nat):Int))) w:=by
 unfold execOp;simp only[f];rw[c,d]
 have e:bits .or .u64 (a:Int) (b:Int)=((a ||| b:Nat):Int):=by
  unfold bits
  have h1:(BitVec.ofInt 64 (a:Int) ||| BitVec.ofInt 64 (b:Int)).toNat=a ||| b:=by
   rw[BitVec.toNat_or]
   congr 1<;>(simp[BitVec.toNat_ofInt];omega)
  show IntKind.wrap .u64 (((BitVec.ofInt 64 (a:Int) ||| BitVec.ofInt 64 (b:Int)).toNat:Nat):Int)=_
  rw[h1];have:=yP (n:=64) ha hb;exact bM oM oM
 simp[binOp,eqGuard,Result.andThen,intBits_or,e]
theorem EB {t u:TypeId}{x y:Operand}{a b:Nat}(f:o.op=.binOp .or t x y u)(c:ev Γ x=.int .u32 (a:Int))(d:ev Γ y=.int .u32 (b:Int))(ha:a<4294967296)(hb:b<4294967296)(w:World) :
  (execOp (ev Γ) o).run P w=.ok (.value (.int .u32 ((a ||| b:Nat):Int))) w:=by
 unfold execOp;simp only[f];rw[c,d]
 have e:bits .or .u32 (a:Int) (b:Int)=((a ||| b:Nat):Int):=by
  unfold bits
  have h1:(BitVec.ofInt 32 (a:Int) ||| BitVec.ofInt 32 (b:Int)).toNat=a ||| b:=by
   rw[BitVec.toNat_or]
   congr 1<;>(simp[BitVec.toNat_ofInt];omega)
  show IntKind.wrap .u32 (((BitVec.ofInt 32 (a:Int) ||| BitVec.ofInt 32 (b:Int)).toNat:Nat):Int)=_
  rw[h1];have:=yP (n:=32) ha hb;exact qB oM oM
 simp[binOp,eqGuard,Result.andThen,intBits_or,e]
end div
def lo (n:Nat):Int:=((n%18446744073709551616:Nat):Int)
def wb:Nat->Nat->List UInt8
  | 0,_=>[]
  | f+1,m=>if m=0 then [] else (hO 8).map (fun k=>UInt8.ofNat (m/256^k))++wb f (m/18446744073709551616)
def hi (n:Nat):ByteArray:=⟨(wb n (n/18446744073709551616)).toArray⟩
abbrev uX (r k:Rat)(s b t:Int)(d:Nat):Value:=.agg #[.bool (aw r.num),uV (lo (ab r.num)),.string (hi (ab r.num)),uV (lo (qd r)),.string (hi (qd r)),.bool (aw k.num),uV (lo (ab k.num)),.string (hi (ab k.num)),uV (lo (qd k)),.string (hi (qd k)),iV s,iV b,iV t,mV d]
abbrev uC (r k:Rat)(s b t:Int)(d:Nat):List Value:=[.bool (aw r.num),uV (lo (ab r.num)),.string (hi (ab r.num)),uV (lo (qd r)),.string (hi (qd r)),.bool (aw k.num),uV (lo (ab k.num)),.string (hi (ab k.num)),uV (lo (qd k)),.string (hi (qd k)),iV s,iV b,iV t,mV d]
abbrev qX (q:Rat):Value:=.agg #[.bool (aw q.num),uV (lo (ab q.num)),.string (hi (ab q.num)),uV (lo (qd q)),.string (hi (qd q))]
abbrev qC (q:Rat):List Value:=[.bool (aw q.num),uV (lo (ab q.num)),.string (hi (ab q.num)),uV (lo (qd q)),.string (hi (qd q))]
abbrev qY (q:Rat)(A:Z9)(m c:Nat):Value:=.agg #[.bool (aw q.num),uV (lo (ab q.num)),.string (hi (ab q.num)),uV (lo (qd q)),.string (hi (qd q)),.slice A m c]
abbrev qZ (q:Rat)(A:Z9)(m c:Nat):List Value:=[.bool (aw q.num),uV (lo (ab q.num)),.string (hi (ab q.num)),uV (lo (qd q)),.string (hi (qd q)),.slice A m c]
abbrev wX (b:Value)(m:Nat):Value:=.agg #[b,uV (lo m),.string (hi m)]
abbrev wC (b:Value)(m:Nat):List Value:=[b,uV (lo m),.string (hi m)]
def nc (n:Nat):List Value:=[.int .u64 (lo n),.string (hi n)]
def nv (n:Nat):Value:=.agg #[.int .u64 (lo n),.string (hi n)]
def ic (z:Int):List Value:=[.bool (aw z),.int .u64 (lo (ab z)),.string (hi (ab z))]
def iv (z:Int):Value:=.agg #[.bool (aw z),.int .u64 (lo (ab z)),.string (hi (ab z))]
def qc (q:Rat):List Value:=[.bool (aw q.num),.int .u64 (lo (ab q.num)),.string (hi (ab q.num)),.int .u64 (lo (qd q)),.string (hi (qd q))]
abbrev Sq (A:Z9)(l:List Rat):Hp->Prop:=fun h_=>SlO 5 qc 0 h_ A l
def qv (q:Rat):Value:=.agg #[.bool (aw q.num),.int .u64 (lo (ab q.num)),.string (hi (ab q.num)),.int .u64 (lo (qd q)),.string (hi (qd q))]
theorem lM {n:Nat}(h:n<18446744073709551616):lo n=(n:Int):=by unfold lo;rw[yr h]
theorem li {n:Nat}(h:n<18446744073709551616):hi n=⟨#[]⟩:=by
 unfold hi;rw[yQ h];cases n<;>rfl
def dj:List Nat->Nat
  | []=>0
  | x::l=>x+4294967296*dj l
def p9:Nat->Nat->List Nat
  | 0,_=>[]
  | f+1,n=>if n=0 then [] else n%4294967296::p9 f (n/4294967296)
def lim (n:Nat):List Nat:=p9 n n
abbrev Dd (q:Rat)(A:Z9)(c:Nat)(D:Z9)(d:Nat):List Value:=[.bool (aw q.num),.slice A (lim (ab q.num)).length c,.slice D (lim q.den).length d]
abbrev rG (q:Rat)(A:Z9)(c:Nat)(D:Z9)(d:Nat):Value:=.agg #[.bool (aw q.num),.slice A (lim (ab q.num)).length c,.slice D (lim q.den).length d]
theorem rJ:∀ (f g n:Nat),n<=f->n<=g->p9 f n=p9 g n
  | 0,g,n,hf,hg=>by
    have:n=0:=by omega
    subst this;cases g<;>rfl
  | f+1,0,n,hf,hg=>by
    have:n=0:=by omega
    subst this
    rfl
  | f+1,g+1,n,hf,hg=>by
    unfold p9
    split
    . rfl
    . rw[rJ f g (n/4294967296) oM oM]
theorem f5:lim 0=[]:=rfl
theorem eA {n:Nat}(h:0<n):lim n=n%4294967296::lim (n/4294967296):=by
 unfold lim
 obtain ⟨m,rfl⟩:∃ m,n=m+1:=⟨n-1,by omega⟩;rw[p9,if_neg oM];rw[rJ m _ _ oM (ep _)]
theorem Ah {n:Nat}(h0:0<n)(h:n<4294967296):lim n=[n]:=by
 rw[eA h0,yr h,yQ h,f5]
theorem fl (n:Nat):dj (lim n)=n:=by
  induction n using g3 with
  | _ n ih =>
    rcases yA n with h|h
    . subst h;rfl
    . rw[eA h,dj,ih (n/4294967296) oM]
      omega
theorem jM (n:Nat):∀ x∈lim n,x<4294967296:=by
  induction n using g3 with
  | _ n ih =>
    rcases yA n with h|h
    . subst h;intro x a;cases a
    . rw[eA h]
      intro x a
      rcases g1.1 a with rfl|a
      . omega
      . exact ih _ oM x a
theorem dN {n:Nat}:0<(lim n).length↔0<n:=by
 rcases yA n with h|h
 ·subst h;simp[f5]
 ·rw[eA h];simp[h]
theorem rr {n:Nat}:lim n=[]↔n=0:=by
 constructor
 ·intro h;rcases yA n with h0|h0;exact h0;rw[eA h0] at h;cases h
 ·rintro rfl;rfl
theorem gn {n k:Nat}(h:n<4294967296^k):(lim n).length<=k:=by
  induction k generalizing n with
  | zero => have:n=0:=by simpa using h
            subst this;simp[f5]
  | succ k ih =>
    rcases yA n with h0|h0
    . subst h0;simp[f5]
    . rw[eA h0]
      have:n/4294967296<4294967296^k:=yR (by rw[yS,yT] at h;exact h);have:=ih this
      simp
      omega
def tl (l:List Nat):Nat->Nat
  | 0=>0
  | n+1=>if l.getD n 0=0 then tl l n else n+1
theorem iO (l:List Nat):∀ n,tl l n<=n
 | 0=>ep _
 | n+1=>by unfold tl;split;exact Nat.le_succ_of_le (iO l n);exact ep _
theorem mY {l:List Nat}{n:Nat}(h:n=0\/l.getD (n-1) 0≠0):tl l n=n:=by
 cases n with
 | zero=>rfl
 | succ n=>unfold tl;rw[if_neg];rcases h with h|h;omega;exact h
theorem kd (a b:List Nat):dj (a++b)=dj a+4294967296^a.length*dj b:=by
  induction a with
  | nil=>simp[dj]
  | cons x a ih =>
    simp only[yU,dj,ih,ul,yS,yV]
    rw[<-yW,yT (4294967296^a.length) 4294967296]
    omega
theorem kG {l:List Nat}(h:∀ x∈l,x<4294967296):dj l<4294967296^l.length:=by
  induction l with
  | nil=>simp[dj]
  | cons x l ih =>
    have h1:=h x (by simp);have b:=ih (fun y a=>h y (by simp[a]))
    simp only[dj,ul,yS]
    omega
theorem jq (x:Nat)(l:List Nat):∀ n,tl l n=0->tl (x::l) (n+1)=if x=0 then 0 else 1
  | 0,_=>by simp[tl]
  | n + 1,h=>by
    unfold tl at h
    split at h
    . rename_i h0
      show tl (x::l) (n+2)=_
      unfold tl
      rw[if_pos (by simpa using h0)];exact jq x l n h
    . omega
theorem kv (l:List Nat)(n:Nat):tl l (n+1)=if l.getD n 0=0 then tl l n else n+1:=rfl
theorem kb (x:Nat)(l:List Nat):∀ n,0<tl l n->tl (x::l) (n+1)=tl l n+1
  | 0,h=>by simp[tl] at h
  | n + 1,h=>by
    rw[kv l n] at h ⊢
    rw[kv (x::l) (n+1),ye]
    by_cases h0:l.getD n 0=0
    . rw[if_pos h0] at h ⊢
      rw[if_pos h0];exact kb x l n h
    . rw[if_neg h0,if_neg h0]
theorem nB (l:List Nat):dj l=0->tl l l.length=0:=by
  intro h
  have key:∀ n,n<=l.length->tl l n=0:=by
    have hz:∀ k,l.getD k 0=0:=by
      induction l with
      | nil=>intro k;simp
      | cons x l ih =>
        simp only[dj] at h
        intro k;cases k with
        | zero=>simp;omega
        | succ k=>simpa using ih oM k
    intro n
    induction n with
    | zero=>intro _;rfl
    | succ n ih=>intro a;unfold tl;rw[if_pos (hz n)];exact ih oM
  exact key _ (ep _)
theorem wQ {l:List Nat}(h:∀ x∈l,x<4294967296):lim (dj l)=l.take (tl l l.length):=by
  induction l with
  | nil=>rfl
  | cons x l ih =>
    have h1:=h x (by simp);have a:=ih (fun y c=>h y (by simp[c]))
    rcases yA (dj (x::l)) with h0|h0
    . rw[h0,f5,nB _ h0];rfl
    . rw[eA h0]
      have e1:dj (x::l)%4294967296=x:=by simp only[dj];omega
      have e2:dj (x::l)/4294967296=dj l:=by simp only[dj];omega
      rw[e1,e2,a]
      rcases yA (tl l l.length) with ht|ht
      . have b:x≠0:=by
          intro b;have:lim (dj l)=[]:=by rw[a,ht];rfl
          have:=rr.1 this
          simp only[dj] at h0
          omega
        rw[ul,jq x l _ ht,if_neg b,ht];rfl
      . rw[ul,kb x l _ ht];rfl
theorem v7 (n:Nat)(h:0<n):(lim n).getD ((lim n).length-1) 0≠0:=by
  induction n using g3 with
  | _ n ih =>
    rw[eA h]
    rcases yA (n/4294967296) with h0|h0
    . rw[h0,f5];simp;omega
    . have:=ih (n/4294967296) oM h0
      have a:=dN.2 h0;rw[ul,show (lim (n/4294967296)).length+1-1=((lim (n/4294967296)).length-1)+1 by omega,ye];exact this
theorem lJ {l:List Nat}{k:Nat}(h:k<l.length):dj (l.take (k+1))=dj (l.take k)+4294967296^k*l.getD k 0:=by
 have e:l.take (k+1)=l.take k++[l.getD k 0]:=by
  rw[yX];simp[h]
 rw[e,kd,yY,yZ oM]
 show dj (l.take k)+4294967296^k*(l.getD k 0+4294967296*0)=_
 rw[y2,ya]
theorem uk {l:List Nat}{k:Nat}(h:k<l.length):dj (l.drop k)=l.getD k 0+4294967296*dj (l.drop (k+1)):=by
 rw[y3 h]
 simp[dj,h]
def nb (n:Nat):Nat:=if n=0 then 0 else Nat.log2 n+1
theorem x6:nb 0=0:=rfl
theorem cC {n:Nat}(h:0<n):2^(nb n-1)<=n/\n<2^nb n/\0<nb n:=by
 unfold nb
 rw[if_neg oM];have:=(y4 (n:=n) (k:=n.log2) oM).1 rfl;exact ⟨this.1,this.2,by omega⟩
theorem mT {n k:Nat}(h1:2^k<=n)(a:n<2^(k+1)):nb n=k+1:=by
 have b:0<2^k:=y5 k
 unfold nb
 rw[if_neg oM,(y4 oM).2 ⟨h1,a⟩]
theorem Hj (n:Nat):n<2^nb n:=by
 rcases yA n with h|h
 ·subst h;simp[nb]
 ·exact (cC h).2.1
theorem kK {n k:Nat}(h:n<2^k):nb n<=k:=by
 rcases yA n with h0|h0
 ·subst h0;simp[nb]
 ·have:=cC h0
  rcases eb k (nb n) with hl|hl
  ·have:2^k<=2^(nb n-1):=y6 oM oM
   omega
  ·exact hl
theorem x9 {n:Nat}(h:0<n):nb n=nb (n/2)+1:=by
 rcases eb n 2 with h2|h2
 ·have:n=1:=by omega
  subst this;decide
 ·obtain ⟨c,b,a⟩:=cC (n:=n/2) oM
  apply mT
  ·have:2^nb (n/2)=2*2^(nb (n/2)-1):=by rw[<-y7,show (nb (n/2)-1).succ=nb (n/2) by omega]
   omega
  ·rw[yS];omega
theorem wo {lo ux k:Nat}(b:lo<2^k)(c:0<ux):nb (lo+2^k*ux)=k+nb ux:=by
 obtain ⟨d,a,e⟩:=cC c;rw[show k+nb ux=(k+(nb ux-1))+1 by omega]
 apply mT
 ·rw[y8]
  have:=y9 (2^k) d
  omega
 ·rw[show k+(nb ux-1)+1=k+nb ux by omega,y8]
  have:=y9 (2^k) (show ux+1<=2^nb ux from a);rw[Nat.mul_succ] at this
  omega
theorem D4 {a:Nat}(h:0<a):nb a=32*((lim a).length-1)+nb ((lim a).getD ((lim a).length-1) 0):=by
 have f:=dN.2 h;have e:=lJ (l:=lim a) (k:=(lim a).length-1) oM;rw[show (lim a).length-1+1=(lim a).length by omega,yd,fl] at e
 have b:=kG (l:=(lim a).take ((lim a).length-1)) (fun x d=>jM a x (zh d));rw[yY,yZ oM] at b
 have e2:(4294967296:Nat)^((lim a).length-1)=2^(32*((lim a).length-1)):=by rw[zy]
 rw[e2] at e b
 have c:=v7 a h;have:=wo b (Nat.pos_of_ne_zero c);rw[<-e] at this
 exact this
def fe (n:Nat):Nat->List Nat
  | 0=>[]
  | m+1=>n/256^m%256::fe n m
theorem jE (n m:Nat):(fe n m).length=m:=by induction m with|zero=>rfl|succ m ih=>simp[fe,ih]
theorem iB (n:Nat):∀ (m k:Nat),k<m->(fe n m).getD k 0=n/256^(m-1-k)%256
  | 0,k,h=>by omega
  | m+1,0,h=>by simp[fe]
  | m+1,k+1,h=>by
    rw[fe,ye,iB n m k oM]
    congr 3
    omega
theorem j8 (n m k:Nat):(fe n m).getD k 0<256:=by
 rcases eb k m with h|h
 ·rw[iB n m k h];exact ys _ oM
 ·simp[pe (show (fe n m).length<=k by rw[jE];exact h)]
theorem vv (n i:Nat):n%256^(i+1)=n%256^i+256^i*(n/256^i%256):=by
 rw[yS,Nat.mod_mul]
theorem rv (a:Nat):nb a<=32*(lim a).length:=by
 apply kK
 have:=kG (jM a);rw[fl] at this
 rw[zy];exact this
theorem vK (a k:Nat):(lim a).getD (k/4) 0/2^(8*(k%4))%256=a/256^k%256:=by
  have d:(lim a).getD (k/4) 0=a/4294967296^(k/4)%4294967296:=by
    rcases eb (k/4) (lim a).length with h|h
    . have e:=kd ((lim a).take (k/4)) ((lim a).drop (k/4))
      rw[zF,fl,yY,yZ oM] at e
      have b:=kG (l:=(lim a).take (k/4)) (fun x c=>jM a x (zh c));rw[yY,yZ oM] at b
      have f:=uk h
      have c:(lim a).getD (k/4) 0<4294967296:=by
        have:=jM a ((lim a)[k/4]) (fu h);simpa [h] using this
      have h1:(dj ((lim a).take (k/4))+4294967296^(k/4)*dj ((lim a).drop (k/4)))/4294967296^(k/4)=dj ((lim a).drop (k/4)):=by
        rw[zT _ _ (zW oM),yQ b,yl]
      rw[<-e] at h1
      rw[h1,f]
      omega
    . have:a<4294967296^(k/4):=by
        have h1:=kG (jM a);rw[fl] at h1
        exact ey h1 (y6 oM h)
      rw[yQ this]
      simp[pe h]
  rw[d]
  have e1:(256:Nat)^k=4294967296^(k/4)*2^(8*(k%4)):=by
    have:k=4*(k/4)+k%4:=by omega
    conv=>lhs;rw[this,y8,zy]
    rw[zy 2 8]
  rw[e1,<-zX]
  generalize a/4294967296^(k/4)=y
  have:k%4=0\/k%4=1\/k%4=2\/k%4=3:=by omega
  rcases this with h|h|h|h<;>rw[h]<;>omega
theorem gE {l:List Nat}{m k x:Nat}{f:Nat->Nat}(c:l.length=m)(hk:k<m)(hv:∀ j,j<k->l.getD (m-1-j) 0=f j)(b:x=f k:=by rfl):∀ j,j<k+1->(l.set (m-1-k) x).getD (m-1-j) 0=f j:=by
 intro j d
 by_cases e:j=k
 ·subst e
  have:m-1-j<l.length:=by omega
  simp[this,b]
 ·have a:m-1-k≠m-1-j:=by omega
  have:=hv j oM
  simp only[zY] at this ⊢
  rw[va a];exact this
theorem qn {l:List Nat}{n m:Nat}(a:l.length=m)(hv:∀ j,j<m->l.getD (m-1-j) 0=n/256^j%256):l=fe n m:=by
 apply List.ext_getElem
 ·rw[jE,a]
 ·intro i h1 b
  have hb:=iB n m i oM;have:=hv (m-1-i) oM;rw[show m-1-(m-1-i)=i by omega,<-hb] at this
  simpa [h1,b] using this
def eU (n k j:Nat):Nat:=n/256^k*256^k/4294967296^j%4294967296
theorem ut (n j:Nat):eU n 0 j=n/4294967296^j%4294967296:=by unfold eU;simp
theorem xO {n k:Nat}(h:n<256^k)(j:Nat):eU n k j=0:=by unfold eU;rw[yQ h];simp
theorem n5 (n k j:Nat):eU n k j<4294967296:=ys _ oM
theorem tB (k:Nat):(256:Nat)^k=4294967296^(k/4)*2^(8*(k%4)):=by
 have:k=4*(k/4)+k%4:=by omega
 conv=>lhs;rw[this,y8,zy]
 rw[zy 2 8]
theorem ti (y q j:Nat):y*4294967296^q/4294967296^j%4294967296=if j<q then 0 else y/4294967296^(j-q)%4294967296:=by
 split
 ·rename_i h
  have e:(4294967296:Nat)^q=4294967296^j*(4294967296^(q-j-1)*4294967296):=by
   rw[<-yS,<-y8];congr 1;omega
  rw[e,<-yW,yT y,yW,Nat.mul_div_cancel_left _ (zW oM),<-yW];exact zZ _ _
 ·rename_i h
  have e:(4294967296:Nat)^j=4294967296^q*4294967296^(j-q):=by rw[<-y8];congr 1;omega
  rw[e,<-zX,Nat.mul_div_cancel _ (zW oM)]
theorem AU (x b:Nat)(hb:b<256):∀ r,r<4->(256*x+b)*2^(8*r)%4294967296=256*x*2^(8*r)%4294967296+b*2^(8*r)/\(256*x+b)*2^(8*r)/4294967296=256*x*2^(8*r)/4294967296/\256*x*2^(8*r)%4294967296%2^(8*r+8)=0/\b*2^(8*r)<4294967296:=by
 intro r hr;have:r=0\/r=1\/r=2\/r=3:=by omega
 rcases this with rfl|rfl|rfl|rfl<;>omega
theorem mF (n k j:Nat):eU n k j=if j=k/4 then eU n (k+1) j ||| (n/256^k%256)*2^(8*(k%4)) else eU n (k+1) j:=by
  have i:n/256^k=256*(n/256^(k+1))+n/256^k%256:=by
    rw[yS,<-zX];omega
  have hb:n/256^k%256<256:=ys _ oM;have f:=tB k;have a:(256:Nat)^(k+1)=4294967296^(k/4)*2^(8*(k%4))*256:=by rw[yS,f]
  obtain ⟨l,l2,l3,o⟩:=AU (n/256^(k+1)) _ hb (k%4) oM
  unfold eU
  generalize n/256^(k+1)=x at *
  generalize hb2:n/256^k%256=b at *
  rw[i,f,a];have e1:(256*x+b)*(4294967296^(k/4)*2^(8*(k%4)))=(256*x+b)*2^(8*(k%4))*4294967296^(k/4):=by ac_rfl
  have e2:x*(4294967296^(k/4)*2^(8*(k%4))*256)=256*x*2^(8*(k%4))*4294967296^(k/4):=by ac_rfl
  rw[e1,e2,ti,ti]
  by_cases h1:j<k/4
  . rw[if_pos h1,if_pos h1,if_neg oM]
  . rw[if_neg h1,if_neg h1]
    by_cases h2:j=k/4
    . rw[if_pos h2,h2,sA,Nat.pow_zero,Nat.div_one,Nat.div_one,l]
      obtain ⟨c,hc⟩:∃ c,256*x*2^(8*(k%4))%4294967296=2^(8*(k%4)+8)*c:=⟨_,(Nat.mul_div_cancel' (Nat.dvd_of_mod_eq_zero l3)).symm⟩;rw[hc]
      have e:b*2^(8*(k%4))<2^(8*(k%4)+8):=by
        rw[y8,yT];exact z1 hb (y5 _)
      exact Nat.two_pow_add_eq_or_of_lt e c
    . rw[if_neg h2]
      obtain ⟨d,hd⟩:∃ d,j-k/4=d+1:=⟨j-k/4-1,by omega⟩;have h:∀ y:Nat,y/4294967296^(d+1)=y/4294967296/4294967296^d:=fun y=>by rw[y7,zX]
      rw[hd,h,h,l2]
theorem gY:∀ (l:List Nat) (n:Nat),(∀ j,j<l.length->l.getD j 0=n/4294967296^j%4294967296)->n<4294967296^l.length->dj l=n
  | [],n,_,h=>by simp at h;simp[dj,h]
  | x :: l,n,hd,h=>by
    have h0:=hd 0 (by simp)
    simp at h0
    have b:=gY l (n/4294967296) (fun j a=>by
      have:=hd (j+1) (by simpa using a);rw[ye,y7,<-zX] at this
      exact this) (yR (by rw[ul,y7] at h;exact h))
    rw[dj,b,h0]
    omega
def ak (b:Nat):List Nat->Nat
  | []=>0
  | x::l=>x+b*ak b l
def Dg (b:Nat)(l:List Nat):Prop:=∀ x∈l,x<b
theorem jY (l:List Nat):dj l=ak 4294967296 l:=by
 induction l with
 | nil=>rfl
 | cons x l ih=>simp only[dj,ak,ih]
theorem Dg.nil {b:Nat}:Dg b []:=fun _ h=>by cases h
theorem Dg.getD {b:Nat}{l:List Nat}(h:Dg b l)(hb:0<b)(k:Nat):l.getD k 0<b:=by
 rcases eb k l.length with hk|hk
 ·have:=h (l[k]) (fu hk);simpa [hk] using this
 ·simpa [pe hk] using hb
theorem Dg.set {b:Nat}{l:List Nat}(h:Dg b l)(k:Nat){x:Nat}(a:x<b):Dg b (l.set k x):=fun y c=>by
 rcases List.mem_or_eq_of_mem_set c with h1|h1
 ·exact h y h1
 ·rw[h1];exact a
theorem Dg.take {b:Nat}{l:List Nat}(h:Dg b l)(k:Nat):Dg b (l.take k):=fun x a=>h x (zh a)
theorem Dg.drop {b:Nat}{l:List Nat}(h:Dg b l)(k:Nat):Dg b (l.drop k):=fun x a=>h x (yn a)
theorem Dg.append {b:Nat}{l m:List Nat}(h:Dg b l)(k:Dg b m):Dg b (l++m):=fun x a=>by
 rcases gp.1 a with h1|h1
 ·exact h x h1
 ·exact k x h1
theorem Dg.one {b x:Nat}(h:x<b):Dg b [x]:=fun y a=>by rw[ov.1 a];exact h
theorem Dg.cons {b x:Nat}{l:List Nat}(h:x<b)(k:Dg b l):Dg b (x::l):=fun y a=>by
 rcases g1.1 a with rfl|h1
 ·exact h
 ·exact k y h1
theorem Dg.rep {b n:Nat}(hb:0<b):Dg b (yp n 0):=fun y a=>by rw[(List.mem_replicate.1 a).2];exact hb
theorem dS (b:Nat)(x y:List Nat):ak b (x++y)=ak b x+b^x.length*ak b y:=by
  induction x with
  | nil=>simp[ak]
  | cons a x ih =>
    simp only[yU,ak,ih,ul,yS,yV]
    rw[<-yW,yT (b^x.length) b]
    omega
theorem ci {b:Nat}{l:List Nat}(h:Dg b l):ak b l<b^l.length:=by
  induction l with
  | nil=>simp[ak]
  | cons x l ih =>
    have h1:=h x (by simp);have d:=ih (fun y a=>h y (by simp[a]))
    simp only[ak,ul,yS]
    have c:b*(ak b l+1)<=b*b^l.length:=y9 _ d;rw[yV,z2,yT b (b^l.length)] at c
    omega
theorem bT (b:Nat){l:List Nat}{k:Nat}(h:k<=l.length):ak b l=ak b (l.take k)+b^k*ak b (l.drop k):=by
 have e:=dS b (l.take k) (l.drop k);rw[zF,yY,yZ h] at e
 exact e
theorem gy {l:List Nat}{k:Nat}(h:k<l.length):l.take (k+1)=l.take k++[l.getD k 0]:=by
 rw[yX];simp[h]
theorem aZ (b:Nat){l:List Nat}{k:Nat}(h:k<l.length):ak b (l.take (k+1))=ak b (l.take k)+b^k*l.getD k 0:=by
 rw[gy h,dS,yY,yZ oM]
 show ak b (l.take k)+b^k*(l.getD k 0+b*0)=_
 rw[y2,ya]
theorem e9 (b:Nat){l:List Nat}{k:Nat}(h:k<l.length):ak b (l.drop k)=l.getD k 0+b*ak b (l.drop (k+1)):=by
 rw[y3 h]
 simp[ak,h]
theorem cV (b:Nat){l:List Nat}{k:Nat}(x:Nat)(h:k<l.length):ak b (l.set k x)+b^k*l.getD k 0=ak b l+b^k*x:=by
  induction l generalizing k with
  | nil=>simp at h
  | cons y l ih =>
    cases k with
    | zero=>simp[ak];omega
    | succ k =>
      have:=ih (k:=k) (by simpa using h);rw[yk,ye,ak,ak,yS,yT (b^k) b,yW,yW];have e:b*(ak b (l.set k x)+b^k*l.getD k 0)=b*(ak b l+b^k*x):=by rw[this]
      rw[yV,yV] at e
      omega
theorem ff (b n:Nat):ak b (yp n 0)=0:=by
 induction n with
 | zero=>rfl
 | succ n ih=>simp[yq,ak,ih]
theorem mU {b:Nat}(hb:0<b){l:List Nat}(h:ak b l=0)(k:Nat):l.getD k 0=0:=by
  induction l generalizing k with
  | nil=>simp
  | cons x l ih =>
    simp only[ak] at h
    have h1:b*ak b l=0:=by omega
    have a:ak b l=0:=by
      rcases Nat.mul_eq_zero.1 h1 with a|a
      . omega
      . exact a
    cases k with
    | zero=>simp;omega
    | succ k=>simpa using ih a k
theorem gu (b:Nat){l:List Nat}(h:∀ k,l.getD k 0=0):ak b l=0:=by
  induction l with
  | nil=>rfl
  | cons x l ih =>
    have h0:=h 0
    simp at h0
    rw[ak,ih (fun k=>by have:=h (k+1);simpa using this),h0];simp
theorem i7 {l:List Nat}{k n:Nat}(h:k<n):(l.take n).getD k 0=l.getD k 0:=by
 simp only[zY,List.getElem?_take,if_pos h]
theorem bF {l:List Nat}{k n:Nat}:(l.drop n).getD k 0=l.getD (n+k) 0:=by
 simp only[zY,ws]
theorem bG {l:List Nat}{k j x:Nat}(h:k<l.length):(l.set k x).getD j 0=if k=j then x else l.getD j 0:=by
 simp only[zY,List.getElem?_set,h,if_true]
 split<;>simp
theorem gc {n k:Nat}:(yp n 0).getD k 0=0:=by
 simp only[zY,List.getElem?_replicate]
 split<;>rfl
theorem cA {l:List Nat}{k:Nat}(h:l.length<=k):l.getD k 0=0:=by simp[pe h]
theorem jA (b:Nat)(l:List Nat):∀ n,n<=l.length->ak b (l.take (tl l n))=ak b (l.take n)
  | 0,_=>rfl
  | n + 1,h=>by
    unfold tl
    split
    . rename_i h0
      rw[aZ b oM,h0,jA b l n oM];simp
    . rfl
theorem rX {l:List Nat}:∀ n,tl l n=0\/l.getD (tl l n-1) 0≠0
  | 0=>.inl rfl
  | n+1=>by
    unfold tl
    split
    . exact rX n
    . rename_i h;exact .inr h
def o9 (b:Nat):Nat->Nat->List Nat
  | 0,_=>[]
  | f+1,n=>if n=0 then [] else n%b::o9 b f (n/b)
def ja (b n:Nat):List Nat:=o9 b n n
theorem sH {b:Nat}(hb:2<=b):∀ (f g n:Nat),n<=f->n<=g->o9 b f n=o9 b g n
  | 0,g,n,hf,hg=>by
    have:n=0:=by omega
    subst this;cases g<;>rfl
  | f+1,0,n,hf,hg=>by
    have:n=0:=by omega
    subst this
    rfl
  | f + 1,g+1,n,hf,hg=>by
    unfold o9
    split
    . rfl
    . rename_i h0
      have:=z6 (n:=n) (k:=b) oM oM;rw[sH hb f g (n/b) oM oM]
theorem jj (b:Nat):ja b 0=[]:=rfl
theorem d5 {b n:Nat}(hb:2<=b)(h:0<n):ja b n=n%b::ja b (n/b):=by
 unfold ja
 obtain ⟨m,rfl⟩:∃ m,n=m+1:=⟨n-1,by omega⟩;have:=z6 (n:=m+1) (k:=b) oM oM;rw[o9,if_neg oM];rw[sH hb m _ _ oM (ep _)]
theorem mg {b:Nat}(hb:2<=b)(n:Nat):ak b (ja b n)=n:=by
  induction n using g3 with
  | _ n ih =>
    rcases yA n with h|h
    . subst h;rfl
    . rw[d5 hb h,ak,ih (n/b) (z6 h oM)]
      exact Nat.mod_add_div n b
theorem xw {b:Nat}(hb:2<=b)(n:Nat):Dg b (ja b n):=by
  induction n using g3 with
  | _ n ih =>
    rcases yA n with h|h
    . subst h;exact Dg.nil
    . rw[d5 hb h]
      exact Dg.cons (ys _ oM) (ih _ (z6 h oM))
theorem rP {b n:Nat}(hb:2<=b):0<(ja b n).length↔0<n:=by
 rcases yA n with h|h
 ·subst h;simp[jj]
 ·rw[d5 hb h];simp[h]
theorem qO {b:Nat}(hb:2<=b){l:List Nat}(e:Dg b l)(a:l=[]\/l.getD (l.length-1) 0≠0):ja b (ak b l)=l:=by
  induction l with
  | nil=>rfl
  | cons x l ih =>
    have d:=e x (by simp);have e1:(x+b*ak b l)%b=x:=by rw[Nat.add_mul_mod_self_left,yr d]
    have e2:(x+b*ak b l)/b=ak b l:=by rw[zT _ _ oM,yQ d,yl]
    have c:l=[]\/l.getD (l.length-1) 0≠0:=by
      rcases List.eq_nil_or_concat l with h0|⟨m,y,rfl⟩
      . exact .inl h0
      . right
        rcases a with a|a
        . cases a
        . rw[show (x::m.concat y).length-1=((m.concat y).length-1)+1 by simp,ye] at a
          exact a
    have f:0<ak b (x::l):=by
      rcases yA (ak b (x::l)) with h0|h0
      . rcases a with a|a
        . cases a
        . exact absurd (mU oM h0 _) a
      . exact h0
    rw[d5 hb f]
    simp only[ak]
    rw[e1,e2,ih (fun y h=>e y (by simp[h])) c]
theorem Fv {b:Nat}(hb:2<=b){l:List Nat}(c:Dg b l):ja b (ak b l)=l.take (tl l l.length):=by
 have e:=jA b l l.length (ep _);rw[yd] at e
 have a:=iO l l.length
 have:=qO hb (c.take (tl l l.length)) (by
  by_cases h0:tl l l.length=0
  ·left;rw[h0];rfl
  ·right
   rw[yY,yZ a,i7 oM]
   rcases rX (l:=l) l.length with h|h
   ·exact absurd h h0
   ·exact h)
 rw[e] at this
 exact this
theorem pF {b:Nat}(hb:2<=b)(n:Nat)(h:0<n):(ja b n).getD ((ja b n).length-1) 0≠0:=by
  induction n using g3 with
  | _ n ih =>
    rw[d5 hb h]
    rcases yA (n/b) with h0|h0
    . rw[h0,jj]
      have:n<b:=by
        rcases eb n b with h1|h1
        . exact h1
        . have:=Nat.div_pos h1 oM;omega
      simp[yr this];omega
    . have:=ih (n/b) (z6 h oM) h0
      have a:=(rP hb).2 h0;rw[ul,show (ja b (n/b)).length+1-1=((ja b (n/b)).length-1)+1 by omega,ye];exact this
theorem fw {b n k:Nat}(hb:2<=b)(h:n<b^k):(ja b n).length<=k:=by
 rcases yA n with h0|h0
 ·subst h0;simp[jj]
 ·rcases eb k (ja b n).length with hk|hk
  ·exfalso
   have h1:=aZ b (l:=ja b n) (k:=(ja b n).length-1) oM;rw[show (ja b n).length-1+1=(ja b n).length by omega,yd,mg hb] at h1
   have d:=pF hb n h0;have c:b^((ja b n).length-1)*1<=b^((ja b n).length-1)*(ja b n).getD ((ja b n).length-1) 0:=y9 _ oM;have a:b^k<=b^((ja b n).length-1):=y6 oM oM
   omega
  ·exact hk
theorem i8 {b:Nat}(hb:2<=b)(n:Nat):n<b^(ja b n).length:=by
 have:=ci (xw hb n)
 rwa [mg hb] at this
theorem ib (b:Nat){l:List Nat}{k m:Nat}(hk:k+m<=l.length)(hb:0<b)(d:Dg b l)(h:ak b l<b^(k+m)):ak b l/b^k=ak b ((l.drop k).take m)/\∀ i,k+m<=i->l.getD i 0=0:=by
 have e1:=bT b (l:=l) (k:=k) oM;have e2:=bT b (l:=l.drop k) (k:=m) (by rw[List.length_drop];omega);have h1:=ci (d.take k);rw[yY,yZ oM] at h1
 have a:0<b^k:=zW hb
 have hz:ak b ((l.drop k).drop m)=0:=by
  rcases yA (ak b ((l.drop k).drop m)) with h0|h0
  ·exact h0
  ·exfalso
   have e:b^m*1<=b^m*ak b ((l.drop k).drop m):=y9 _ h0;have c:b^k*b^m<=b^k*ak b (l.drop k):=y9 _ oM;rw[<-y8] at c
   omega
 rw[hz,y2,ya] at e2
 refine ⟨?_,fun i hi=>?_⟩
 ·rw[e1,zT _ _ a,yQ h1,yl,e2]
 ·have:=mU hb hz (i-k-m)
  rw[bF,bF,show k+(m+(i-k-m))=i by omega] at this
  exact this
theorem xe {b P u v U V G:Nat}(l:0<P)(o:U*P<=u)(j:u<(U+1)*P)(a:V*P<=v)(y:v<(V+1)*P)(d:b*P<=v)(c:u<b*v)(x:G*V<=U)(e:G+1=b\/U<(G+1)*V)(p:G<b) :
    u/v<=G/\G<=u/v+1:=by
  have hv:0<v:=ey (Nat.mul_pos oM l) d
  constructor
  . have i:u/v<G+1:=by
      rw[Nat.div_lt_iff_lt_mul hv]
      rcases e with h|h
      . rw[h];exact c
      . have h1:(U+1)*P<=(G+1)*V*P:=ym _ h
        have f:(G+1)*(V*P)<=(G+1)*v:=y9 _ a;rw[yW] at h1
        omega
    omega
  . have h1:G*v<=u+v:=by
      have D:G*v<=G*((V+1)*P):=y9 _ oM;have z:G*((V+1)*P)=G*V*P+G*P:=by rw[<-yW,yV,z2,z7]
      have C:G*V*P<=U*P:=ym _ x;have B:G*P<=b*P:=ym _ oM
      omega
    have f:G<=(u+v)/v:=(Nat.le_div_iff_mul_le hv).2 h1;rw[Nat.add_div_right _ hv] at f
    omega
theorem a7 (b:Nat)(l:List Nat)(k:Nat):ak b (l.take (k+1))=ak b (l.take k)+b^k*l.getD k 0:=by
 rcases eb k l.length with h|h
 ·exact aZ b h
 ·rw[z8 oM,z8 h]
  simp[pe h]
theorem gf {b:Nat}{l y:List Nat}{i c c' s X:Nat}(hi:i<l.length)(inv:ak b l+b^i*c=X+ak b (y.take i))(e:s+b*c'=l.getD i 0+y.getD i 0+c) :
  ak b (l.set i s)+b^(i+1)*c'=X+ak b (y.take (i+1)):=by
 have h1:=cV b s hi;rw[a7,yS]
 generalize b^i=P at *
 generalize ak b (l.set i s)=S at *
 have e2:P*(s+b*c')=P*(l.getD i 0+y.getD i 0+c):=by rw[e]
 simp only[yV,<-yW] at e2 ⊢
 omega
theorem gz {b:Nat}{l y:List Nat}{i c c' s X:Nat}(hi:i<l.length)(inv:ak b l+ak b (y.take i)=X+b^i*c)(e:s+y.getD i 0+c=l.getD i 0+b*c') :
  ak b (l.set i s)+ak b (y.take (i+1))=X+b^(i+1)*c':=by
 have h1:=cV b s hi;rw[a7,yS]
 generalize b^i=P at *
 generalize ak b (l.set i s)=S at *
 have e2:P*(s+y.getD i 0+c)=P*(l.getD i 0+b*c'):=by rw[e]
 simp only[yV,<-yW] at e2 ⊢
 omega
theorem pK {b:Nat}{l y:List Nat}{k j m c c' s X:Nat}(hi:k+j<l.length)(inv:ak b l+b^(k+j)*c=X+b^k*(m*ak b (y.take j)))(e:s+b*c'=l.getD (k+j) 0+m*y.getD j 0+c) :
  ak b (l.set (k+j) s)+b^(k+(j+1))*c'=X+b^k*(m*ak b (y.take (j+1))):=by
 have h1:=cV b s hi;rw[a7,<-xf,yS];have a:b^(k+j)=b^k*b^j:=y8 _ _ _;have e2:b^(k+j)*(s+b*c')=b^(k+j)*(l.getD (k+j) 0+m*y.getD j 0+c):=by rw[e]
 have d:b^k*(m*(ak b (y.take j)+b^j*y.getD j 0))=b^k*(m*ak b (y.take j))+b^(k+j)*(m*y.getD j 0):=by
  rw[a,yV,yV,<-yW m,yT m (b^j),yW (b^j),<-yW (b^k) (b^j)]
 rw[d]
 generalize b^(k+j)=P at *
 generalize ak b (l.set (k+j) s)=S at *
 generalize b^k*(m*ak b (y.take j))=Y at *
 simp only[yV,<-yW] at e2 ⊢
 omega
theorem x7 {b:Nat}{l y:List Nat}{k m c X:Nat}(hi:k+y.length<l.length)(inv:ak b l+b^(k+y.length)*c=X+b^k*(m*ak b (y.take y.length)))(h0:l.getD (k+y.length) 0=0) :
  ak b (l.set (k+y.length) c)=X+b^k*(m*ak b y):=by
 have h1:=cV b c hi;rw[yd] at inv
 rw[h0] at h1
 omega
theorem Bq {b:Nat}{x:List Nat}{i X Y:Nat}(h:X=ak b (x.take i)*Y):X+b^i*(x.getD i 0*Y)=ak b (x.take (i+1))*Y:=by
 rw[a7,z7,h,yW]
theorem Bu {b:Nat}{l:List Nat}{i d r a q X:Nat}(hi:i<l.length)(inv:X=d*(b^(i+1)*ak b (l.drop (i+1)))+(b^(i+1)*r+ak b (l.take (i+1))))(e:r*b+l.getD i 0=d*q+a) :
  X=d*(b^i*ak b ((l.set i q).drop i))+(b^i*a+ak b ((l.set i q).take i)):=by
 have e1:(l.set i q).take i=l.take i:=by rw[List.take_set_of_le (ep _)]
 have e2:ak b ((l.set i q).drop i)=q+b*ak b (l.drop (i+1)):=by
  rw[e9 b (by simpa using hi),bG hi,if_pos rfl,List.drop_set_of_lt oM]
 rw[e1,e2,inv,aZ b hi,yS];have f:b^i*(r*b+l.getD i 0)=b^i*(d*q+a):=by rw[e]
 have c:d*(b^i*(q+b*ak b (l.drop (i+1))))=b^i*(d*q)+d*(b^i*b*ak b (l.drop (i+1))):=by
  rw[yV,yV,<-yW (b^i) b,Nat.mul_left_comm d (b^i) q]
 have h:b^i*b*r=b^i*(r*b):=by rw[yW,yT b r]
 rw[c,h]
 simp only[yV] at f
 omega
theorem Bg {b:Nat}{u v:List Nat}{j i G c c' a bo' t s X:Nat}(hi:j+i<u.length)(inv:ak b u+b^j*(G*ak b (v.take i))=X+b^(j+i)*(c+a))(e1:t+b*c'=G*v.getD i 0+c)(e2:s+t+a=u.getD (j+i) 0+b*bo') :
  ak b (u.set (j+i) s)+b^j*(G*ak b (v.take (i+1)))=X+b^(j+(i+1))*(c'+bo'):=by
 have h1:=cV b s hi;rw[a7,<-xf,yS];have f:b^(j+i)=b^j*b^i:=y8 _ _ _
 have d:b^j*(G*(ak b (v.take i)+b^i*v.getD i 0))=b^j*(G*ak b (v.take i))+b^(j+i)*(G*v.getD i 0):=by
  rw[f,yV,yV,<-yW G,yT G (b^i),yW (b^i),<-yW (b^j) (b^i)]
 rw[d];have h:b^(j+i)*(t+b*c')=b^(j+i)*(G*v.getD i 0+c):=by rw[e1]
 have e:b^(j+i)*(s+t+a)=b^(j+i)*(u.getD (j+i) 0+b*bo'):=by rw[e2]
 generalize b^(j+i)=P at *
 generalize ak b (u.set (j+i) s)=S at *
 generalize b^j*(G*ak b (v.take i))=Y at *
 simp only[yV,<-yW] at h e inv ⊢
 omega
theorem Et {b:Nat}{u v:List Nat}{j G c a bo' s X:Nat}(hi:j+v.length<u.length)(inv:ak b u+b^j*(G*ak b (v.take v.length))=X+b^(j+v.length)*(c+a))(e2:s+c+a=u.getD (j+v.length) 0+b*bo') :
  ak b (u.set (j+v.length) s)+b^j*(G*ak b v)=X+b^(j+v.length+1)*bo':=by
 have h1:=cV b s hi;rw[yd] at inv
 rw[yS];have d:b^(j+v.length)*(s+c+a)=b^(j+v.length)*(u.getD (j+v.length) 0+b*bo'):=by rw[e2]
 generalize b^(j+v.length)=P at *
 generalize ak b (u.set (j+v.length) s)=S at *
 generalize b^j*(G*ak b v)=Y at *
 simp only[yV,<-yW] at d inv ⊢
 omega
theorem AJ {b:Nat}{u v:List Nat}{j i c c' s X:Nat}(hi:j+i<u.length)(inv:ak b u+b^(j+i)*c=X+b^j*ak b (v.take i))(e:s+b*c'=u.getD (j+i) 0+v.getD i 0+c) :
  ak b (u.set (j+i) s)+b^(j+(i+1))*c'=X+b^j*ak b (v.take (i+1)):=by
 have:=pK (b:=b) (l:=u) (y:=v) (k:=j) (j:=i) (m:=1) (c:=c) (c':=c') (s:=s) (X:=X) hi (by rw[Ab];exact inv) (by rw[Ab];exact e);rw[Ab] at this
 exact this
theorem Ew {b:Nat}{u v:List Nat}{j c c' s X:Nat}(hi:j+v.length<u.length)(inv:ak b u+b^(j+v.length)*c=X+b^j*ak b (v.take v.length))(e:s+b*c'=u.getD (j+v.length) 0+c) :
  ak b (u.set (j+v.length) s)+b^(j+v.length+1)*c'=X+b^j*ak b v:=by
 have h1:=cV b s hi;rw[yd] at inv
 rw[yS];have a:b^(j+v.length)*(s+b*c')=b^(j+v.length)*(u.getD (j+v.length) 0+c):=by rw[e]
 generalize b^(j+v.length)=P at *
 generalize ak b (u.set (j+v.length) s)=S at *
 generalize b^j*ak b v=Y at *
 simp only[yV,<-yW] at a inv ⊢
 omega
def Above (u u0:List Nat)(k:Nat):Prop:=u.length=u0.length/\∀ i,k<=i->u.getD i 0=u0.getD i 0
theorem Above.refl (u:List Nat)(k:Nat):Above u u k:=⟨rfl,fun _ _=>rfl⟩
theorem Above.set {u a:List Nat}{k i x:Nat}(h:Above u a k)(hi:i<k)(b:i<u.length):Above (u.set i x) a k:=⟨by rw[List.length_set];exact h.1,fun j c=>by rw[bG b,if_neg oM];exact h.2 j c⟩
theorem jl {b:Nat}(hb:0<b){u a:List Nat}{k:Nat}(h:Above u a k)(d:Dg b u)(c:Dg b a)(hk:k<=u.length)(h0:ak b a<b^k):ak b u<b^k:=by
 have e:=bT b hk;have h1:=ci (d.take k);rw[yY,yZ hk] at h1
 have hz:ak b (u.drop k)=0:=gu b (fun i=>by
  rw[bF,h.2 _ oM];exact (ib b (l:=a) (k:=k) (m:=0) (by rw[<-h.1];exact hk) hb c h0).2 _ oM)
 rw[hz] at e
 omega
theorem jQ {b n j R v c G f:Nat}(hb:2<=b)(D:2<=n)(i:b^(n-1)<=v)(d:v<b^n)(hR:R<b^(j+1)*v)(x:c<b^(j+n+1))(e:c+b^j*(G*v)=R+b^(j+n+1)*f)(B:f<=1)
    (H:R/(b^j*v)<=G/\G<=R/(b^j*v)+1) :
    (f=0->G=R/(b^j*v)/\c=R-b^j*(G*v)/\c<b^j*v/\b^j*(G*v)<=R)/\(f=1->G=R/(b^j*v)+1/\c+b^j*v=(R-b^j*((G-1)*v))+b^(j+n+1)/\R-b^j*((G-1)*v)<b^j*v/\b^j*((G-1)*v)<=R):=by
  have p:0<b^j:=zW oM;have l:0<v:=ey (zW oM) i;have y:0<b^j*v:=Nat.mul_pos p l;have eq:∀ g,b^j*(g*v)=g*(b^j*v):=fun g=>by rw[<-yW,yT (b^j) g,yW]
  have o:=Af R (b^j*v);have z:=ys R y;rw[yT] at o
  rw[eq] at e
  have u:b^j*v<b^(j+n+1):=by
    have h1:b^j*v<b^j*b^n:=z1 d p;rw[<-y8] at h1
    have F:b^(j+n)<=b^(j+n+1):=y6 oM oM
    omega
  have C:R<b^(j+n+1):=by
    have h1:b^(j+1)*v<b^(j+1)*b^n:=z1 d (zW oM);rw[<-y8,show j+1+n=j+n+1 by omega] at h1
    omega
  generalize b^(j+n+1)=T at *
  generalize hWe:b^j*v=W at *
  generalize hQ:R/W=Q at *
  refine ⟨fun h=>?_,fun h=>?_⟩
  . subst h
    rw[eq]
    have a:G=Q:=by
      rcases eb Q G with h1|h1
      . exfalso
        have:G=Q+1:=by omega
        subst this;rw[z7] at e
        omega
      . omega
    subst a
    omega
  . subst h
    have a:G=Q+1:=by
      rcases eb Q G with h1|h1
      . omega
      . exfalso
        have:G=Q:=by omega
        subst this
        omega
    subst a;rw[eq,Nat.add_sub_cancel];rw[z7] at e
    omega
theorem ui {b n j G:Nat}{u v:List Nat}(hb:2<=b)(L:2<=n)(J:v.length=n)(i:Dg b v)(o:Dg b u)(M:j+n<u.length)(F:v.getD (n-1) 0≠0)(hR:ak b u<b^(j+1)*ak b v)
  (K:G*(v.getD (n-1) 0*b+v.getD (n-2) 0)<=u.getD (j+n) 0*b*b+u.getD (j+n-1) 0*b+u.getD (j+n-2) 0)
  (z:G+1=b\/u.getD (j+n) 0*b*b+u.getD (j+n-1) 0*b+u.getD (j+n-2) 0<(G+1)*(v.getD (n-1) 0*b+v.getD (n-2) 0))(x:G<b) :
  ak b u/(b^j*ak b v)<=G/\G<=ak b u/(b^j*ak b v)+1:=by
 have e:=ci i;rw[J] at e
 have D:0<b^(j+n-2):=zW oM
 have y:ak b u<b^(j+n-2+3):=by
  have h1:b^(j+1)*ak b v<b^(j+1)*b^n:=z1 e (zW oM);rw[<-y8,show j+1+n=j+n-2+3 by omega] at h1
  omega
 have c:∀ {l:List Nat} {k:Nat},k+3<=l.length->ak b ((l.drop k).take 3)=l.getD (k+2) 0*b*b+l.getD (k+1) 0*b+l.getD k 0:=fun {l k} hk=>by
  rw[a7,a7,a7,bF,bF,bF]
  simp[ak,yS]
  rw[yT b (l[k+1]?.getD 0),yT (b*b) (l[k+2]?.getD 0),yW]
  omega
 have two:∀ {l:List Nat} {k:Nat},k+2<=l.length->ak b ((l.drop k).take 2)=l.getD (k+1) 0*b+l.getD k 0:=fun {l k} hk=>by
  rw[a7,a7,bF,bF]
  simp[ak]
  rw[yT b (l[k+1]?.getD 0)]
  omega
 have B:=(ib b (l:=u) (k:=j+n-2) (m:=3) oM oM o y).1;have I:=(ib b (l:=v) (k:=n-2) (m:=2) oM oM i (by rw[show n-2+2=n by omega];exact e)).1;rw[c oM,show j+n-2+2=j+n by omega,show j+n-2+1=j+n-1 by omega] at B
 rw[two oM,show n-2+1=n-1 by omega] at I
 have a:b^(j+n-2)=b^j*b^(n-2):=by rw[<-y8];congr 1;omega
 have p:0<b^(n-2):=zW oM;have f:=Af (ak b u) (b^(j+n-2));have H:=ys (ak b u) D;have h:=Af (ak b v) (b^(n-2));have C:=ys (ak b v) p;rw[B] at f
 rw[I] at h
 have d:b^(n-1)<=ak b v:=by
  have:=aZ b (l:=v) (k:=n-1) oM;rw[show n-1+1=v.length by omega,yd] at this
  have O:b^(n-1)*1<=b^(n-1)*v.getD (n-1) 0:=y9 _ oM
  omega
 generalize hU:u.getD (j+n) 0*b*b+u.getD (j+n-1) 0*b+u.getD (j+n-2) 0=U at *
 generalize hV:v.getD (n-1) 0*b+v.getD (n-2) 0=V at *
 generalize ak b u%b^(j+n-2)=mu at *
 generalize ak b v%b^(n-2)=mv at *
 refine xe (b:=b) (P:=b^(j+n-2)) (U:=U) (V:=V) D ?_ ?_ ?_ ?_ ?_ ?_ K z x
 ·rw[yT];omega
 ·rw[z7,Ab,yT U];omega
 ·rw[a,yT V,yW]
  exact y9 _ oM
 ·rw[a,yT (V+1),yW,yV,z2]
  exact z1 oM (zW oM)
 ·rw[a,yT b (b^j*b^(n-2)),yW]
  refine y9 _ ?_;rw[<-yS,show (n-2).succ=n-1 by omega];exact d
 ·rw[yS] at hR
  rw[<-yW,yT b (b^j)];exact hR
def aU (s:ByteArray)(i:Nat):Nat:=(s.data.toList.getD i 0).toNat
theorem cM (s:ByteArray)(i:Nat):aU s i<256:=UInt8.toNat_lt _
def wv (s:ByteArray):Nat:=aU s 0+aU s 1*256+aU s 2*65536+aU s 3*16777216+aU s 4*4294967296+aU s 5*1099511627776+aU s 6*281474976710656+aU s 7*72057594037927936
theorem Dq (s:ByteArray):wv s<18446744073709551616:=by
 have h0:=cM s 0;have h1:=cM s 1;have e:=cM s 2;have c:=cM s 3;have d:=cM s 4;have b:=cM s 5;have a:=cM s 6;have f:=cM s 7
 unfold wv;omega
section ops
variable {P:Program}{Γ:ck}{o:Oper}
theorem eg {tx:TypeId}{x i:Operand}{k:IntKind}{s:ByteArray}{n:Nat}{j:Int}(f:o.op=.index tx x i)(d:ev Γ x=.string s)(hi:ev Γ i=.int k j)(c:P.underlying tx=some .string)(e:j=(n:Int))(b:n<s.size)(w:World) :
  (execOp (ev Γ) o).run P w=.ok (.value (.int .u8 (aU s n:Nat))) w:=by
 unfold execOp;simp only[f];rw[d,hi,e]
 have h0:(0:Int)<=(n:Int):=Int.natCast_nonneg n;have a:n<s.data.size:=b
 have h1:s[n]?=some (s.data.toList.getD n 0):=by
  simp[b,a,ByteArray.getElem_eq_getElem_data]
 simp[Instr.index,asIntOf,run_underlying c,h1,aU,Result.andThen]
theorem pA {tx:TypeId}{x i:Operand}{k:IntKind}{s:ByteArray}{n:Nat}{j:Int}(d:o.op=.slice tx x (some i) none none)(b:ev Γ x=.string s)(hi:ev Γ i=.int k j)(a:P.underlying tx=some .string)(c:j=(n:Int))(e:n<=s.size)(w:World) :
  (execOp (ev Γ) o).run P w=.ok (.value (.string (s.extract n s.size))) w:=by
 unfold execOp;simp only[d]
 subst c;have h0:(n:Int)<=(s.size:Int):=by omega
 simp[Instr.sliceAt,b,hi,Instr.slice,run_underlying a,Instr.sliceBounds,Instr.sliceBound,asIntOf,Result.andThen,h0,e]
theorem ig {t u:TypeId}{x y:Operand}{ky:IntKind}{a n:Nat}(d:o.op=.binOp .shl t x y u)(b:ev Γ x=.int .u64 (a:Int))(c:ev Γ y=.int ky (n:Int))(w:World) :
    (execOp (ev Γ) o).run P w=.ok (.value (.int .u64 ((a*2^n%18446744073709551616:Nat):Int))) w:=by
  unfold execOp;simp only[d];rw[b,c]
  have hz:¬((n:Int)<0):=by omega
  have e:IntKind.wrap .u64 ((a:Int)*2^(min n IntKind.u64.bits))=((a*2^n%18446744073709551616:Nat):Int):=by
    have e1:(a:Int)*2^(min n IntKind.u64.bits)=((a*2^(min n 64):Nat):Int):=by
      rw[show IntKind.u64.bits=64 from rfl];push_cast;rfl
    rw[e1,vr]
    rcases eb n 64 with h|h
    . rw[yZ oM]
    . rw[Ag h]
      have e2:(2:Nat)^n=18446744073709551616*2^(n-64):=by
        rw[show (18446744073709551616:Nat)=2^64 from rfl,<-y8];congr 1;omega
      have f:a*2^n%18446744073709551616=0:=by rw[e2,<-yW,yT a,yW,Nat.mul_mod_right]
      rw[f,show (2:Nat)^64=18446744073709551616 from rfl,zZ]
  simp[binOp,eqGuard,Op.shift,Result.andThen,hz,e]
theorem gm {t u:TypeId}{x y:Operand}{ky:IntKind}{a n:Nat}(f:o.op=.binOp .shr t x y u)(b:ev Γ x=.int .u64 (a:Int))(d:ev Γ y=.int ky (n:Int))(ha:a<18446744073709551616)(w:World) :
  (execOp (ev Γ) o).run P w=.ok (.value (.int .u64 ((a/2^n:Nat):Int))) w:=by
 unfold execOp;simp only[f];rw[b,d]
 have hz:¬((n:Int)<0):=by omega
 have c:(0:Int)<=2^(min n IntKind.u64.bits):=yO kD
 have e:(a:Int)/2^(min n IntKind.u64.bits)=((a/2^n:Nat):Int):=by
  have e1:(a:Int)/2^(min n IntKind.u64.bits)=((a/2^(min n 64):Nat):Int):=by
   rw[show IntKind.u64.bits=64 from rfl];push_cast;rfl
  rw[e1]
  rcases eb n 64 with h|h
  ·rw[yZ oM]
  ·have h1:(2:Nat)^64<=2^n:=y6 oM h
   rw[Ag h,yQ oM,yQ oM]
 simp[binOp,eqGuard,Op.shift,Result.andThen,hz,yK _ c,e]
theorem xj {t u:TypeId}{x y:Operand}{a:Nat}{m:Int}(p:Nat)(d:o.op=.binOp .and t x y u)(b:ev Γ x=.int .u64 (a:Int))(c:ev Γ y=.int .u64 m)(ha:a<18446744073709551616)(hm:p<=64/\m=((2^p-1:Nat):Int))(w:World) :
  (execOp (ev Γ) o).run P w=.ok (.value (.int .u64 ((a%2^p:Nat):Int))) w:=by
 unfold execOp;simp only[d];rw[b,c,hm.2]
 have hb:(2^p-1:Nat)<2^64:=by
  have:(2:Nat)^p<=2^64:=y6 oM hm.1;have:=y5 p
  omega
 have e:bits .and .u64 (a:Int) ((2^p-1:Nat):Int)=((a%2^p:Nat):Int):=by
  unfold bits
  have h1:(BitVec.ofInt 64 (a:Int) &&& BitVec.ofInt 64 ((2^p-1:Nat):Int)).toNat=a%2^p:=by
   rw[BitVec.toNat_and,<-Nat.and_two_pow_sub_one_eq_mod]
   congr 1
   ·simp[BitVec.toNat_ofInt];omega
   ·rw[BitVec.toNat_ofInt,<-Int.natCast_emod,yt,yr hb]
  show IntKind.wrap .u64 (((BitVec.ofInt 64 (a:Int) &&& BitVec.ofInt 64 ((2^p-1:Nat):Int)).toNat:Nat):Int)=_
  rw[h1,vr];have:a%2^p<=a:=Nat.mod_le _ _;rw[yr oM]
 simp[binOp,eqGuard,Result.andThen,intBits_and,e]
end ops
theorem uY (a b:Nat):IntKind.wrap .u64 ((a:Int)+(b:Int))=(((a+b)%18446744073709551616:Nat):Int):=by rw[IntKind.wrap_u64];omega
theorem C8 (a b:Nat)(h:b<=18446744073709551616):IntKind.wrap .u64 ((a:Int)-(b:Int))=(((a+(18446744073709551616-b))%18446744073709551616:Nat):Int):=by rw[IntKind.wrap_u64];omega
theorem mn (a b:Nat):IntKind.wrap .u64 ((a:Int)*(b:Int))=((a*b%18446744073709551616:Nat):Int):=by
 rw[<-Int.natCast_mul,vr]
theorem k9 (a b:Nat)(h:a*b<18446744073709551616):IntKind.wrap .u64 ((a:Int)*(b:Int))=((a*b:Nat):Int):=by rw[mn,yr h]
theorem gd (a b:Nat)(h:b<=a)(ha:a<18446744073709551616):IntKind.wrap .u64 ((a:Int)-(b:Int))=((a-b:Nat):Int):=by rw[IntKind.wrap_u64];omega
theorem iM (a b:Nat)(h:a+b<18446744073709551616):IntKind.wrap .u64 ((a:Int)+(b:Int))=((a+b:Nat):Int):=by rw[IntKind.wrap_u64];omega
theorem jJ {s:ByteArray}(h:s=⟨#[]⟩):(s.toList == (⟨#[]⟩:ByteArray).toList)=true:=by rw[h,Lib.toList_data];rfl
theorem mA {s:ByteArray}(h:s.size≠0):s.data.toList≠[]:=fun e=>h (by
 have:s.data.size=s.data.toList.length:=by simp
 show s.data.size=0
 rw[this,e];rfl)
theorem iF {s:ByteArray}(h:s.size≠0):(s.toList == (⟨#[]⟩:ByteArray).toList)=false:=by
 rw[Lib.toList_data,Lib.toList_data];have:=mA h;cases e:s.data.toList with
 | nil=>exact absurd e this
 | cons a l=>rfl
theorem GS {s:ByteArray}(h:s=⟨#[]⟩):(!(s.toList == (⟨#[]⟩:ByteArray).toList))=false:=by rw[jJ h];rfl
theorem FW {s:ByteArray}(h:s.size≠0):(!(s.toList == (⟨#[]⟩:ByteArray).toList))=true:=by rw[iF h];rfl
theorem oN (s:ByteArray)(k i:Nat):aU (s.extract k s.size) i=aU s (k+i):=by
 unfold aU
 rw[Lib.extract_to_end]
 simp only[zY,ws]
def pS (s t:ByteArray):Bool:=s.toList == t.toList
def oJ (s t:ByteArray):Bool:=!(s.toList == t.toList)
theorem od {s t:ByteArray}(h:pS s t=true):s=t:=by
 have e:=eq_of_beq (show (s.toList == t.toList)=true from h);rw[Lib.toList_data,Lib.toList_data] at e
 cases s;cases t;congr 1;exact Array.toList_inj.1 e
theorem nz {s t:ByteArray}(h:pS s t=false):¬s=t:=fun e=>by
 subst e;have:pS s s=true:=beq_self_eq_true _;rw[this] at h;cases h
theorem BB {s t:ByteArray}(h:oJ s t=true):¬s=t:=nz (by unfold oJ at h;unfold pS;cases e:(s.toList == t.toList)<;>rw[e] at h<;>first|rfl|cases h)
theorem B9 {s t:ByteArray}(h:oJ s t=false):s=t:=od (by unfold oJ at h;unfold pS;cases e:(s.toList == t.toList)<;>rw[e] at h<;>first|rfl|cases h)
def wds (n:Nat):List Nat:=ja 18446744073709551616 n
def aF (l:List Nat):Nat:=ak 18446744073709551616 l
def Wd (l:List Nat):Prop:=Dg 18446744073709551616 l
theorem ay (n:Nat):aF (wds n)=n:=mg kD n
theorem Wd.wds (n:Nat):Wd (wds n):=xw kD n
theorem Wd.get {l:List Nat}(h:Wd l)(k:Nat):l.getD k 0<18446744073709551616:=Dg.getD h kD k
theorem wM {p : Prop} (h : p := by first | omega | exact Wd.get (by assumption) _ | exact Dq _) : p := h
end Go.Proofs.YtpnchlalmgmkeaaGreatDoor
