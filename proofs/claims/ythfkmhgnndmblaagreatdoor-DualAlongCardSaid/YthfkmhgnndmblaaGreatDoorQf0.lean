/- Laws of this claim, part 1. -/
import Derived.Below
import Derived.WalkKit
import Derived.Lib.Hide
import Derived.Deep.Draws
import Derived.Orders
import Derived.OrdersHeld
import Derived.KernelRfl
import Derived.Laws.MakeOwn
import Derived.Maps.AppendAt
import Derived.Test.YthfkmhgnndmblaaGreatDoorProg
import Derived.Lib.IndexBytes
import Derived.Lib.Builder
import Derived.Lib.UnsafeStr
import Derived.Test.YthfkmhgnndmblaaGreatDoorShelf
import Derived.Shelf.Spec.BitsCarry
import Derived.Lib.BitFns
import Derived.Laws.CopyRow
import Derived.Shelf.Strings.Builder1
import Derived.Shelf.Strings.Builder2
import Derived.Lib.TrailingZeros
import Derived.Laws.Bits64b
import Derived.WideMake
import Derived.ArgAppend
import Derived.Deep.Upon
import Derived.Shelf.SortM.Walk0sIn
import Derived.DeepKeys5
import Derived.StringKeys
import Derived.Shelf.SlIter.Nil
import Derived.Shelf.SortM.Plain
import Derived.Shelf.SortM.SortNone
import Derived.RangeFuncBox
import Derived.OwnWalkIn
import Derived.TacticsInMore
import Derived.LoopNIn
import Derived.LoopIn
import Derived.Sort.KeysCollected
set_option maxRecDepth 100000
set_option maxHeartbeats 4000000
namespace Go.Proofs.YthfkmhgnndmblaaGreatDoor
open _root_.Array renaming all_eq_true_iff_forall_mem -> na, any_eq_true -> po, getD -> gg, getElem?_append_left -> ta, getElem?_append_right -> z8, getElem?_eq_getElem -> e6, getElem?_eq_none -> ea, getElem?_eq_some_iff -> hO, getElem?_extract -> Am, getElem?_push_lt -> e5, getElem?_push_size -> fo, getElem?_replicate -> Ab, getElem?_setIfInBounds_ne -> i2, getElem?_setIfInBounds_self_of_lt -> As, getElem_mem -> ri, mapM_eq_mapM_toList -> v6, replicate -> s3, setIfInBounds_comm -> gq
open Bool renaming and_eq_true -> i3, false_eq_true -> sb, not_true -> sr, or_eq_true -> pa
open Int renaming fdiv_eq_ediv_of_nonneg -> D2, pow_nonneg -> Gx, tdiv -> Ft, toNat_natCast -> z6
open List renaming all_cons -> um, all_eq_true -> oi, any_eq_true -> sc, cons_append -> H1, drop_eq_getElem_cons -> Lx, drop_sublist -> zy, drop_zero -> yh, eq_nil_of_length_eq_zero -> y6, eraseIdx_sublist -> A7, ext_getElem? -> tv, flatMap_cons -> wi, getD_cons_succ -> yY, getD_eq_getElem?_getD -> LM, getElem?_append_left -> uA, getElem?_append_right -> vj, getElem?_drop -> vi, getElem?_eq_none -> s9, getElem?_set_ne -> tz, getElem?_set_self -> tw, getElem?_take_of_lt -> u9, getElem_eraseIdx -> Aw, getElem_inj -> ul, getElem_map -> ub, getElem_mem -> gp, getElem_set_ne -> Bs, getElem_set_self -> Dw, length_append -> y4, length_cons -> tq, length_eraseIdx_of_lt -> AS, length_take -> Lu, lookup_cons -> hP, mapM_cons -> vl, map_cons -> Af, map_set -> tu, mem_append -> gs, mem_cons -> g2, mem_iff_getElem -> ua, mem_map -> gx, mem_of_mem_drop -> zh, mem_of_mem_eraseIdx -> A6, mem_of_mem_take -> LF, mem_range -> o0, mem_singleton -> sy, nodup_cons -> g3, pairwise_iff_getElem -> A9, perm_middle -> g1, range -> ov, range' -> sA, range'_succ -> s0, range_eq_range' -> s5, replicate -> zY, replicate_succ -> zZ, set_cons_succ -> y7, take_add_one -> Lt, take_append_drop -> LI, take_append_of_le_length -> yy, take_length -> yz, take_of_length_le -> LU
open Nat renaming add_assoc -> v7, add_comm -> y3, add_mul -> LS, add_mul_div_left -> LJ, add_zero -> wj, div_add_mod -> LX, div_div_eq_div_mul -> LL, div_eq_of_lt -> G3, div_le_self -> Gb, div_lt_of_lt_mul -> Hi, div_lt_self -> LR, eq_zero_or_pos -> Au, le_of_ble_eq_true -> D1, le_refl -> eb, le_trans -> ep, log2_eq_iff -> Ly, lt_of_le_of_lt -> Ga, lt_of_lt_of_le -> e4, lt_or_ge -> dS, min_eq_left -> Lv, min_eq_right -> LY, mod_eq_of_lt -> z1, mod_lt -> z2, mul_add -> Lr, mul_assoc -> Ls, mul_comm -> HA, mul_le_mul_left -> LD, mul_le_mul_right -> y9, mul_lt_mul_of_pos_left -> LO, mul_mod_left -> LN, mul_one -> LP, mul_zero -> Lw, one_mul -> LW, or_lt_two_pow -> G1, pow_add -> LC, pow_le_pow_right -> LA, pow_mul -> LH, pow_pos -> LK, pow_succ -> Hj, pow_succ' -> LB, strongRecOn -> g4, sub_self -> tf, succ_mul -> yZ, two_pow_pos -> Lz, zero_add -> y8, zero_mul -> y5
open Option renaming isSome_iff_exists -> la, map_eq_none_iff -> D0, map_eq_some_iff -> ti, map_none -> z7, map_some -> tj
abbrev Z9:=Option Addr
theorem kD {p : Prop} (h : p := by decide) : p := h
theorem oM {p : Prop} (h : p := by omega) : p := h
theorem kR {p : Prop} (h : p := by kernel_rfl) : p := h
theorem aM {p : Prop} (h : p := by assumption) : p := h
theorem cX {p : Prop} (h : p := by first | assumption | omega) : p := h
theorem sM {p : Prop} (h : p := by first | omega | (simp; done) | (simp; omega)) : p := h
theorem oT {p : Prop} [Decidable p] (h : decide p = true) : p := of_decide_eq_true h
theorem oF {p : Prop} [Decidable p] (h : decide p = false) : ¬p := of_decide_eq_false h
theorem dT {p : Prop} [Decidable p] (h : p) : decide p = true /\ p := ⟨decide_eq_true h, h⟩
theorem dF {p : Prop} [Decidable p] (h : ¬p) : decide p = false /\ ¬p := ⟨decide_eq_false h, h⟩
open Go.RowKit
abbrev pB (b:Nat):Value:=.pointer (some ⟨b,0,none⟩)
abbrev qP (b o:Nat):Value:=.pointer (some ⟨b,o,none⟩)
abbrev qT:Value:=.bool true
abbrev qF:Value:=.bool false
abbrev qS (A:Z9)(n c:Nat):Value:=.slice A n c
abbrev sZ:Value:=.slice none 0 0
abbrev eS:Value:=.string ⟨#[]⟩
abbrev sB (b:Nat):Z9:=some ⟨b,0,none⟩
abbrev iV (n:Int):Value:=.int .i64 n
abbrev uV (n:Int):Value:=.int .u64 n
abbrev a6:List Value:=[qF,uV 0,eS,uV 0,eS]
abbrev a7:List Value:=[iV 0,iV 0,qF,uV 0,eS,uV 0,eS,eS,sZ]
abbrev ca:Value:=.agg #[qF,uV 0,eS,uV 0,eS]
abbrev cA:List Value:=[qF,sZ,sZ]
abbrev cD:List ByteArray:=[⟨#[120]⟩,⟨#[121]⟩,⟨#[122]⟩]
abbrev uW (n:Int):Value:=.int .u32 n
abbrev nV (n:Nat):Value:=.int .i64 (n:Int)
abbrev mV (n:Nat):Value:=.int .u64 (n:Int)
abbrev mW (n:Nat):Value:=.int .u32 (n:Int)
def Ext (w w':World):Prop:=Below w.heap.size w w'
theorem Ext.refl (w:World):Ext w w:=Below.refl _ _
theorem Ext.trans {a b c:World}(h:Ext a b)(k:Ext b c):Ext a c:=Below.trans h (Below.mono k h.size)
theorem Ext.alloc {a w:World}(h:Ext a w)(o:Obj):Ext a (w.alloc o):=Below.alloc h h.size o
theorem Ext.drew {a w:World}(h:Ext a w):Ext a w.drew:=Below.drew h
theorem Ext.size {a w:World}(h:Ext a w):a.heap.size<=w.heap.size:=Below.size h
theorem Ext.cell {a w:World}(h:Ext a w){p:Addr}(b:p.block<a.heap.size):w.cell? p=a.cell? p:=Below.cell h b
theorem Ext.some {a w:World}(h:Ext a w){p:Addr}{v:Value}(b:a.cell? p=.some v):w.cell? p=.some v:=by
 rcases dS p.block a.heap.size with hl|hl
 ·rw[h.cell hl];exact b
 ·unfold World.cell? at b
  rw[ea hl] at b
  cases b
def af (z:Int):Bool:=decide (z<0)
def ab (z:Int):Nat:=z.natAbs
def qd (q:Rat):Nat:=if q.den=1 then 0 else q.den
def bB (neg:Bool)(a:Nat):Int:=if neg then -(a:Int) else a
theorem jM (neg:Bool)(a:Nat):af (bB neg a)=(neg && decide (0<a)):=by cases neg<;>simp[af,bB]<;>omega
theorem ft (neg:Bool)(a:Nat):ab (bB neg a)=a:=by cases neg<;>simp[ab,bB]
theorem ml (z:Int):bB (af z) (ab z)=z:=by unfold bB af ab;by_cases h:z<0<;>simp[h]<;>omega
theorem kW (z:Int):bB (!af z) (ab z) = -z:=by unfold bB af ab;by_cases h:z<0<;>simp[h]<;>omega
theorem bj {z:Int}(h:af z=true):z<0:=by simpa [af] using h
theorem a8 {z:Int}(h:af z=false):0<=z:=by simpa [af] using h
abbrev Hp:=Array Obj
def be:Obj:=.cells #[] 0 (0,0)
structure G (w:World) (h:Hp):Prop where
  size:w.heap.size=h.size
  blk:∀ b:Nat,h[b]?=w.heap[b]?\/h[b]?=some be
structure Gr (h h':Hp):Prop where
  size:h.size<=h'.size
  blk:∀ b:Nat,b<h.size->h'[b]?=h[b]?
structure Up (w:World) (h:Hp) (w':World) (h':Hp):Prop where
  ext:Ext w w'
  gr:Gr h h'
  g:G w' h'
theorem Gr.refl (h:Hp):Gr h h:=⟨eb _,fun _ _=>rfl⟩
theorem Gr.trans {a b c:Hp}(h:Gr a b)(k:Gr b c):Gr a c :=
 ⟨ep h.size k.size,fun x d=>(k.blk x (e4 d h.size)).trans (h.blk x d)⟩
theorem Gr.push (h:Hp)(o:Obj):Gr h (h.push o) :=
 ⟨by simp,fun b a=>by rw[e5 a];exact (e6 a).symm⟩
theorem Up.refl {w:World}{h:Hp}(g:G w h):Up w h w h:=⟨Ext.refl _,Gr.refl _,g⟩
theorem Up.trans {w w1 w2:World}{h h1 c:Hp}(a:Up w h w1 h1)(b:Up w1 h1 w2 c):Up w h w2 c:=⟨a.ext.trans b.ext,a.gr.trans b.gr,b.g⟩
theorem G.drew {w:World}{h:Hp}(g:G w h):G w.drew h:=⟨g.size,g.blk⟩
theorem Up.drew {w w1:World}{h h1:Hp}(a:Up w h w1 h1):Up w h w1.drew h1:=⟨a.ext.drew,a.gr,a.g.drew⟩
theorem heap_alloc (w:World)(o:Obj):(w.alloc o).heap=w.heap.push o:=rfl
theorem Up.allocAny {w:World}{h:Hp}(g:G w h)(o o':Obj)(a:o'=o\/o'=be):Up w h (w.alloc o) (h.push o'):=by
 refine ⟨(Ext.refl _).alloc _,Gr.push _ _,⟨by rw[heap_alloc];simp[g.size],fun b=>?_⟩⟩;rw[heap_alloc];have e:=g.size
 rcases Nat.lt_trichotomy b h.size with hb|hb|hb
 ·rw[e5 hb,e5 oM]
  have:=g.blk b
  rwa [e6 hb,e6 oM] at this
 ·subst hb
  rw[fo];have:(w.heap.push o)[h.size]?=some o:=by rw[<-e];exact fo
  rw[this]
  rcases a with rfl|rfl
  ·exact .inl rfl
  ·exact .inr rfl
 ·left
  rw[ea (by simp;omega),ea (by simp;omega)]
structure Mo (M:List Nat) (w w':World):Prop where
  os:w'.os=w.os
  tape:w'.tape=w.tape
  output:w'.output=w.output
  size:w.heap.size<=w'.heap.size
  blk:∀ b,b<w.heap.size->b ∉ M->w'.heap[b]?=w.heap[b]?
theorem Mo.refl (M:List Nat)(w:World):Mo M w w:=⟨rfl,rfl,rfl,eb _,fun _ _ _=>rfl⟩
theorem Mo.trans {M:List Nat}{a b c:World}(h:Mo M a b)(k:Mo M b c):Mo M a c :=
 ⟨k.os.trans h.os,k.tape.trans h.tape,k.output.trans h.output,ep h.size k.size,fun x d e=>(k.blk x (e4 d h.size) e).trans (h.blk x d e)⟩
theorem Ext.mo {a b:World}(h:Ext a b)(M:List Nat):Mo M a b:=⟨h.os,h.tape,h.output,h.size,fun x c _=>Below.block h x c⟩
theorem Mo.ext {a b:World}(h:Mo [] a b):Ext a b:=⟨h.os,h.tape,h.output,h.size,fun x c=>h.blk x c (by simp)⟩
structure UpM (M:List Nat) (w:World) (h:Hp) (w':World) (h':Hp):Prop where
  mo:Mo M w w'
  gr:Gr h h'
  g:G w' h'
theorem Up.m {w w':World}{h a:Hp}(u:Up w h w' a)(M:List Nat):UpM M w h w' a:=⟨u.ext.mo M,u.gr,u.g⟩
theorem UpM.refl {M:List Nat}{w:World}{h:Hp}(g:G w h):UpM M w h w h:=⟨Mo.refl _ _,Gr.refl _,g⟩
theorem UpM.trans {M:List Nat}{w w1 w2:World}{h h1 c:Hp}(a:UpM M w h w1 h1)(b:UpM M w1 h1 w2 c):UpM M w h w2 c:=⟨a.mo.trans b.mo,a.gr.trans b.gr,b.g⟩
structure Ms where
  l:List Nat
  z:Option (Nat × List Nat)
def Tl (M:Ms)(w w':World):Prop:=∀ K bs,M.z=some (K,bs)->w.heap.size<=w'.heap.size/\∀ b,b<K->b ∉ bs->w'.heap[b]?=w.heap[b]?
theorem Tl.refl (M:Ms)(w:World):Tl M w w:=fun _ _ _=>⟨eb _,fun _ _ _=>rfl⟩
theorem Tl.none {M:Ms}(h:M.z=none)(w w':World):Tl M w w':=fun _ _ e=>by rw[h] at e;cases e
def Rl (M:Ms)(k0 i:Nat)(w w':World):Prop:=(i<k0->Mo M.l w w')/\(k0<=i->Tl M w w')
theorem Rl.refl (M:Ms)(k0 i:Nat)(w:World):Rl M k0 i w w:=⟨fun _=>Mo.refl _ _,fun _=>Tl.refl _ _⟩
theorem Rl.mo {M:Ms}{k0 i:Nat}{w w':World}(h:i<k0)(m:Mo M.l w w'):Rl M k0 i w w':=⟨fun _=>m,fun hk=>absurd hk oM⟩
theorem Rl.tl {M:Ms}{k0 i:Nat}{w w':World}(h:k0<=i)(m:Tl M w w'):Rl M k0 i w w':=⟨fun hk=>absurd hk oM,fun _=>m⟩
section region
variable (M:Ms)(P:Program)(ops:Array Oper)(Q:Exit->Act->World->Prop)(k0:Nat)
def rW:Nat->Array Bool->Act->World->Prop
  | 0,L,a,w=>Region.ready .any ops L=[]/\Q .normal a w
  | n + 1,L,a,w=>(Region.ready .any ops L=[]->Q .normal a w) /\
      ∀ i∈Region.ready .any ops L,wpOp P ops Q i (fun a' w'=>Rl M k0 i w w'/\rW n (L.setIfInBounds i true) a' w') a w
theorem mL:∀ (n:Nat) (L:Array Bool) (a:Act) (w:World),rW M P ops Q k0 n L a w->wpAny P .any ops Q n L a w
 | 0,_,_,_,h=>h
 | n+1,_,_,_,h=>⟨h.1,fun i hi=>wpOp_mono (fun a' w' h'=>mL n _ a' w' h'.2) (h.2 i hi)⟩
def rem (L:Array Bool):Nat:=L.toList.count false
def A (L:Array Bool)(a:Act)(w:World):Prop:=rW M P ops Q k0 (rem L) L a w
variable {M P ops Q k0}
theorem HM {L:Array Bool}{i:Nat}(h:L.getD i true=false):∃ hi:i<L.size,L[i]=false:=by
 rcases dS i L.size with hi|hi
 ·exact ⟨hi,by simpa [gg,hi] using h⟩
 ·simp[gg,Nat.not_lt.2 hi] at h
theorem Du {L:Array Bool}{i:Nat}(h:L.getD i true=false):rem L=rem (L.setIfInBounds i true)+1:=by
 obtain ⟨hi,e⟩:=HM h
 unfold rem
 rw[Array.toList_setIfInBounds,List.count_set (by simpa using hi)];have a:L.toList[i]'(by simpa using hi)=false:=by simpa using e
 have b:0<L.toList.count false:=List.count_pos_iff.2 (by rw[<-a];exact gp _);rw[a,if_pos (by rfl),if_neg kD]
 omega
theorem fU {L:Array Bool}{i:Nat}(h:i∈Region.ready .any ops L):rem L=rem (L.setIfInBounds i true)+1:=Du (mem_ready.1 h).1
theorem A.intro {L:Array Bool}{a:Act}{w:World}(h0:Region.ready .any ops L=[]->Q .normal a w)
    (h1:∀ i∈Region.ready .any ops L,wpOp P ops Q i (fun a' w'=>Rl M k0 i w w'/\A M P ops Q k0 (L.setIfInBounds i true) a' w') a w):A M P ops Q k0 L a w:=by
  unfold A
  cases hn:rem L with
  | zero =>
    have hr:Region.ready .any ops L=[]:=by
      cases hr:Region.ready .any ops L with
      | nil=>rfl
      | cons i l =>
        have:=fU (ops:=ops) (L:=L) (i:=i) (by rw[hr];simp)
        omega
    exact ⟨hr,h0 hr⟩
  | succ n =>
    refine ⟨h0,fun i hi=>?_⟩;have e:=fU hi;have b:=h1 i hi
    unfold A at b
    have e2:rem (L.setIfInBounds i true)=n:=by omega
    rw[e2] at b
    exact b
theorem A.done {L:Array Bool}{a:Act}{w:World}(hr:(Region.ready .any ops L).isEmpty=true)(h:Q .normal a w):A M P ops Q k0 L a w:=by
 have b:Region.ready .any ops L=[]:=by simpa using hr
 exact A.intro (fun _=>h) (fun i hi=>by rw[b] at hi;cases hi)
theorem mN {i:Nat}{D:Oper}{v:Value}{S:World->Prop}(hi:ops[i]?=some D)(z:∀ (j:Nat) (o:Oper) cs b,ops[j]?=some o->o.op≠.select cs b)
    (hQ:∀ c a w,Q (.panic c) (a.put D.dst v) w->Q (.panic c) a w)(J:∀ w w',S w->Mo M.l w w'->S w') :
    ∀ (n:Nat) (L:Array Bool) (a:Act) (w:World),
      (∀ j d,ops[j]?=some d->j≠i->L.getD j true=false->(∀ e∈d.after,Region.binds .any e=true->e.on≠i)->D.apart ops d=true) ->
      ((∀ w,S w)\/(∀ w w',S w->Tl M w w'->S w')\/∀ j d,ops[j]?=some d->k0<=j->j≠i->∃ e∈d.after,Region.binds .any e=true/\e.on=i) ->
      i∈Region.ready .any ops L->YieldsIf P ops S D v a->S w ->
      rW M P ops Q k0 n (L.setIfInBounds i true) (a.put D.dst v) w->(i<k0)->rW M P ops Q k0 (n+1) L a w:=by
  intro n
  induction n with
  | zero =>
    intro L a w _ _ hr O F H _;refine ⟨fun h=>(by rw[h] at hr;cases hr),fun j V=>?_⟩
    by_cases hji:j=i
    . subst hji;exact O.wpOp hi F ⟨Rl.refl _ _ _ _,H⟩
    . have:=ready_mono V hji
      rw[H.1] at this
      cases this
  | succ n ih =>
    intro L a w f p hr O F H hk;refine ⟨fun h=>(by rw[h] at hr;cases hr),fun j V=>?_⟩
    by_cases hji:j=i
    . subst hji;exact O.wpOp hi F ⟨Rl.refl _ _ _ _,H⟩
    . have h1:=H.2 j (ready_mono V hji)
      obtain ⟨B,d,y,K⟩:=mem_ready.1 V
      have C:∀ e∈d.after,Region.binds .any e=true->e.on≠i:=fun e Z hb Y=>by
        have h1:=K e Z hb;have h0:=(mem_ready.1 hr).1;rw[Y] at h1
        obtain ⟨u,X⟩:=HM h0
        simp[gg,u,X] at h1
      have h2:=wpOp_putIf y (f j d y hji B C) (fun cs b=>z i D cs b hi) (fun cs b=>z j d cs b y) hQ O h1
      have x:∀ k ok,ops[k]?=some ok->k≠i->(L.setIfInBounds j true).getD k true=false ->
          (∀ e∈ok.after,Region.binds .any e=true->e.on≠i)->D.apart ops ok=true:=fun k ok hk hki I hno=>by
        refine f k ok hk hki ?_ hno
        by_cases hjk:j=k
        . subst hjk;exact B
        . rw[getD_set_ne true hjk] at I;exact I
      have hS':∀ w',Rl M k0 j w w'->S w':=fun w' W=>by
        rcases p with ht|ht|ht
        . exact ht w'
        . rcases dS j k0 with u|u
          . exact J _ _ F (W.1 u)
          . exact ht _ _ F (W.2 u)
        . rcases dS j k0 with u|u
          . exact J _ _ F (W.1 u)
          . obtain ⟨e,Z,hb,ho⟩:=ht j d y u hji
            exact absurd ho (C e Z hb)
      refine wpOp_mono (fun a' w' U=>⟨U.2.1,ih (L.setIfInBounds j true) a' w' x p (ready_mono hr (Ne.symm hji)) U.1 (hS' w' U.2.1) ?_ hk⟩) h2;rw[gq _ _ hji];exact U.2.2
structure Al where
  i:Nat
  t:Nat
  o:Obj
structure AlOk (P:Program) (ops:Array Oper) (k0:Nat) (x:Al):Prop where
  ex:∃ o,ops[x.i]?=some o/\o.dst=some x.t/\o.guard=none/\o.after = #[]/\(∀ (ρ:Operand->Value) (w:World),(execOp ρ o).run P w=.ok (.value (.pointer (some ⟨w.heap.size,0,none⟩))) (w.alloc x.o))
  lt:x.i<k0
abbrev SA:=Al × Nat
def em (L:Array Bool)(S:List SA):Array Bool:=S.foldr (fun s L=>L.setIfInBounds s.1.i true) L
def addA (a:Act)(S:List SA):Act:=S.foldr (fun s a=>a.put (some s.1.t) (.pointer (some ⟨s.2,0,none⟩))) a
def Blk (h0:Hp)(w:World)(h:Hp)(s:SA):Prop:=w.heap[s.2]?=some s.1.o/\h[s.2]?=some be/\h0.size<=s.2
theorem Blk.up {h0:Hp}{w w':World}{h f:Hp}{s:SA}(b:Blk h0 w h s)(u:UpM M.l w h w' f)(hM:∀ b∈M.l,b<h0.size):Blk h0 w' f s:=by
 obtain ⟨d,c,i⟩:=b
 have a:s.2<w.heap.size:=by
  rcases dS s.2 w.heap.size with a|a
  ·exact a
  ·rw[ea a] at d;cases d
 have e:s.2<h.size:=by
  rcases dS s.2 h.size with a|a
  ·exact a
  ·rw[ea a] at c;cases c
 exact ⟨(u.mo.blk _ a (fun j=>by have:=hM _ j;omega)).trans d,(u.gr.blk _ e).trans c,i⟩
theorem Blk.lt {h0:Hp}{w:World}{h:Hp}{s:SA}(b:Blk h0 w h s):s.2<w.heap.size:=by
 rcases dS s.2 w.heap.size with hl|hl
 ·exact hl
 ·have:=b.1;rw[ea hl] at this;cases this
variable (M P ops Q k0) in
def E (h0:Hp)(AL:List Al)(L:Array Bool)(a:Act)(w:World)(h:Hp):Prop :=
  ∀ w' h',Up w h w' h'->∀ (S:List SA) (T:List Al),(S.map (·.1)++T).Perm AL->(∀ s∈S,Blk h0 w' h' s)->(S.map (·.2)).Nodup ->
    A M P ops Q k0 (em L S) (addA a S) w'
theorem mE (L:Array Bool)(S:List SA)(i:Nat)(hi:∀ s∈S,s.1.i≠i):em (L.setIfInBounds i true) S=(em L S).setIfInBounds i true:=by
  induction S with
  | nil=>rfl
  | cons s S ih =>
    have h1:s.1.i≠i:=hi s (by simp)
    show (em (L.setIfInBounds i true) S).setIfInBounds s.1.i true=((em L S).setIfInBounds s.1.i true).setIfInBounds i true
    rw[ih (fun t a=>hi t (by simp[a])),gq _ _ (Ne.symm h1)]
theorem mZ (a:Act)(S:List SA)(d:Option Tmp)(v:Value)(b:∀ s∈S,d≠some s.1.t):addA (a.put d v) S=(addA a S).put d v:=by
  induction S with
  | nil=>rfl
  | cons s S ih =>
    have h1:d≠some s.1.t:=b s (by simp)
    show (addA (a.put d v) S).put (some s.1.t) _=((addA a S).put (some s.1.t) _).put d v
    rw[ih (fun t e=>b t (by simp[e]))];exact Act.put_comm _ _ _ (fun x f c=>h1 (f.trans c.symm))
theorem gM {L:Array Bool}{S:List SA}{j:Nat}(h:(em L S).getD j true=false):L.getD j true=false:=by
  induction S with
  | nil=>exact h
  | cons s S ih =>
    apply ih
    have a:((em L S).setIfInBounds s.1.i true).getD j true=false:=h
    by_cases e:s.1.i=j
    . subst e
      obtain ⟨c,b⟩:=HM a
      simp at b
    . rwa [getD_set_ne true e] at a
theorem i6 {L:Array Bool}{S:List SA}{j:Nat}(d:Bool)(a:∀ s∈S,s.1.i≠j):(em L S).getD j d=L.getD j d:=by
  induction S with
  | nil=>rfl
  | cons s S ih =>
    show ((em L S).setIfInBounds s.1.i true).getD j d=_
    rw[getD_set_ne d (a s (by simp))];exact ih (fun t b=>a t (by simp[b]))
theorem kp {L:Array Bool}{S:List SA}{j:Nat}(h:L.getD j false=true):(em L S).getD j false=true:=by
 induction S with
 | nil=>exact h
 | cons s S ih=>exact getD_set_true (listed:=em L S) ih
theorem rK {L:Array Bool}{S:List SA}{i:Nat}(hi:∀ s∈S,s.1.i≠i)(h:i∈Region.ready .any ops L):i∈Region.ready .any ops (em L S):=by
 rw[mem_ready] at *
 obtain ⟨h0,o,b,a⟩:=h;exact ⟨by rw[i6 true hi];exact h0,o,b,fun e c d=>kp (a e c d)⟩
theorem nP {o:Oper}(f:∀ cs b,o.op≠.select cs b)(a:Act)(S:List SA)(h:∀ s∈S,s.1.t ∉ o.looksAt ops) :
    execOp (addA a S).eval o=execOp a.eval o/\Region.wanted o (yielded ops (addA a S).tmps)=Region.wanted o (yielded ops a.tmps):=by
  induction S with
  | nil=>exact ⟨rfl,rfl⟩
  | cons s S ih =>
    obtain ⟨i1,i⟩:=ih (fun t e=>h t (by simp[e]));have hn:∀ d,some s.1.t=some d->d ∉ o.looksAt ops:=fun d c=>by injection c with c;subst c;exact h s (by simp)
    exact ⟨(execOp_put (ops:=ops) o f _ _ _ hn).trans i1,(wanted_put (ops:=ops) o _ _ _ hn).trans i⟩
theorem iN {S:List SA}{T AL:List Al}(a:(S.map (·.1)++T).Perm AL){s:SA}(b:s∈S):s.1∈AL :=
 a.mem_iff.1 (gs.2 (.inl (gx.2 ⟨s,b,rfl⟩)))
def OpR (P:Program)(ops:Array Oper)(o:Oper)(a:Act)(w:World)(R:Value->World->Prop):Prop :=
  Region.wanted o (yielded ops a.tmps)=true /\
  ((∃ v w',(execOp a.eval o).run P w=.ok (.value v) w'/\R v w')\/(∃ w',(execOp a.eval o).run P w=.ok .skip w'/\R undef w') \/
   (∃ f args,(execOp a.eval o).run P w=.ok (.enter f args) w/\Calls P f args w (fun e w'=>∃ v,e=.returned v/\R v w')))
theorem OpR.wpOp {i:Nat}{o:Oper}{a:Act}{w:World}{R:Value->World->Prop}{K:Act->World->Prop}(hi:ops[i]?=some o)(h:OpR P ops o a w R)
  (b:∀ v w',R v w'->K (a.put o.dst v) w'):wpOp P ops Q i K a w:=by
 obtain ⟨c,h⟩:=h
 unfold Go.wpOp
 simp only[hi,c,if_true]
 left
 unfold Oper.wp
 rcases h with ⟨v,w',hr,hR⟩|⟨w',hr,hR⟩|⟨f,args,hr,hc⟩
 ·rw[hr];exact b _ _ hR
 ·rw[hr];exact b _ _ hR
 ·rw[hr]
  refine Calls.mono hc fun e w' d=>?_
  obtain ⟨v,rfl,hR⟩:=d;exact b _ _ hR
theorem OpR.addA {o:Oper}{a:Act}{w:World}{R:Value->World->Prop}(h:OpR P ops o a w R)(c:∀ cs b,o.op≠.select cs b)(S:List SA)(d:∀ s∈S,s.1.t ∉ o.looksAt ops) :
  OpR P ops o (addA a S) w R:=by
 obtain ⟨e1,e2⟩:=nP (ops:=ops) c a S d
 unfold OpR at *
 rw[e1,e2];exact h
theorem Ef {x:Al}(ok:AlOk P ops k0 x){a:Act}{w:World}{K:Act->World->Prop}(h:K (a.put (some x.t) (.pointer (some ⟨w.heap.size,0,none⟩))) (w.alloc x.o)):wpOp P ops Q x.i K a w:=by
 obtain ⟨o,h1,c,d,_,b⟩:=ok.ex
 unfold Go.wpOp
 simp only[h1]
 rw[if_pos (by simp[Region.wanted,d])]
 left
 unfold Oper.wp
 rw[b]
 show K (a.put o.dst _) _
 rw[c];exact h
theorem qz {x:Al}(ok:AlOk P ops k0 x){L:Array Bool}(h:L.getD x.i true=false):x.i∈Region.ready .any ops L:=by
 obtain ⟨o,h1,_,_,b,_⟩:=ok.ex;exact mem_ready.2 ⟨h,o,h1,fun e a=>by rw[b] at a;simp at a⟩
theorem oh {h0:Hp}{AL:List Al}{L:Array Bool}{a:Act}{w':World}{d:Hp}{S:List SA}{T:List Al}{x:Al}
  (f:∀ x∈AL,AlOk P ops k0 x)(hM:∀ b∈M.l,b<h0.size)(g:G w' d)(j:h0.size<=d.size)(z:(S.map (·.1)++T).Perm AL)(y:∀ s∈S,Blk h0 w' d s)(hn:(S.map (·.2)).Nodup)(p:x∈T)
  (D:∀ (w1:World) (h1:Hp) (S1:List SA) (e:List Al),Up w' d w1 h1->(S1.map (·.1)++e).Perm AL->(∀ s∈S1,Blk h0 w1 h1 s)->(S1.map (·.2)).Nodup->e.length<T.length->A M P ops Q k0 (em L S1) (addA a S1) w1) :
  wpOp P ops Q x.i (fun C w1=>Rl M k0 x.i w' w1/\A M P ops Q k0 ((em L S).setIfInBounds x.i true) C w1) (addA a S) w':=by
 have c:x∈AL:=z.mem_iff.1 (gs.2 (.inr p))
 obtain ⟨e,hT⟩:∃ e,T.Perm (x::e):=by
  obtain ⟨B,l2,rfl⟩:=List.append_of_mem p;exact ⟨B++l2,g1⟩
 have u:Up w' d (w'.alloc x.o) (d.push be):=Up.allocAny g _ _ (.inr rfl);refine Ef (f x c) ⟨Rl.mo (f x c).lt (u.m M.l).mo,?_⟩;refine D (w'.alloc x.o) (d.push be) ((x,w'.heap.size)::S) e u ?_ ?_ ?_ ?_
 ·refine List.Perm.trans ?_ z
  show (x::(S.map (·.1)++e)).Perm _
  refine List.Perm.trans g1.symm ?_;exact List.Perm.append_left _ hT.symm
 ·intro s h
  rcases g2.1 h with rfl|h
  ·refine ⟨?_,?_,?_⟩
   ·rw[heap_alloc];exact fo
   ·rw[g.size];exact fo
   ·show h0.size<=w'.heap.size;rw[g.size];exact j
  ·exact (y s h).up (u.m M.l) hM
 ·show (w'.heap.size::S.map (·.2)).Nodup
  refine g3.2 ⟨fun F=>?_,hn⟩;obtain ⟨s,h,H⟩:=gx.1 F;have:=(y s h).lt
  omega
 ·have:=hT.length_eq
  simp at this
  omega
theorem iQ {AL:List Al}{L:Array Bool}{S:List SA}{T:List Al}{x:Al}(c:(S.map (·.1)++T).Perm AL)(f:x∈AL)(hr:x.i∈Region.ready .any ops (em L S)):x∈T:=by
  rcases gs.1 (c.mem_iff.2 f) with hm|hm
  . obtain ⟨s,d,b⟩:=gx.1 hm
    have h1:=(mem_ready.1 hr).1
    exfalso
    rw[<-b] at h1
    clear hr c hm b
    induction S with
    | nil=>cases d
    | cons t S ih =>
      have a:((em L S).setIfInBounds t.1.i true).getD s.1.i true=false:=h1
      by_cases e:t.1.i=s.1.i
      . rw[e] at a
        obtain ⟨h,b⟩:=HM a
        simp at b
      . rw[getD_set_ne true e] at a
        rcases g2.1 d with rfl|hs'
        . exact e rfl
        . exact ih hs' a
  . exact hm
end region
section laws
variable {M:Ms}{P:Program}{ops:Array Oper}{Q:Exit->Act->World->Prop}{k0:Nat}
theorem vH (L:Array Bool)(S:List SA):(em L S).size=L.size:=by
 induction S with
 | nil=>rfl
 | cons s S ih=>show ((em L S).setIfInBounds s.1.i true).size=_;simp[ih]
theorem E.take0 {h0:Hp}{AL:List Al}{L:Array Bool}{a:Act}{w:World}{h:Hp}{i:Nat}{o:Oper}{v:Value}{S:World->Prop}
  (hi:ops[i]?=some o)(hk:i<k0)(f:Region.noSelect ops=true)(hf:Region.free .any ops L i=true)(hr:i∈Region.ready .any ops L)
  (C:∀ x∈AL,x.i≠i/\x.t ∉ o.looksAt ops/\o.dst≠some x.t)(U:∀ c a w,¬Q (.panic c) a w)
  (I:∀ w w',S w->Mo M.l w w'->S w')(V:∀ w',Mo M.l w w'->S w')(O:YieldsIf P ops S o v a)
  (p:(∀ w,S w)\/(∀ w w',S w->Tl M w w'->S w')\/∀ j B,ops[j]?=some B->k0<=j->j≠i->∃ e∈B.after,Region.binds .any e=true/\e.on=i)
  (H:E M P ops Q k0 h0 AL (L.setIfInBounds i true) (a.put o.dst v) w h):E M P ops Q k0 h0 AL L a w h:=by
 intro w' Z u y T J X hn;have d:∀ s∈y,s.1.i≠i/\s.1.t ∉ o.looksAt ops/\o.dst≠some s.1.t:=fun s b=>C _ (iN J b)
 have K:=H w' Z u y T J X hn;rw[mE L y i (fun s b=>(d s b).1),mZ a y o.dst v (fun s b=>(d s b).2.2)] at K
 have z:=rK (fun s b=>(d s b).1) hr;obtain ⟨e1,e2⟩:=nP (ops:=ops) (Region.noSelect_spec f i o · · hi) a y (fun s b=>(d s b).2.1)
 unfold A at *
 rw[fU z]
 exact mN hi (Region.noSelect_spec f) (fun c a w W=>absurd W (U _ _ _)) I _ _ _ _
  (fun j B Y F D=>Region.free_spec hi hf j B Y F (gM D)) p z (O.of_same e1 e2) (V _ (u.m M.l).mo) K hk
theorem E.event0 {h0:Hp}{AL:List Al}{L:Array Bool}{a:Act}{w:World}{h:Hp}{i:Nat}{o:Oper}
    (hi:ops[i]?=some o)(hk:i<k0)(J:Region.noSelect ops=true)(hL:L.size=ops.size)(hun:L.getD i true=false)
    (V:∀ j X,ops[j]?=some X->L.getD j true=false->j≠i->(∀ x∈AL,x.i≠j)->∃ e∈X.after,Region.binds .any e=true/\L.getD e.on false=false/\∀ x∈AL,x.i≠e.on)
    (K:∀ e∈o.after,Region.binds .any e=true->L.getD e.on false=true\/∃ x∈AL,x.i=e.on)
    (Z:∀ x∈AL,x.i≠i/\x.t ∉ o.looksAt ops/\o.dst≠some x.t)(B:∀ x∈AL,AlOk P ops k0 x)(hM:∀ b∈M.l,b<h0.size)(g:G w h)(hsz:h0.size<=h.size)
    (H:∀ w' p,Up w h w' p->OpR P ops o a w' (fun v z=>∃ y,UpM M.l w' p z y/\E M P ops Q k0 h0 AL (L.setIfInBounds i true) (a.put o.dst v) z y)):E M P ops Q k0 h0 AL L a w h:=by
  have key:∀ (m:Nat) (T:List Al),T.length=m->∀ w' p,Up w h w' p->∀ (S:List SA),(S.map (·.1)++T).Perm AL->(∀ s∈S,Blk h0 w' p s)->(S.map (·.2)).Nodup ->
      A M P ops Q k0 (em L S) (addA a S) w':=by
    intro m
    induction m using g4 with
    | _ m ih =>
      intro T hT w' p u S D Y hn;have f:∀ s∈S,s.1.i≠i/\s.1.t ∉ o.looksAt ops/\o.dst≠some s.1.t:=fun s c=>Z _ (iN D c)
      refine A.intro (fun I=>?_) (fun j hj=>?_)
      . exfalso
        by_cases hd:∃ e∈o.after,Region.binds .any e=true/\(em L S).getD e.on false=false
        . obtain ⟨e,C,d,hf⟩:=hd
          rcases K e C d with h1|⟨x,F,hxe⟩
          . rw[kp h1] at hf;cases hf
          . have O:x.i<(em L S).size:=by
              obtain ⟨o',ho',_⟩:=(B x F).ex;rw[vH,hL];exact (hO.1 ho').1
            have:x.i∈Region.ready .any ops (em L S):=qz (B x F) (by rw[<-hxe] at hf;simp[gg,O] at hf ⊢;exact hf);rw[I] at this
            cases this
        . have:i∈Region.ready .any ops (em L S):=mem_ready.2 ⟨by rw[i6 true (fun s c=>(f s c).1)];exact hun,o,hi,fun e C d=>by
            cases hv:(em L S).getD e.on false
            . exact absurd ⟨e,C,d,hv⟩ hd
            . rfl⟩
          rw[I] at this
          cases this
      . by_cases hji:j=i
        . subst hji
          refine OpR.wpOp hi ((H w' p u).addA (Region.noSelect_spec J j o · · hi) S (fun s c=>(f s c).2.1)) ?_;rintro v z ⟨y,u2,H2⟩;refine ⟨Rl.mo hk u2.mo,?_⟩;rw[<-mE L S j (fun s c=>(f s c).1),<-mZ a S o.dst v (fun s c=>(f s c).2.2)];exact H2 z y (Up.refl u2.g) S T D (fun s c=>(Y s c).up u2 hM) hn
        . obtain ⟨U,X,hoj,W⟩:=mem_ready.1 hj
          have F:∃ x∈AL,x.i=j:=by
            refine Classical.byContradiction fun hno=>?_
            obtain ⟨e,C,d,hf,hne⟩:=V j X hoj (gM U) hji (fun x F C=>hno ⟨x,F,C⟩);have:=W e C d;rw[i6 false (fun s c=>hne _ (iN D c)),hf] at this
            cases this
          obtain ⟨x,hxA,rfl⟩:=F;have hxT:=iQ D hxA hj;exact oh B hM u.g (ep hsz u.gr.size) D Y hn hxT (fun w1 h1 S1 T1 u1 hp1 hb1 hn1 O=>ih T1.length oM T1 rfl w1 h1 (u.trans u1) S1 hp1 hb1 hn1)
  exact fun w' p u S T D Y hn=>key _ T rfl w' p u S D Y hn
theorem E.fin0 {h0:Hp}{AL:List Al}{L:Array Bool}{a:Act}{w:World}{h:Hp}(hL:L.size=ops.size)
    (Z:∀ j D,ops[j]?=some D->L.getD j true=false->(∃ x∈AL,x.i=j)\/∀ x∈AL,∃ e∈D.after,Region.binds .any e=true/\e.on=x.i)
    (z:∀ x∈AL,L.getD x.i true=false)(y:∀ x∈AL,AlOk P ops k0 x)(hM:∀ b∈M.l,b<h0.size)(hsz:h0.size<=h.size)(I:(AL.map (·.i)).Nodup)
    (H:∀ w' c,Up w h w' c->∀ S:List SA,(S.map (·.1)).Perm AL->(∀ s∈S,Blk h0 w' c s)->(S.map (·.2)).Nodup->A M P ops Q k0 (em L S) (addA a S) w'):E M P ops Q k0 h0 AL L a w h:=by
  have key:∀ (m:Nat) (T:List Al),T.length=m->∀ w' c,Up w h w' c->∀ (S:List SA),(S.map (·.1)++T).Perm AL->(∀ s∈S,Blk h0 w' c s)->(S.map (·.2)).Nodup ->
      A M P ops Q k0 (em L S) (addA a S) w':=by
    intro m
    induction m using g4 with
    | _ m ih =>
      intro T hT w' c u S f F hn;cases T with
      | nil=>exact H w' c u S (by simpa using f) F hn
      | cons t T' =>
        have p:t∈AL:=f.mem_iff.1 (gs.2 (.inr (by simp)));have d:((S.map (·.1)++t::T').map (·.i)).Nodup:=(f.map (·.i)).nodup_iff.2 I
        have htS:∀ s∈S,s.1.i≠t.i:=fun s hs V=>by
          rw[List.map_append,List.nodup_append] at d
          exact d.2.2 s.1.i (gx.2 ⟨s.1,gx.2 ⟨s,hs,rfl⟩,rfl⟩) t.i (gx.2 ⟨t,by simp,rfl⟩) V
        have o:t.i∈Region.ready .any ops (em L S):=qz (y t p) (by rw[i6 true htS];exact z t p);refine A.intro (fun J=>by rw[J] at o;cases o) (fun j hj=>?_);obtain ⟨B,D,hoj,C⟩:=mem_ready.1 hj
        rcases Z j D hoj (gM B) with ⟨x,hxA,rfl⟩|hw
        . have O:=iQ f hxA hj
          exact oh y hM u.g (ep hsz u.gr.size) f F hn O (fun w1 h1 S1 T1 u1 K X Y hlt=>ih T1.length oM T1 rfl w1 h1 (u.trans u1) S1 K X Y)
        . obtain ⟨e,V,W,U⟩:=hw t p
          have:=C e V W;rw[U] at this
          obtain ⟨hl,hv⟩:=HM (mem_ready.1 o).1
          simp[gg,hl,hv] at this
  exact fun w' c u S T f F hn=>key _ T rfl w' c u S f F hn
end laws
abbrev cl:=List (Nat × Value)
def gk (Γ:cl):List Deferred:=match Γ.lookup 1000000 with|some (.int _ D)=>[{ target:=.collected D.toNat,args:=#[] }]|_=>[]
structure Kn (n:Nat) (a:Act) (Γ:cl):Prop where
  df:a.defers=gk Γ
  sz:a.tmps.size=n
  nb:n<=1000000
  has:∀ t v,t≠1000000->Γ.lookup t=some v->a.tmps[t]?=some v
def ev (Γ:cl):Operand->Value
  | .tmp t=>(Γ.lookup t).getD undef
  | .const v=>v
  | .global g=>.pointer (some ⟨g,0,none⟩)
  | .func f=>.func (.func f) #[] #[]
def ak (ops:Array Oper)(i:Nat):Oper:=ops.getD i default
def iI (Γ:cl):Operand->Bool
  | .tmp t=>t != 1000000 && (Γ.lookup t).isSome
  | _=>true
def aY (Γ:cl)(o:Oper):Bool:=o.op.operands.all (iI Γ)
def bg (ops:Array Oper)(Γ:cl)(o:Oper):Option Bool :=
  match o.guard with
  | none=>some true
  | some (g,want)=>match ((ops[g]?).bind (·.dst)).bind (fun t=>if t=1000000 then none else Γ.lookup t) with
    | some (.bool b)=>some (b == want)
    | some (.tuple _)=>some false
    | _=>none
theorem Kn.put {n:Nat}{a:Act}{Γ:cl}(k:Kn n a Γ){t:Nat}(d:t<n)(v:Value):Kn n (a.put (some t) v) ((t,v)::Γ):=by
 have c:=k.nb;refine ⟨?_,by simpa [Act.put] using k.sz,k.nb,fun s u f b=>?_⟩
 ·have e:((1000000:Nat) == t)=false:=by simp;omega
  show a.defers=_
  rw[k.df];unfold gk;rw[hP,e]
 rw[hP] at b
 by_cases e:s=t
 ·subst e
  simp at b
  subst b
  simp[Act.put,k.sz,d]
 ·have h:(s == t)=false:=by simp[e]
  rw[h] at b
  simp only[Act.put]
  rw[i2 (Ne.symm e)];exact k.has s u f b
theorem Kn.eval {n:Nat}{a:Act}{Γ:cl}(k:Kn n a Γ){x:Operand}(b:iI Γ x=true):a.eval x=ev Γ x:=by
  cases x with
  | tmp t =>
    have b:(t != 1000000 && (Γ.lookup t).isSome)=true:=b;rw[i3] at b
    obtain ⟨v,hv⟩:=la.1 b.2;have:=k.has t v (by simpa using b.1) hv
    simp[Act.eval,ev,hv,this]
  | _=>rfl
theorem Kn.exec {n:Nat}{a:Act}{Γ:cl}(k:Kn n a Γ){o:Oper}(d:∀ cs b,o.op≠.select cs b)(hk:aY Γ o=true):execOp a.eval o=execOp (ev Γ) o :=
 execOp_congr o d (fun x c=>k.eval ((na.1 hk) x c))
theorem Kn.want {n:Nat}{a:Act}{Γ:cl}(k:Kn n a Γ){ops:Array Oper}{o:Oper}{b:Bool}(h:bg ops Γ o=some b):Region.wanted o (yielded ops a.tmps)=b:=by
  unfold bg at h
  unfold Region.wanted
  split at h
  . rename_i d;simp only[d];simpa using h
  . rename_i g want d
    simp only[d]
    cases c:(ops[g]?).bind (·.dst) with
    | none=>rw[c] at h;simp at h
    | some t =>
      rw[c] at h
      simp only[Option.bind_some] at h
      by_cases ht0:t=1000000
      . rw[if_pos ht0] at h;simp at h
      rw[if_neg ht0] at h
      cases hv:Γ.lookup t with
      | none=>rw[hv] at h;simp at h
      | some u =>
        rw[hv] at h
        have e:=k.has t u ht0 hv;cases u with
        | bool x=>simp at h;subst h;simp[yielded,c,e]
        | tuple x=>simp at h;subst h;simp[yielded,c,e]
        | _=>simp at h
theorem Kn.mono {n:Nat}{a:Act}{Γ Γ':cl}(k:Kn n a Γ)(h:∀ t v,Γ'.lookup t=some v->Γ.lookup t=some v)(b:gk Γ'=gk Γ):Kn n a Γ':=⟨k.df.trans b.symm,k.sz,k.nb,fun t v c hv=>k.has t v c (h t v hv)⟩
def j5 (Γ:cl):List Nat->cl
  | []=>[]
  | t::ts=>match Γ.lookup t with|some v=>(t,v)::j5 Γ ts|none=>j5 Γ ts
theorem fJ (Γ:cl):∀ (ts:List Nat) (t:Nat) (v:Value),(j5 Γ ts).lookup t=some v->Γ.lookup t=some v
  | [],_,_,h=>by simp[j5] at h
  | s :: ts,t,v,h=>by
    unfold j5 at h
    split at h
    . rename_i u a
      rw[hP] at h
      by_cases e:t=s
      . subst e;simp at h;subst h;exact a
      . have b:(t == s)=false:=by simp[e]
        rw[b] at h
        exact fJ Γ ts t v h
    . exact fJ Γ ts t v h
abbrev Po:=Act->World->Prop
def iB (N R:Po)(X:Nat->Po):Exit->Act->World->Prop
  | .normal,a,w=>N a w
  | .ret,a,w=>R a w
  | .exit i,a,w=>X i a w
  | _,_,_=>False
def CG (P:Program)(n:Nat)(N R:Po)(X:Nat->Po)(c:Code)(Γ:cl)(w:World):Prop:=∀ a,Kn n a Γ->c.wp P (iB N R X) a w
def EG (M:Ms)(P:Program)(n:Nat)(N R:Po)(X:Nat->Po)(ops:Array Oper)(k0:Nat)(h0:Hp)(AL:List Al)(L:Array Bool)(Γ:cl)(w:World)(h:Hp):Prop :=
  (∀ x∈AL,AlOk P ops k0 x)->(∀ b∈M.l,b<h0.size)->G w h->h0.size<=h.size->∀ a,Kn n a Γ->E M P ops (iB N R X) k0 h0 AL L a w h
def AG (M:Ms)(P:Program)(n:Nat)(N R:Po)(X:Nat->Po)(ops:Array Oper)(k0:Nat)(L:Array Bool)(Γ:cl)(w:World):Prop :=
  ∀ a,Kn n a Γ->A M P ops (iB N R X) k0 L a w
section steps
variable {M:Ms}{P:Program}{n:Nat}{N R:Po}{X:Nat->Po}{ops:Array Oper}{k0:Nat}{h0:Hp}{AL:List Al}{L:Array Bool}{Γ:cl}{w:World}{h:Hp}
def ud (ops:Array Oper)(AL:List Al)(i:Nat)(o:Oper):Bool:=AL.all fun x=>x.i != i && !(o.looksAt ops).contains x.t && o.dst != some x.t
theorem jq {i:Nat}{o:Oper}(a:ud ops AL i o=true):∀ x∈AL,x.i≠i/\x.t ∉ o.looksAt ops/\o.dst≠some x.t:=by
 intro x b;have:=(oi.1 a) x b
 simp only[i3,bne_iff_ne,ne_eq,Bool.not_eq_true',List.contains_eq_mem,decide_eq_false_iff_not] at this
 exact ⟨this.1.1,this.1.2,this.2⟩
def dY (n:Nat)(ops:Array Oper)(k0:Nat)(AL:List Al)(L:Array Bool)(i t:Nat):Bool :=
  let o:=ak ops i
  decide (i<ops.size) && decide (i<k0) && Region.noSelect ops && Region.free .any ops L i && (Region.ready .any ops L).contains i && ud ops AL i o && (o.dst == some t) && decide (t<n)
structure TakeOk (n:Nat) (ops:Array Oper) (k0:Nat) (AL:List Al) (L:Array Bool) (i t:Nat):Prop where
  get:ops[i]?=some (ak ops i)
  lt:i<k0
  sel:Region.noSelect ops=true
  free:Region.free .any ops L i=true
  ready:i∈Region.ready .any ops L
  al:∀ x∈AL,x.i≠i/\x.t ∉ (ak ops i).looksAt ops/\(ak ops i).dst≠some x.t
  dst:(ak ops i).dst=some t
  tn:t<n
theorem bv {i:Nat}(h:i<ops.size):ops[i]?=some (ak ops i):=by
 unfold ak;simp[h]
theorem dX {i t:Nat}(h:dY n ops k0 AL L i t=true):TakeOk n ops k0 AL L i t:=by
 unfold dY at h
 simp only[i3,decide_eq_true_eq,beq_iff_eq] at h
 obtain ⟨⟨⟨⟨⟨⟨⟨h1,b⟩,c⟩,f⟩,a⟩,d⟩,j⟩,e⟩:=h;exact ⟨bv h1,b,c,f,by simpa using a,jq d,j,e⟩
theorem Rg.pure (i t:Nat)(v:Value)(b:(dY n ops k0 AL L i t && aY Γ (ak ops i))=true)(l:bg ops Γ (ak ops i)=some true)
  (hr:∀ w,(execOp (ev Γ) (ak ops i)).run P w=.ok (.value v) w)
  (k:EG M P n N R X ops k0 h0 AL (L.setIfInBounds i true) ((t,v)::Γ) w h):EG M P n N R X ops k0 h0 AL L Γ w h:=by
 rw[i3] at b
 obtain ⟨b,d⟩:=b;have c:=dX b;intro f hM g e a j;have e1:=j.exec (Region.noSelect_spec c.sel i _ · · c.get) d;refine E.take0 (v:=v) (S:=fun _=>True) c.get c.lt c.sel c.free c.ready c.al (fun _ _ _ o=>o) (fun _ _ _ _=>trivial) (fun _ _=>trivial) (.inl ⟨j.want l,fun w _=>by rw[e1];exact hr w⟩) (.inl fun _=>trivial) ?_;rw[c.dst];exact k f hM g e _ (j.put c.tn v)
theorem Rg.skip (i t:Nat)(f:dY n ops k0 AL L i t=true)(j:bg ops Γ (ak ops i)=some false)
  (k:EG M P n N R X ops k0 h0 AL (L.setIfInBounds i true) ((t,undef)::Γ) w h):EG M P n N R X ops k0 h0 AL L Γ w h:=by
 have c:=dX f;intro d hM g b a e;refine E.take0 (v:=undef) (S:=fun _=>True) c.get c.lt c.sel c.free c.ready c.al (fun _ _ _ l=>l) (fun _ _ _ _=>trivial) (fun _ _=>trivial) (.inr ⟨e.want j,rfl⟩) (.inl fun _=>trivial) ?_;rw[c.dst];exact k d hM g b _ (e.put c.tn undef)
def ja (ops:Array Oper)(k0 i:Nat):Bool:=(ov ops.size).all fun j=>decide (j<k0) || (ak ops j).after.any fun e=>Region.binds .any e && e.on == i
theorem jW {i:Nat}(h:ja ops k0 i=true):∀ j b,ops[j]?=some b->k0<=j->j≠i->∃ e∈b.after,Region.binds .any e=true/\e.on=i:=by
 intro j b c hk _;have a:=(hO.1 c).1;have e:b=ak ops j:=by have:=bv (ops:=ops) a;rw[c] at this;injection this
 have:=(oi.1 h) j (o0.2 a)
 simp only[pa,decide_eq_true_eq,po,i3,beq_iff_eq] at this
 rcases this with h1|⟨x,hx,h2⟩
 ·omega
 ·rw[e];exact ⟨_,ri hx,h2⟩
theorem Rg.load (i t:Nat)(v:Value)(b:(dY n ops k0 AL L i t && aY Γ (ak ops i) && ja ops k0 i)=true)(y:bg ops Γ (ak ops i)=some true)
  (hr:∀ w',Mo M.l w w'->(execOp (ev Γ) (ak ops i)).run P w'=.ok (.value v) w')
  (k:EG M P n N R X ops k0 h0 AL (L.setIfInBounds i true) ((t,v)::Γ) w h):EG M P n N R X ops k0 h0 AL L Γ w h:=by
 rw[i3,i3] at b
 obtain ⟨⟨b,f⟩,j⟩:=b;have c:=dX b;intro e hM g o a p;have e1:=p.exec (Region.noSelect_spec c.sel i _ · · c.get) f;refine E.take0 (v:=v) (S:=fun w'=>Mo M.l w w') c.get c.lt c.sel c.free c.ready c.al (fun _ _ _ x=>x) (fun _ _ h1 u=>h1.trans u) (fun _ d=>d) (.inl ⟨p.want y,fun w' d=>by rw[e1];exact hr w' d⟩) (.inr (.inr (jW j))) ?_;rw[c.dst];exact k e hM g o _ (p.put c.tn v)
theorem Rg.loadZ (i t:Nat)(v:Value){bs:List Nat}(hz:M.z=some (h0.size,bs))(j:(dY n ops k0 AL L i t && aY Γ (ak ops i))=true)(C:bg ops Γ (ak ops i)=some true)
  (hr:∀ w',(∀ b,b<h0.size->b ∉ bs->b ∉ M.l->w'.heap[b]?=w.heap[b]?)->(execOp (ev Γ) (ak ops i)).run P w'=.ok (.value v) w')
  (k:EG M P n N R X ops k0 h0 AL (L.setIfInBounds i true) ((t,v)::Γ) w h):EG M P n N R X ops k0 h0 AL L Γ w h:=by
 rw[i3] at j
 obtain ⟨j,p⟩:=j;have c:=dX j;intro o hM g f a u;have x:h0.size<=w.heap.size:=by rw[g.size];exact f
 have e1:=u.exec (Region.noSelect_spec c.sel i _ · · c.get) p;refine E.take0 (v:=v) (S:=fun w'=>h0.size<=w'.heap.size/\∀ b,b<h0.size->b ∉ bs->b ∉ M.l->w'.heap[b]?=w.heap[b]?) c.get c.lt c.sel c.free c.ready c.al (fun _ _ _ B=>B) ?_ ?_ (.inl ⟨u.want C,fun w' y=>by rw[e1];exact hr w' y.2⟩) (.inr (.inl ?_)) ?_
 ·intro w1 w2 s m
  exact ⟨ep s.1 m.size,fun b d h1 e=>(m.blk b (e4 d s.1) e).trans (s.2 b d h1 e)⟩
 ·intro w' m
  exact ⟨ep x m.size,fun b d h1 e=>m.blk b (e4 d x) e⟩
 ·intro w1 w2 s m
  have:=m h0.size bs hz;exact ⟨ep s.1 this.1,fun b d h1 e=>(this.2 b d h1).trans (s.2 b d h1 e)⟩
 ·rw[c.dst]
  exact k o hM g f _ (u.put c.tn v)
def nN (n:Nat)(ops:Array Oper)(k0:Nat)(AL:List Al)(L:Array Bool)(i t:Nat):Bool :=
  let o:=ak ops i
  decide (i<ops.size) && decide (i<k0) && Region.noSelect ops && (L.size == ops.size) && (L.getD i true == false) &&
  ((ov ops.size).all fun j=>L.getD j true || j == i || AL.any (·.i == j) || (ak ops j).after.any fun e=>Region.binds .any e && (L.getD e.on false == false) && AL.all (·.i != e.on)) &&
  (o.after.all fun e=>!Region.binds .any e || L.getD e.on false || AL.any (·.i == e.on)) &&
  ud ops AL i o && (o.dst == some t) && decide (t<n)
theorem Rg.event (i t:Nat)(B:(nN n ops k0 AL L i t && aY Γ (ak ops i))=true)(hw:bg ops Γ (ak ops i)=some true)
  (H:∀ w' F,Up w h w' F ->
   (∃ v c b,(execOp (ev Γ) (ak ops i)).run P w'=.ok (.value v) c/\UpM M.l w' F c b/\EG M P n N R X ops k0 h0 AL (L.setIfInBounds i true) ((t,v)::Γ) c b) \/
   (∃ f args,(execOp (ev Γ) (ak ops i)).run P w'=.ok (.enter f args) w'/\Calls P f args w' (fun e c=>∃ v b,e=.returned v/\UpM M.l w' F c b/\EG M P n N R X ops k0 h0 AL (L.setIfInBounds i true) ((t,v)::Γ) c b))) :
  EG M P n N R X ops k0 h0 AL L Γ w h:=by
 rw[i3] at B
 obtain ⟨B,U⟩:=B
 unfold nN at B
 simp only[i3,decide_eq_true_eq,beq_iff_eq] at B
 obtain ⟨⟨⟨⟨⟨⟨⟨⟨⟨h1,h2⟩,W⟩,h4⟩,h5⟩,h6⟩,h7⟩,h8⟩,Z⟩,C⟩:=B;have d:=bv (ops:=ops) h1;intro z hM g I a J;have e1:=J.exec (Region.noSelect_spec W i _ · · d) U;refine E.event0 d h2 W h4 h5 ?_ ?_ (jq h8) z hM g I ?_
 ·intro j oj Y O V K
  have D:=(hO.1 Y).1;have e:oj=ak ops j:=by have:=bv (ops:=ops) D;rw[Y] at this;injection this
  have:=(oi.1 h6) j (o0.2 D)
  simp only[pa,O,sb,false_or,beq_iff_eq,V,sc,po,i3] at this
  rcases this with ⟨x,hx,hxe⟩|⟨x,hx,⟨S,hL⟩,hno⟩
  ·exact absurd hxe (K x hx)
  ·rw[e]
   refine ⟨_,ri hx,S,hL,fun y hy=>?_⟩;have:=(oi.1 hno) y hy
   simpa using this
 ·intro e Q S
  have:=(na.1 h7) e Q
  simp only[pa,S,sr,sb,false_or,sc,beq_iff_eq] at this
  exact this
 ·intro w' F u
  refine ⟨J.want hw,?_⟩;rw[e1];have o:=ep I u.gr.size
  rcases H w' F u with ⟨v,c,b,hr,p,k⟩|⟨f,args,hr,hcall⟩
  ·exact .inl ⟨v,c,hr,b,p,by rw[Z];exact k z hM p.g (ep o p.gr.size) _ (J.put C v)⟩
  ·exact .inr (.inr ⟨f,args,hr,hcall.mono fun e c ⟨v,b,Q,p,k⟩=>⟨v,Q,b,p,by rw[Z];exact k z hM p.g (ep o p.gr.size) _ (J.put C v)⟩⟩)
theorem Rg.call (i t f:Nat)(args:Array Value)(b:(nN n ops k0 AL L i t && aY Γ (ak ops i))=true)(c:bg ops Γ (ak ops i)=some true)
 (hr:∀ w',(execOp (ev Γ) (ak ops i)).run P w'=.ok (.enter f args) w')
 (H:∀ w' a,Up w h w' a->Calls P f args w' (fun e w''=>∃ v h'',e=.returned v/\UpM M.l w' a w'' h''/\EG M P n N R X ops k0 h0 AL (L.setIfInBounds i true) ((t,v)::Γ) w'' h'')) :
 EG M P n N R X ops k0 h0 AL L Γ w h:=Rg.event i t b c (fun w' a u=>.inr ⟨f,args,hr w',H w' a u⟩)
def gI (ops:Array Oper)(AL:List Al)(L:Array Bool):Bool :=
  (L.size == ops.size) && ((ov ops.size).all fun j=>L.getD j true || AL.any (·.i == j) || AL.all fun x=>(ak ops j).after.any fun e=>Region.binds .any e && e.on == x.i) && AL.all (fun x=>L.getD x.i true == false)
theorem Rg.fin (o:gI ops AL L=true)(d:(AL.map (·.i)).Nodup)
  (H:∀ a,Kn n a Γ->∀ w' h',Up w h w' h'->∀ S:List SA,(S.map (·.1)).Perm AL->(∀ s∈S,Blk h0 w' h' s)->(S.map (·.2)).Nodup->A M P ops (iB N R X) k0 (em L S) (addA a S) w') :
  EG M P n N R X ops k0 h0 AL L Γ w h:=by
 unfold gI at o
 simp only[i3,beq_iff_eq] at o
 obtain ⟨⟨h1,C⟩,D⟩:=o;intro f hM _ p a I;refine E.fin0 h1 ?_ ?_ f hM p d (H a I)
 ·intro j z u l
  have b:=(hO.1 u).1;have e:z=ak ops j:=by have:=bv (ops:=ops) b;rw[u] at this;injection this
  have:=(oi.1 C) j (o0.2 b)
  simp only[pa,l,sb,false_or,sc,beq_iff_eq] at this
  rcases this with h4|h4
  ·exact .inl h4
  ·refine .inr fun x c=>?_
   have:=(oi.1 h4) x c
   simp only[po,i3,beq_iff_eq] at this
   obtain ⟨y,B,F⟩:=this;rw[e];exact ⟨_,ri B,F⟩
 ·intro x c
  have:=(oi.1 D) x c
  simpa using this
theorem Rg.fin0 (c:gI ops [] L=true)(H:∀ w' b,Up w h w' b->AG M P n N R X ops k0 L Γ w'):EG M P n N R X ops k0 h0 [] L Γ w h:=by
 refine Rg.fin c (by simp) ?_;intro a e w' b u S d _ _;have:S=[]:=by simpa using d.length_eq
 subst this;exact H w' b u a e
theorem Rg.fin1 {x:Al}(d:(gI ops [x] L && decide (x.t<n))=true) 
    (H:∀ w' c b,Up w h w' c->Blk h0 w' c (x,b)->AG M P n N R X ops k0 (L.setIfInBounds x.i true) ((x.t,.pointer (some ⟨b,0,none⟩))::Γ) w'):EG M P n N R X ops k0 h0 [x] L Γ w h:=by
  rw[i3,decide_eq_true_eq] at d
  refine Rg.fin d.1 (by simp) ?_;intro a f w' c u S e j _;have l:=e.length_eq
  match S,l with
  | [s],_ =>
    have:s.1=x:=by simpa using e
    obtain ⟨y,b⟩:=s
    simp at this
    subst this;exact H w' c b u (j _ (by simp)) _ (f.put d.2 _)
theorem Rg.fin2 {x y:Al}(C:(gI ops [x,y] L && decide (x.t<n) && decide (y.t<n) && (x.t != y.t) && (x.i != y.i))=true) 
    (H:∀ w' o b c,Up w h w' o->Blk h0 w' o (x,b)->Blk h0 w' o (y,c)->b≠c->AG M P n N R X ops k0 ((L.setIfInBounds y.i true).setIfInBounds x.i true) ((x.t,.pointer (some ⟨b,0,none⟩))::(y.t,.pointer (some ⟨c,0,none⟩))::Γ) w'):EG M P n N R X ops k0 h0 [x,y] L Γ w h:=by
  simp only[i3,decide_eq_true_eq,bne_iff_ne,ne_eq] at C
  obtain ⟨⟨⟨⟨C,h1⟩,I⟩,V⟩,D⟩:=C;refine Rg.fin C (by simp[D]) ?_;intro a Q w' o u S O B hn;have W:=O.length_eq
  match S,W with
  | [s, t],_ =>
    obtain ⟨f,b⟩:=s;obtain ⟨j,c⟩:=t;have z:b≠c:=by simpa using hn
    have Y:f=x/\j=y\/f=y/\j=x:=by
      have l:[f,j].Perm [x,y]:=by simpa using O
      have J:f∈[x,y]:=l.mem_iff.1 (by simp);have m2:x∈[f,j]:=l.mem_iff.2 (by simp);have K:y∈[f,j]:=l.mem_iff.2 (by simp);have p:x≠y:=fun e=>D (by rw[e])
      simp at J m2 K
      rcases J with rfl|rfl
      . rcases K with e|e
        . exact absurd e.symm p
        . exact .inl ⟨rfl,e.symm⟩
      . rcases m2 with e|e
        . exact absurd e p
        . exact .inr ⟨rfl,e.symm⟩
    rcases Y with ⟨rfl,rfl⟩|⟨rfl,rfl⟩
    . exact H w' o b c u (B _ (by simp)) (B _ (by simp)) z _ ((Q.put I _).put h1 _)
    . have e1:em L [(f,b),(j,c)]=(L.setIfInBounds f.i true).setIfInBounds j.i true:=gq _ _ D
      have e2:addA a [(f,b),(j,c)]=(a.put (some f.t) (.pointer (some ⟨b,0,none⟩))).put (some j.t) (.pointer (some ⟨c,0,none⟩)) :=
        Act.put_comm (x:=some j.t) (y:=some f.t) a _ _ (fun d U F=>V (Option.some.inj (U.trans F.symm)))
      rw[e1,e2];exact H w' o c b u (B _ (by simp)) (B _ (by simp)) (Ne.symm z) _ ((Q.put I _).put h1 _)
def g6 (ops:Array Oper)(k0:Nat)(L:Array Bool)(i:Nat):Bool :=
  decide (i<ops.size) && decide (k0<=i) && Region.noSelect ops && (Region.ready .any ops L == [i])
theorem A.one {a:Act}{i:Nat}(b:g6 ops k0 L i=true){Q:Exit->Act->World->Prop}{o:Oper}(e:ops[i]?=some o){R':Value->World->Prop}(h:OpR P ops o a w R')(d:∀ v w',R' v w'->Tl M w w')
  (f:∀ v w',R' v w'->A M P ops Q k0 (L.setIfInBounds i true) (a.put o.dst v) w'):A M P ops Q k0 L a w:=by
 unfold g6 at b
 simp only[i3,decide_eq_true_eq,beq_iff_eq] at b
 refine A.intro (fun h0=>by rw[b.2] at h0;cases h0) (fun j c=>?_);rw[b.2,sy] at c
 subst c;exact OpR.wpOp e h (fun v w' hr=>⟨Rl.tl b.1.1.2 (d v w' hr),f v w' hr⟩)
theorem lm {i:Nat}(a:g6 ops k0 L i=true):ops[i]?=some (ak ops i)/\Region.noSelect ops=true:=by
 unfold g6 at a
 simp only[i3,decide_eq_true_eq,beq_iff_eq] at a
 exact ⟨bv a.1.1.1,a.1.2⟩
theorem T.val (i t:Nat)(v:Value)(w':World)(d:(g6 ops k0 L i && aY Γ (ak ops i) && ((ak ops i).dst == some t) && decide (t<n))=true)(p:bg ops Γ (ak ops i)=some true)
  (hr:(execOp (ev Γ) (ak ops i)).run P w=.ok (.value v) w')(k:AG M P n N R X ops k0 (L.setIfInBounds i true) ((t,v)::Γ) w')(j:Tl M w w':=by exact Tl.refl _ _):AG M P n N R X ops k0 L Γ w:=by
 simp only[i3,decide_eq_true_eq,beq_iff_eq] at d
 obtain ⟨⟨⟨h1,h⟩,l⟩,f⟩:=d;obtain ⟨c,o⟩:=lm h1;intro a b;refine A.one h1 c (R':=fun u w1=>u=v/\w1=w') ⟨b.want p,.inl ⟨v,w',?_,rfl,rfl⟩⟩ (fun _ _ e=>e.2▸j) ?_
 ·rw[b.exec (Region.noSelect_spec o i _ · · c) h];exact hr
 ·rintro _ _ ⟨rfl,rfl⟩
  rw[l];exact k _ (b.put f _)
theorem T.store (i:Nat)(w':World)(d:(g6 ops k0 L i && aY Γ (ak ops i) && ((ak ops i).dst == none))=true)(l:bg ops Γ (ak ops i)=some true)
  (hr:(execOp (ev Γ) (ak ops i)).run P w=.ok .skip w')(h:Tl M w w')(k:AG M P n N R X ops k0 (L.setIfInBounds i true) Γ w'):AG M P n N R X ops k0 L Γ w:=by
 simp only[i3,beq_iff_eq] at d
 obtain ⟨⟨h1,f⟩,j⟩:=d;obtain ⟨c,o⟩:=lm h1;intro a b;refine A.one h1 c (R':=fun u w1=>u=undef/\w1=w') ⟨b.want l,.inr (.inl ⟨w',?_,rfl,rfl⟩)⟩ (fun _ _ e=>e.2▸h) ?_
 ·rw[b.exec (Region.noSelect_spec o i _ · · c) f];exact hr
 ·rintro _ _ ⟨rfl,rfl⟩
  rw[j];exact k _ b
theorem T.done (c:(Region.ready .any ops L).isEmpty=true)(k:∀ a,Kn n a Γ->N a w):AG M P n N R X ops k0 L Γ w :=
 fun a b=>A.done c (k a b)
theorem T.next {y:Code}{N' R':Po}{X':Nat->Po}(b:(Region.ready .any ops L).isEmpty=true)(k:CG P n N' R' X' y Γ w):AG M P n (fun a w=>y.wp P (iB N' R' X') a w) R X ops k0 L Γ w :=
 fun a c=>A.done b (k a c)
end steps
section code
variable {P:Program}{n:Nat}{N R:Po}{X:Nat->Po}{Γ:cl}{w:World}
def kU (ops:Array Oper):Bool:=(ov ops.size).all fun i=>(ak ops i).after.all fun e=>!Region.binds .any e || decide (e.on<i)
theorem oL {M:Ms}{ops:Array Oper}{Q:Exit->Act->World->Prop}{k0:Nat}(h:kU ops=true):∀ (m k:Nat) (L:Array Bool) (a:Act) (w:World),k+m=ops.size->L.size=ops.size ->
    (∀ j,j<ops.size->L.getD j true=decide (j<k))->A M P ops Q k0 L a w->wpOps P ops Q (sA k m) a w:=by
  intro m
  induction m with
  | zero =>
    intro k L a w hk u b d
    have hz:Region.ready .any ops L=[]:=by
      cases hr:Region.ready .any ops L with
      | nil=>rfl
      | cons i l =>
        have I:i∈Region.ready .any ops L:=by rw[hr];simp
        obtain ⟨h0,o,z,_⟩:=mem_ready.1 I;have hi:=(hO.1 z).1;rw[b i hi] at h0
        simp at h0
        omega
    show Q .normal a w
    unfold A at d
    cases hn:rem L with
    | zero=>rw[hn] at d;exact d.2
    | succ n=>rw[hn] at d;exact d.1 hz
  | succ m ih =>
    intro k L a w hk u b d;have f:k<ops.size:=by omega
    have c:k∈Region.ready .any ops L:=by
      refine mem_ready.2 ⟨by rw[b k f];simp,ak ops k,bv f,fun e B C=>?_⟩;have h1:=(oi.1 h) k (o0.2 f);have x:=(na.1 h1) e B
      simp only[C,sr,Bool.false_or,decide_eq_true_eq] at x
      have p:=b e.on oM;rw[show decide (e.on<k)=true by simp[x]] at p
      have D:e.on<L.size:=by omega
      simp[gg,D] at p ⊢
      exact p
    rw[s0,wpOps_cons]
    unfold A at d
    rw[fU c] at d
    refine wpOp_mono (fun F w' H=>?_) (d.2 k c);refine ih (k+1) (L.setIfInBounds k true) F w' oM (by simpa using u) ?_ H.2;intro j y
    by_cases e:k=j
    . subst e
      simp[gg,u,y]
    . rw[getD_set_ne true e,b j y]
      congr 1
      simp only[eq_iff_iff]
      omega
theorem jn (m:Nat):rem (s3 m false)=m:=by unfold rem;simp
theorem mK {m j:Nat}(a:j<m):(s3 m false).getD j true=false:=by simp[gg,a]
theorem CG.region {id:Nat}{ops:Array Oper}{d:Bool}(M:Ms)(k0:Nat)(AL:List Al)(z:P.follows .mixedOrders=true)(c:kU ops=true){h:Hp}(g:G w h)(e:∀ x∈AL,AlOk P ops k0 x)(hM:∀ b∈M.l,b<h.size)
    (H:EG M P n N R X ops k0 h AL (s3 ops.size false) Γ w h):CG P n N R X (.region id ops d) Γ w:=by
  intro a y;have i:∀ w' f,Up w h w' f->A M P ops (iB N R X) k0 (s3 ops.size false) a w':=fun w' f u=>H e hM g (eb _) a y w' f u [] AL (List.Perm.refl _) (fun _ o=>by cases o) (by simp)
  cases d with
  | true =>
    refine wp_region_any z ?_;have h1:=i w.drew h (Up.drew (Up.refl g))
    unfold A at h1
    rw[jn] at h1
    exact mL _ _ _ _ _ _ _ _ _ h1
  | false =>
    refine wp_region ?_;rw[s5];exact oL c _ 0 _ a w oM (by simp) (fun j p=>by rw[mK p];simp) (i w h (Up.refl g))
theorem CG.seq {x y:Code}(H:CG P n (fun a w=>y.wp P (iB N R X) a w) R X x Γ w):CG P n N R X (.seq x y) Γ w:=by
 intro a b;refine wp_seq (wp_mono (H a b) ?_);intro e a w c;cases e<;>exact c
theorem CG.cond {c:Operand}{x y:Code}(t:Bool)(f:iI Γ c=true)(hv:ev Γ c=.bool t)(d:t=true->CG P n N R X x Γ w)(hf:t=false->CG P n N R X y Γ w):CG P n N R X (.cond c x y) Γ w :=
 fun a b=>wp_cond_split (by rw[b.eval f];exact hv) (fun e=>d e a b) (fun e=>hf e a b)
theorem CG.condT {c:Operand}{x y:Code}(a:iI Γ c=true)(hv:ev Γ c=.bool true)(b:CG P n N R X x Γ w):CG P n N R X (.cond c x y) Γ w:=CG.cond true a hv (fun _=>b) (fun e=>by cases e)
theorem CG.condF {c:Operand}{x y:Code}(a:iI Γ c=true)(hv:ev Γ c=.bool false)(b:CG P n N R X y Γ w):CG P n N R X (.cond c x y) Γ w:=CG.cond false a hv (fun e=>by cases e) (fun _=>b)
theorem CG.skip (H:∀ a,Kn n a Γ->N a w):CG P n N R X .skip Γ w:=fun a b=>wp_skip (H a b)
theorem CG.skipN {y:Code}{N' R':Po}{X':Nat->Po}(H:CG P n N' R' X' y Γ w):CG P n (fun a w=>y.wp P (iB N' R' X') a w) R X .skip Γ w:=fun a b=>wp_skip (H a b)
theorem CG.ret (H:∀ a,Kn n a Γ->R a w):CG P n N R X .ret Γ w:=fun a b=>wp_ret (H a b)
theorem CG.exit {id:Nat}(H:∀ a,Kn n a Γ->X id a w):CG P n N R X (.exit id) Γ w:=fun a b=>wp_exit (H a b)
theorem CG.block {id:Nat}{c:Code}(H:CG P n N R (fun i=>if i=id then N else X i) c Γ w):CG P n N R X (.block id c) Γ w:=by
 intro a f;refine wp_block (wp_mono (H a f) ?_);intro e a w d;cases e<;>try exact d
 rename_i i
 simp only[iB] at d
 simp only[Exit.inBlock,iB]
 split
 ·rename_i b;rw[if_pos b] at d;exact d
 ·rename_i b;rw[if_neg b] at d;exact d
theorem CG.to {c:Code}(Γ':cl)(e:j5 Γ (Γ'.map (·.1))=Γ')(b:gk Γ'=gk Γ)(H:CG P n N R X c Γ' w):CG P n N R X c Γ w :=
 fun a d=>H a (d.mono (fun t v hv=>fJ Γ (Γ'.map (·.1)) t v (by rw[e];exact hv)) b)
theorem Kn.to {a:Act}(k:Kn n a Γ)(Γ':cl)(c:j5 Γ (Γ'.map (·.1))=Γ')(b:gk Γ'=gk Γ:=by kernel_rfl):Kn n a Γ' :=
 k.mono (fun t v hv=>fJ Γ (Γ'.map (·.1)) t v (by rw[c];exact hv)) b
theorem CG.loop {c:Code}(I:Nat->cl->World->Prop)(m:Nat)(h0:I m Γ w)
    (u:∀ m Γ w,I m Γ w->CG P n (fun a w'=>∃ C j,C<m/\I C j w'/\Kn n a j) R X c Γ w):CG P n N R X (.loop c) Γ w:=by
  intro a K
  suffices key:∀ m a w Γ,I m Γ w->Kn n a Γ->∀ (b:Frame) (k:List Item) (cs:List Frame),∃ e D w',iB N R X e D w'/\Arrives P (lone (b.at a (.code c::.inLoop c::k)) cs w) b k cs e D w' by
    intro b k cs;obtain ⟨e,D,w',o,d⟩:=key m a w Γ h0 K b k cs;exact ⟨e,D,w',o,.of_steps (.one step_loop) d⟩
  intro m
  induction m using g4 with
  | _ m ih =>
    intro a w Γ L K b k cs;obtain ⟨e,h,i,o,d⟩:=u m Γ w L a K b (.inLoop c::k) cs;cases e with
    | normal =>
      obtain ⟨C,j,F,J,H⟩:=o;obtain ⟨B,z,y,p,f⟩:=ih C F h i j J H b k cs;exact ⟨B,z,y,p,.of_steps (Steps.trans d (.one step_inLoop)) f⟩
    | exit id=>exact ⟨.exit id,h,i,o,.pass (x:=.inLoop c) rfl (fun _ _=>.inl (by simp)) d⟩
    | goto l=>exact o.elim
    | ret=>exact ⟨.ret,h,i,o,.pass (x:=.inLoop c) rfl (fun _ _=>.inl (by simp)) d⟩
    | panic ch=>exact o.elim
    | outgrown=>exact o.elim
def envOf (l:List Value):cl:=go 0 l
where go:Nat->List Value->cl
  | _,[]=>[]
  | k,v::l=>(k,v)::go (k+1) l
theorem rv:∀ (l:List Value) (k t:Nat) (v:Value),(envOf.go k l).lookup t=some v->k<=t/\l[t-k]?=some v
  | [],_,_,_,h=>by simp[envOf.go] at h
  | u :: l,k,t,v,h=>by
    rw[envOf.go,hP] at h
    by_cases e:t=k
    . subst e;simp at h;subst h;exact ⟨eb _,by simp⟩
    . have b:(t == k)=false:=by simp[e]
      rw[b] at h
      obtain ⟨h1,a⟩:=rv l (k+1) t v h;refine ⟨by omega,?_⟩;obtain ⟨d,hd⟩:∃ d,t-k=d+1:=⟨t-k-1,by omega⟩;rw[hd];have:t-(k+1)=d:=by omega
      rw[this] at a
      simpa using a
theorem jL {l:List Value}{t:Nat}{v:Value}(h:(envOf l).lookup t=some v):l[t]?=some v:=by
 have:=rv l 0 t v h
 simpa using this.2
def pm (P:Program)(fn:Func)(Ro:Ending->World->Prop):Po:=fun a w=>a.defers=[]/\∃ v,(results fn a.tmps).run P w=.ok v w/\Ro (.returned v) w
theorem enter {f:FuncId}{d:Func}{c:Code}{args:Array Value}{p:Ending->World->Prop}(hf:P.funcs[f]?=some d)(u:d.body=some c)(hn:d.ntmps=n)(x:args.size<=n)(j:n<=1000000)
    (Γ0:cl)(h:Γ0=envOf args.toList)(H:CG P n (pm P d p) (pm P d p) (fun _ _ _=>False) c Γ0 w):Calls P f args w p:=by
  refine calls_of_wp hf u (wp_mono (H _ ⟨?_,?_,j,?_⟩) ?_)
  . show []=gk Γ0
    unfold gk
    cases e:Γ0.lookup 1000000 with
    | none=>rfl
    | some v =>
      rw[h] at e
      have h1:=jL e;rw[s9 (by simp;omega)] at h1
      cases h1
  . simp;omega
  . intro t v _ hv
    rw[h] at hv
    have h1:=jL hv
    have o:t<args.size:=by
      rcases dS t args.size with hl|hl
      . exact hl
      . rw[s9 (by simpa using hl)] at h1;cases h1
    rw[ta o]
    simpa using h1
  . intro e a w b
    cases e with
    | normal=>exact b
    | ret=>exact b
    | exit i=>exact b.elim
    | goto l=>exact b.elim
    | panic ch=>exact b.elim
    | outgrown=>exact b.elim
def LG (P:Program)(n:Nat)(N R:Po)(X:Nat->Po)(ops:Array Oper)(k:Nat)(Γ:cl)(w:World):Prop :=
  ∀ a,Kn n a Γ->wpOps P ops (iB N R X) (sA k (ops.size-k)) a w
theorem CG.listed {id:Nat}{ops:Array Oper}(H:LG P n N R X ops 0 Γ w):CG P n N R X (.region id ops false) Γ w :=
 fun a b=>wp_region (by rw[s5];exact H a b)
section listed
variable {ops:Array Oper}{k:Nat}
def io (ops:Array Oper)(Γ:cl)(k:Nat):Bool:=decide (k<ops.size) && Region.noSelect ops && aY Γ (ak ops k)
theorem LG.op (b:io ops Γ k=true)(e:bg ops Γ (ak ops k)=some true){R':Value->World->Prop}
  (h:∀ a,Kn n a Γ->OpR P ops (ak ops k) a w R')(d:∀ a v w',Kn n a Γ->R' v w'->wpOps P ops (iB N R X) (sA (k+1) (ops.size-(k+1))) (a.put (ak ops k).dst v) w'):LG P n N R X ops k Γ w:=by
 unfold io at b
 simp only[i3,decide_eq_true_eq] at b
 intro a c;obtain ⟨m,hm⟩:∃ m,ops.size-k=m+1:=⟨ops.size-k-1,by omega⟩;rw[hm,s0,wpOps_cons];refine OpR.wpOp (bv b.1.1) (h a c) (fun v w' hr=>?_);have:=d a v w' c hr;rw[show ops.size-(k+1)=m by omega] at this
 exact this
theorem LG.val (t:Nat)(v:Value)(w':World)(d:(io ops Γ k && ((ak ops k).dst == some t) && decide (t<n))=true)(e:bg ops Γ (ak ops k)=some true)
  (hr:(execOp (ev Γ) (ak ops k)).run P w=.ok (.value v) w')(H:LG P n N R X ops (k+1) ((t,v)::Γ) w'):LG P n N R X ops k Γ w:=by
 simp only[i3,decide_eq_true_eq,beq_iff_eq] at d
 obtain ⟨⟨h1,f⟩,h⟩:=d;have b:=h1
 unfold io at b
 simp only[i3,decide_eq_true_eq] at b
 refine LG.op h1 e (R':=fun u w1=>u=v/\w1=w') (fun a c=>⟨c.want e,.inl ⟨v,w',?_,rfl,rfl⟩⟩) ?_
 ·rw[c.exec (Region.noSelect_spec b.1.2 k _ · · (bv b.1.1)) b.2];exact hr
 ·rintro a _ _ c ⟨rfl,rfl⟩
  rw[f];exact H _ (c.put h _)
theorem LG.out (t:Nat)(b:(decide (k<ops.size) && ((ak ops k).dst == some t) && decide (t<n))=true)(f:bg ops Γ (ak ops k)=some false)
  (H:LG P n N R X ops (k+1) ((t,undef)::Γ) w):LG P n N R X ops k Γ w:=by
 simp only[i3,decide_eq_true_eq,beq_iff_eq] at b
 obtain ⟨⟨h1,d⟩,e⟩:=b;intro a c;obtain ⟨m,hm⟩:∃ m,ops.size-k=m+1:=⟨ops.size-k-1,by omega⟩;rw[hm,s0,wpOps_cons]
 unfold wpOp
 simp only[bv h1,c.want f,sb,if_false]
 have:=H _ (c.put e undef);rw[show ops.size-(k+1)=m by omega] at this
 rw[d];exact this
theorem LG.store (w':World)(d:(io ops Γ k && ((ak ops k).dst == none))=true)(e:bg ops Γ (ak ops k)=some true)
  (hr:(execOp (ev Γ) (ak ops k)).run P w=.ok .skip w')(H:LG P n N R X ops (k+1) Γ w'):LG P n N R X ops k Γ w:=by
 simp only[i3,beq_iff_eq] at d
 obtain ⟨h1,f⟩:=d;have b:=h1
 unfold io at b
 simp only[i3,decide_eq_true_eq] at b
 refine LG.op h1 e (R':=fun u w1=>w1=w') (fun a c=>⟨c.want e,.inr (.inl ⟨w',?_,rfl⟩)⟩) ?_
 ·rw[c.exec (Region.noSelect_spec b.1.2 k _ · · (bv b.1.1)) b.2];exact hr
 ·rintro a _ _ c rfl
  rw[f];exact H _ c
theorem LG.call (t f:Nat)(args:Array Value)(d:(io ops Γ k && ((ak ops k).dst == some t) && decide (t<n))=true)(i:bg ops Γ (ak ops k)=some true)
  (hr:(execOp (ev Γ) (ak ops k)).run P w=.ok (.enter f args) w)(H:Calls P f args w (fun e w'=>∃ v,e=.returned v/\LG P n N R X ops (k+1) ((t,v)::Γ) w')):LG P n N R X ops k Γ w:=by
 simp only[i3,decide_eq_true_eq,beq_iff_eq] at d
 obtain ⟨⟨h1,j⟩,l⟩:=d;have b:=h1
 unfold io at b
 simp only[i3,decide_eq_true_eq] at b
 refine LG.op h1 i (R':=fun v w'=>LG P n N R X ops (k+1) ((t,v)::Γ) w') (fun a c=>⟨c.want i,.inr (.inr ⟨f,args,?_,H⟩)⟩) ?_
 ·rw[c.exec (Region.noSelect_spec b.1.2 k _ · · (bv b.1.1)) b.2];exact hr
 ·rintro a v w' c h
  rw[j];exact h _ (c.put l _)
theorem LG.done (b:(k == ops.size)=true)(H:∀ a,Kn n a Γ->N a w):LG P n N R X ops k Γ w:=by
 simp only[beq_iff_eq] at b
 subst b;intro a c;rw[tf];exact H a c
theorem LG.next {y:Code}{N' R':Po}{X':Nat->Po}(b:(k == ops.size)=true)(H:CG P n N' R' X' y Γ w):LG P n (fun a w=>y.wp P (iB N' R' X') a w) R X ops k Γ w:=LG.done b H
end listed
theorem ao {ops:Array Oper}{k0:Nat}:∀ x∈([]:List Al),AlOk P ops k0 x:=fun _ h=>by cases h
theorem bw {ops:Array Oper}{k0:Nat}{x:Al}{l:List Al}(h:AlOk P ops k0 x)(k:∀ y∈l,AlOk P ops k0 y):∀ y∈x::l,AlOk P ops k0 y:=fun y a=>by
 rcases g2.1 a with rfl|a
 ·exact h
 ·exact k y a
def ER (ops:Array Oper)(k0:Nat)(x:Al):Bool:=decide (x.i<ops.size) && ((ak ops x.i).dst == some x.t) && (ak ops x.i).guard.isNone && (ak ops x.i).after.isEmpty && decide (x.i<k0)
theorem ee {ops:Array Oper}{k0:Nat}{x:Al}(a:ER ops k0 x=true)(hr:∀ (ρ:Operand->Value) (w:World),(execOp ρ (ak ops x.i)).run P w=.ok (.value (.pointer (some ⟨w.heap.size,0,none⟩))) (w.alloc x.o)):AlOk P ops k0 x:=by
 unfold ER at a
 simp only[i3,decide_eq_true_eq,beq_iff_eq,Option.isNone_iff_eq_none,Array.isEmpty_iff] at a
 exact ⟨⟨_,bv a.1.1.1.1,a.1.1.1.2,a.1.1.2,a.1.2,hr⟩,a.2⟩
end code
def bS {α:Type}(P:Program):Sem α->List Value->Option (α × List Addr)
  | .pure a,_=>some (a,[])
  | .load _ a k,v::vs=>(bS P (k v) vs).map fun r=>(r.1,a::r.2)
  | .program k,vs=>bS P (k P) vs
  | .mark _ k,vs=>bS P k vs
  | _,_=>none
theorem bR {α:Type}{P:Program}{w:World}:∀ (s:Sem α) (vs:List Value) (r:α) (l:List Addr),bS P s vs=some (r,l) ->
    (∀ (i:Nat) a v,l[i]?=some a->vs[i]?=some v->w.cell? a=some v)->s.run P w=.ok r w:=by
  intro s
  induction s with
  | pure a=>intro vs r l h _;simp[bS] at h;simp[Sem.run,h.1]
  | load m a k ih =>
    intro vs r l h b;cases vs with
    | nil=>simp[bS] at h
    | cons v vs =>
      simp only[bS,ti] at h
      obtain ⟨⟨f,e⟩,h1,c⟩:=h
      injection c with e1 e2
      subst e1;subst e2;have h0:=b 0 a v (by simp) (by simp)
      simp only[Sem.run,h0]
      exact ih v vs _ _ h1 (fun i d v' ha hv=>b (i+1) d v' (by simpa using ha) (by simpa using hv))
  | program k ih=>intro vs r l h b;exact ih P vs r l h b
  | mark m k ih=>intro vs r l h b;exact ih vs r l h b
  | _=>intro vs r l h _;simp[bS] at h
def dE {α:Type}(P:Program):Sem α->Option (α × List (Addr × Value))
  | .pure a=>some (a,[])
  | .store _ _ (.agg _) _=>none
  | .store _ _ (.tuple _) _=>none
  | .store _ a v k=>(dE P k).map fun r=>(r.1,(a,v)::r.2)
  | .program k=>dE P (k P)
  | .mark _ k=>dE P k
  | _=>none
structure Put (b:Nat) (w w':World):Prop where
  os:w'.os=w.os
  tape:w'.tape=w.tape
  output:w'.output=w.output
  size:w'.heap.size=w.heap.size
  blk:∀ c,c≠b->w'.heap[c]?=w.heap[c]?
theorem Put.tl {b:Nat}{w w':World}(p:Put b w w'){M:Ms}(hz:∀ K bs,M.z=some (K,bs)->K<=b\/b∈bs):Tl M w w':=fun K bs e=>⟨Nat.le_of_eq p.size.symm,fun c a hn=>p.blk c (fun h=>by
 rcases hz K bs e with h1|h1
 ·omega
 ·exact hn (h▸h1))⟩
theorem Put.refl (b:Nat)(w:World):Put b w w:=⟨rfl,rfl,rfl,rfl,fun _ _=>rfl⟩
theorem Put.trans {b:Nat}{w1 w2 w3:World}(p:Put b w1 w2)(q:Put b w2 w3):Put b w1 w3 :=
 ⟨q.os.trans p.os,q.tape.trans p.tape,q.output.trans p.output,q.size.trans p.size,fun c a=>(q.blk c a).trans (p.blk c a)⟩
theorem Put.set (w:World)(p:Addr)(v:Value):Put p.block w (w.setCell p v) :=
 ⟨rfl,rfl,rfl,by simp,fun c a=>Below.heap_setCell _ _ _ _ a⟩
def Own (w:World)(b:Nat)(t:TypeId)(vs:List Value):Prop:=w.heap[b]?=some (.cells vs.toArray t (0,0))
theorem Own.cell {w:World}{b:Nat}{t:TypeId}{vs:List Value}(h:Own w b t vs)(i:Nat):w.cell? ⟨b,i,none⟩=vs[i]?:=by
 unfold World.cell?;rw[show w.heap[b]?=_ from h];simp
theorem Own.frozen {w:World}{b:Nat}{t:TypeId}{vs:List Value}(h:Own w b t vs)(i:Nat):w.frozen? ⟨b,i,none⟩=false:=by
 unfold World.frozen?;rw[show w.heap[b]?=_ from h];simp
theorem Own.set {w:World}{b:Nat}{t:TypeId}{vs:List Value}(h:Own w b t vs)(i:Nat)(v:Value):Own (w.setCell ⟨b,i,none⟩ v) b t (vs.set i v):=by
 unfold Own World.setCell
 simp only[Array.getElem?_modify,if_true,show w.heap[b]?=_ from h,tj]
 simp
theorem Own.lt {w:World}{b:Nat}{t:TypeId}{vs:List Value}(h:Own w b t vs):b<w.heap.size:=by
 rcases dS b w.heap.size with hl|hl
 ·exact hl
 ·unfold Own at h;rw[ea hl] at h;cases h
theorem Own.ext {w w':World}{b:Nat}{t:TypeId}{vs:List Value}(h:Own w b t vs)(x:Ext w w'):Own w' b t vs:=(Below.block x b h.lt).trans h
def bY (vs:List Value)(o:Nat):List Value->List Value
  | []=>vs
  | c::cs=>bY (vs.set o c) (o+1) cs
def lf (b o:Nat):List Value->List (Addr × Value)
  | []=>[]
  | c::cs=>(⟨b,o,none⟩,c)::lf b (o+1) cs
theorem fd {α:Type}{P:Program}{b:Nat}{t:TypeId}:∀ (s:Sem α) (r:α) (o:Nat) (cs vs:List Value) (w:World),dE P s=some (r,lf b o cs)->Own w b t vs->o+cs.length<=vs.length ->
    ∃ w',s.run P w=.ok r w'/\Put b w w'/\Own w' b t (bY vs o cs):=by
  intro s
  induction s with
  | pure a =>
    intro r o cs vs w h d _
    simp only[dE,Option.some.injEq,Prod.mk.injEq] at h
    obtain ⟨h1,f⟩:=h;cases cs with
    | nil=>exact ⟨w,by simp[Sem.run,h1],Put.refl _ _,d⟩
    | cons c cs=>simp[lf] at f
  | store m a v k ih =>
    intro r o cs vs w h d i
    have y:∃ e,dE P k=some e/\(e.1,(a,v)::e.2)=(r,lf b o cs)/\(∀ l,v≠.agg l)/\∀ l,v≠.tuple l:=by
      cases v<;>simp only[dE,ti] at h<;>first|(obtain ⟨e,h1,f⟩:=h;exact ⟨e,h1,f,by simp,by simp⟩)|cases h
    obtain ⟨⟨e,D⟩,h1,f,u,p⟩:=y
    injection f with e1 e2
    cases cs with
    | nil=>simp[lf] at e2
    | cons c cs =>
      simp only[lf,List.cons.injEq,Prod.mk.injEq] at e2
      obtain ⟨⟨B,ev⟩,C⟩:=e2;subst B;subst ev;subst C;subst e1
      simp only[tq] at i
      have x:w.cell? ⟨b,o,none⟩=some (vs[o]'oM):=by rw[d.cell,List.getElem?_eq_getElem]
      obtain ⟨w',hr,z,j⟩:=ih _ (o+1) cs (vs.set o v) (w.setCell ⟨b,o,none⟩ v) h1 (d.set o v) (by simp;omega);refine ⟨w',?_,(Put.set w ⟨b,o,none⟩ v).trans z,j⟩
      have:(Sem.store m ⟨b,o,none⟩ v k).run P w=k.run P (w.setCell ⟨b,o,none⟩ v):=by
        cases v<;>first|(simp only[Sem.run,x,d.frozen];rfl)|exact absurd rfl (u _)|exact absurd rfl (p _)
      rw[this];exact hr
  | program k ih=>intro r o cs vs w h d i;exact ih P r o cs vs w h d i
  | mark m k ih=>intro r o cs vs w h d i;exact ih r o cs vs w h d i
  | _=>intro r o cs vs w h _ _;simp[dE] at h
structure Bx where
  b:Nat
  t:TypeId
  vs:List Value
  deriving Inhabited
structure St (w0:World) (h0:Hp) (w:World) (h:Hp) (B:List Bx):Prop where
  up:Up w0 h0 w h
  own:∀ x∈B,Own w x.b x.t x.vs
  jk:∀ x∈B,h[x.b]?=some be
  lo:∀ x∈B,h0.size<=x.b
  nd:(B.map (·.b)).Nodup
theorem aR {h:Hp}{b:Nat}{o:Obj}(e:h[b]?=some o):b<h.size:=by
 rcases dS b h.size with hl|hl
 ·exact hl
 ·rw[ea hl] at e;cases e
section st
variable {w0:World}{h0:Hp}{w:World}{h:Hp}{B:List Bx}
theorem St.start (g:G w h):St w h w h []:=⟨Up.refl g,fun _ a=>(by cases a),fun _ a=>(by cases a),fun _ a=>(by cases a),by simp⟩
theorem St.step (s:St w0 h0 w h B){w':World}{b:Hp}(u:Up w h w' b):St w0 h0 w' b B :=
 ⟨s.up.trans u,fun x a=>(s.own x a).ext u.ext,fun x a=>(u.gr.blk _ (aR (s.jk x a))).trans (s.jk x a),s.lo,s.nd⟩
theorem St.g (s:St w0 h0 w h B):G w h:=s.up.g
theorem St.sz (s:St w0 h0 w h B):h0.size<=h.size:=s.up.gr.size
theorem St.new {wr:World}{hr:Hp}{e:List Bx}{x:Al}{b:Nat}(j:St w0 h0 wr hr e)(s:St w0 h0 w h B)(hB:∀ y∈B,y.b<hr.size\/y.b≠b)(k:Blk hr w h (x,b))(t:TypeId)(vs:List Value)(f:x.o=.cells vs.toArray t (0,0)) :
  St w0 h0 w h (⟨b,t,vs⟩::B):=by
 obtain ⟨p,k2,c⟩:=k;refine ⟨s.up,?_,?_,?_,?_⟩
 ·intro y a
  rcases g2.1 a with rfl|a
  ·show w.heap[b]?=_
   rw[<-f];exact p
  ·exact s.own y a
 ·intro y a
  rcases g2.1 a with rfl|a
  ·exact k2
  ·exact s.jk y a
 ·intro y a
  rcases g2.1 a with rfl|a
  ·exact ep j.sz c
  ·exact s.lo y a
 ·refine g3.2 ⟨fun u=>?_,s.nd⟩
  obtain ⟨y,a,d⟩:=gx.1 u
  rcases hB y a with hl|hl
  ·have l:y.b=b:=d
   have i:hr.size<=b:=c
   omega
  ·exact hl d
theorem St.new1 {wr:World}{hr:Hp}{x:Al}{b:Nat}(a:St w0 h0 wr hr B)(s:St w0 h0 w h B)(k:Blk hr w h (x,b))(t:TypeId)(vs:List Value)(d:x.o=.cells vs.toArray t (0,0)) :
 St w0 h0 w h (⟨b,t,vs⟩::B):=St.new a s (fun y c=>.inl (aR (a.jk y c))) k t vs d
theorem St.new2 {wr:World}{hr:Hp}{x y:Al}{b c:Nat}(i:St w0 h0 wr hr B)(s:St w0 h0 w h B)(k:Blk hr w h (x,b))(k2:Blk hr w h (y,c))(f:b≠c)(t:TypeId)(vs:List Value)(j:x.o=.cells vs.toArray t (0,0))(d:TypeId)(a:List Value)(e:y.o=.cells a.toArray d (0,0)) :
  St w0 h0 w h (⟨b,t,vs⟩::⟨c,d,a⟩::B) :=
 St.new i (St.new1 i s k2 d a e) (fun z hz=>by
  rcases g2.1 hz with rfl|hz
  ·exact .inr (Ne.symm f)
  ·exact .inl (aR (i.jk z hz))) k t vs j
def av (B:List Bx)(j:Nat):Bx:=B.getD j default
def gl (B:List Bx)(j o:Nat)(cs:List Value):List Bx:=B.set j { av B j with vs:=bY (av B j).vs o cs }
theorem bu {j:Nat}(h:j<B.length):av B j∈B:=by
 unfold av
 have:B.getD j default=B[j]:=by simp[h]
 rw[this];exact gp h
theorem Up.put {b:Nat}{w':World}(u:Up w0 h0 w h)(p:Put b w w')(a:h[b]?=some be)(i:h0.size<=b)(f:w0.heap.size=h0.size):Up w0 h0 w' h:=by
 refine ⟨⟨p.os.trans u.ext.os,p.tape.trans u.ext.tape,p.output.trans u.ext.output,by rw[p.size];exact u.ext.size,fun c d=>?_⟩,u.gr,⟨by rw[p.size];exact u.g.size,fun c=>?_⟩⟩
 ·rw[p.blk c oM]
  exact Below.block u.ext c d
 ·by_cases e:c=b
  ·subst e;exact .inr a
  ·rw[p.blk c e];exact u.g.blk c
theorem St.put (s:St w0 h0 w h B)(H:G w0 h0){j o:Nat}{cs:List Value}{w':World}(f:j<B.length)(p:Put (av B j).b w w')(I:Own w' (av B j).b (av B j).t (bY (av B j).vs o cs)):St w0 h0 w' h (gl B j o cs):=by
  have F:=bu f
  have a:(gl B j o cs).map (·.b)=B.map (·.b):=by
    unfold gl
    rw[tu]
    apply tv
    intro i
    by_cases e:j=i
    . subst e
      rw[tw (by simpa using f)]
      simp[av,f]
    . rw[tz e]
  refine ⟨s.up.put p (s.jk _ F) (s.lo _ F) H.size,?_,?_,?_,by rw[a];exact s.nd⟩
  . intro x d
    obtain ⟨i,hi,c⟩:=ua.1 d;have l:i<B.length:=by simpa [gl] using hi
    by_cases e:j=i
    . subst e
      have:x={ av B j with vs:=bY (av B j).vs o cs }:=by rw[<-c];simp[gl]
      subst this;exact I
    . have D:x=B[i]:=by rw[<-c];simp[gl,e]
      subst D
      have C:B[i].b≠(av B j).b:=by
        intro z
        have h1:(B.map (·.b))[i]'(by simpa using l)=(B.map (·.b))[j]'(by simpa using f):=by
          simp only[ub]
          rw[z]
          simp[av,f]
        exact e ((ul s.nd).1 h1).symm
      show w'.heap[B[i].b]?=_
      rw[p.blk _ C];exact s.own _ (gp l)
  . intro x d
    have:x.b∈(gl B j o cs).map (·.b):=gx.2 ⟨x,d,rfl⟩;rw[a] at this
    obtain ⟨y,u,c⟩:=gx.1 this;rw[<-c];exact s.jk y u
  . intro x d
    have:x.b∈(gl B j o cs).map (·.b):=gx.2 ⟨x,d,rfl⟩;rw[a] at this
    obtain ⟨y,u,c⟩:=gx.1 this;rw[<-c];exact s.lo y u
def kF (b o:Nat):Nat->List Addr
  | 0=>[]
  | n+1=>⟨b,o,none⟩::kF b (o+1) n
theorem eZ (b:Nat):∀ (n o i:Nat) (a:Addr),(kF b o n)[i]?=some a->a=⟨b,o+i,none⟩
  | 0,_,_,_,h=>by simp[kF] at h
  | n+1,o,0,a,h=>by simp[kF] at h;rw[<-h];rfl
  | n+1,o,i+1,a,h=>by
    have:=eZ b n (o+1) i a (by simpa [kF] using h);rw[this];congr 1;omega
def dj (B:List Bx):List (Nat × Nat × Nat)->List Value
  | []=>[]
  | p::ps=>((av B p.1).vs.drop p.2.1).take p.2.2++dj B ps
def cc (B:List Bx):List (Nat × Nat × Nat)->List Addr
  | []=>[]
  | p::ps=>kF (av B p.1).b p.2.1 p.2.2++cc B ps
def cC (B:List Bx)(ps:List (Nat × Nat × Nat)):Bool:=ps.all fun p=>decide (p.1<B.length) && decide (p.2.1+p.2.2<=(av B p.1).vs.length)
theorem iZ (b o n:Nat):(kF b o n).length=n:=by
 induction n generalizing o with
 | zero=>rfl
 | succ n ih=>simp[kF,ih]
theorem dh (d:∀ x∈B,Own w x.b x.t x.vs):∀ (ps:List (Nat × Nat × Nat)),cC B ps=true->∀ (i:Nat) a v,(cc B ps)[i]?=some a->(dj B ps)[i]?=some v->w.cell? a=some v
  | [],_,i,a,v,h,_=>by simp[cc] at h
  | p :: ps,hok,i,a,v,ha,hv=>by
    unfold cC at hok
    rw[um,i3] at hok
    obtain ⟨h1,e⟩:=hok
    simp only[i3,decide_eq_true_eq] at h1
    have c:(((av B p.1).vs.drop p.2.1).take p.2.2).length=p.2.2:=by simp;omega
    unfold cc at ha
    unfold dj at hv
    rcases dS i p.2.2 with hl|hl
    . rw[uA (by rw[iZ];exact hl)] at ha
      rw[uA (by rw[c];exact hl)] at hv
      rw[eZ _ _ _ _ _ ha,(d _ (bu h1.1)).cell];rw[u9 hl,vi] at hv
      exact hv
    . rw[vj (by rw[iZ];exact hl),iZ] at ha
      rw[vj (by rw[c];exact hl),c] at hv
      exact dh d ps e _ a v ha hv
theorem Own.mo {w w':World}{b:Nat}{t:TypeId}{vs:List Value}{M:List Nat}(h:Own w b t vs)(x:Mo M w w')(a:b ∉ M):Own w' b t vs:=(x.blk b h.lt a).trans h
theorem gY {M:List Nat}{d:List (Nat × Nat × Nat)}(hM:∀ p∈d,(av B p.1).b ∉ M)(e:∀ x∈B,x.b ∉ M->Own w x.b x.t x.vs):∀ (ps:List (Nat × Nat × Nat)),(∀ p∈ps,p∈d)->cC B ps=true->∀ (i:Nat) a v,(cc B ps)[i]?=some a->(dj B ps)[i]?=some v->w.cell? a=some v
  | [],_,_,i,a,v,h,_=>by simp[cc] at h
  | p :: ps,hsub,hok,i,a,v,ha,hv=>by
    unfold cC at hok
    rw[um,i3] at hok
    obtain ⟨h1,f⟩:=hok
    simp only[i3,decide_eq_true_eq] at h1
    have c:(((av B p.1).vs.drop p.2.1).take p.2.2).length=p.2.2:=by simp;omega
    unfold cc at ha
    unfold dj at hv
    rcases dS i p.2.2 with hl|hl
    . rw[uA (by rw[iZ];exact hl)] at ha
      rw[uA (by rw[c];exact hl)] at hv
      rw[eZ _ _ _ _ _ ha,(e _ (bu h1.1) (hM p (hsub p (by simp)))).cell];rw[u9 hl,vi] at hv
      exact hv
    . rw[vj (by rw[iZ];exact hl),iZ] at ha
      rw[vj (by rw[c];exact hl),c] at hv
      exact gY hM e ps (fun q j=>hsub q (by simp[j])) f _ a v ha hv
end st
section own
variable {M:Ms}{P:Program}{n:Nat}{N R:Po}{X:Nat->Po}{ops:Array Oper}{k0:Nat}{hr:Hp}{AL:List Al}{L:Array Bool}{Γ:cl}{w:World}{h:Hp}{w0:World}{h0:Hp}{B:List Bx}
theorem Rg.own (i t:Nat)(ps:List (Nat × Nat × Nat))(v:Value)(s:St w0 h0 w h B)(c:(dY n ops k0 AL L i t && aY Γ (ak ops i) && ja ops k0 i)=true)(e:bg ops Γ (ak ops i)=some true)
  (hM:∀ p∈ps,(av B p.1).b ∉ M.l)(f:cC B ps=true)(o:bS P (execOp (ev Γ) (ak ops i)) (dj B ps)=some (.value v,cc B ps))
  (k:EG M P n N R X ops k0 hr AL (L.setIfInBounds i true) ((t,v)::Γ) w h):EG M P n N R X ops k0 hr AL L Γ w h :=
 Rg.load i t v c e (fun w' d=>bR _ _ _ _ o (gY hM (fun x j a=>(s.own x j).mo d a) ps (fun _ h=>h) f)) k
theorem T.put (i j o:Nat)(cs:List Value)(s:St w0 h0 w h B)(u:G w0 h0)(l:(g6 ops k0 L i && aY Γ (ak ops i) && ((ak ops i).dst == none))=true)(p:bg ops Γ (ak ops i)=some true)
  (f:(decide (j<B.length) && decide (o+cs.length<=(av B j).vs.length))=true)(x:dE P (execOp (ev Γ) (ak ops i))=some (.skip,lf (av B j).b o cs))
  (k:∀ w',Put (av B j).b w w'->St w0 h0 w' h (gl B j o cs)->AG M P n N R X ops k0 (L.setIfInBounds i true) Γ w')(hz:∀ K bs,M.z=some (K,bs)->K<=(av B j).b\/(av B j).b∈bs:=by intro _ _ e;cases e):AG M P n N R X ops k0 L Γ w:=by
 simp only[i3,decide_eq_true_eq] at f
 obtain ⟨w',d,a,c⟩:=fd _ _ _ _ _ w x (s.own _ (bu f.1)) f.2;exact T.store i w' l p d (a.tl hz) (k w' a (s.put u f.1 a c))
theorem LG.own {k:Nat}(t:Nat)(ps:List (Nat × Nat × Nat))(v:Value)(s:St w0 h0 w h B)(a:(io ops Γ k && ((ak ops k).dst == some t) && decide (t<n))=true)(b:bg ops Γ (ak ops k)=some true)
  (c:cC B ps=true)(d:bS P (execOp (ev Γ) (ak ops k)) (dj B ps)=some (.value v,cc B ps))
  (H:LG P n N R X ops (k+1) ((t,v)::Γ) w):LG P n N R X ops k Γ w :=
 LG.val t v w a b (bR _ _ _ _ d (dh s.own ps c)) H
theorem LG.put {k:Nat}(j o:Nat)(cs:List Value)(s:St w0 h0 w h B)(l:G w0 h0)(f:(io ops Γ k && ((ak ops k).dst == none))=true)(i:bg ops Γ (ak ops k)=some true)
  (e:(decide (j<B.length) && decide (o+cs.length<=(av B j).vs.length))=true)(p:dE P (execOp (ev Γ) (ak ops k))=some (.skip,lf (av B j).b o cs))
  (H:∀ w',Put (av B j).b w w'->St w0 h0 w' h (gl B j o cs)->LG P n N R X ops (k+1) Γ w'):LG P n N R X ops k Γ w:=by
 simp only[i3,decide_eq_true_eq] at e
 obtain ⟨w',d,a,c⟩:=fd _ _ _ _ _ w p (s.own _ (bu e.1)) e.2;exact LG.store w' f i d (H w' a (s.put l e.1 a c))
theorem LG.var {k:Nat}(t:Nat)(ty:TypeId)(vs:List Value)(s:St w0 h0 w h B)(a:(io ops Γ k && ((ak ops k).dst == some t) && decide (t<n))=true)(c:bg ops Γ (ak ops k)=some true)
  (hr:(execOp (ev Γ) (ak ops k)).run P w=.ok (.value (.pointer (some ⟨w.heap.size,0,none⟩))) (w.alloc (.cells vs.toArray ty (0,0))))
  (H:∀ b w' h',h.size<=b->Up w h w' h'->St w0 h0 w' h' (⟨b,ty,vs⟩::B)->LG P n N R X ops (k+1) ((t,.pointer (some ⟨b,0,none⟩))::Γ) w'):LG P n N R X ops k Γ w:=by
 have u:Up w h (w.alloc (.cells vs.toArray ty (0,0))) (h.push be):=Up.allocAny s.g _ _ (.inr rfl);refine LG.val t _ _ a c hr (H _ _ _ (by rw[s.g.size];exact eb _) u (St.new1 (x:=⟨0,0,.cells vs.toArray ty (0,0)⟩) s (s.step u) ⟨?_,?_,?_⟩ ty vs rfl))
 ·rw[heap_alloc];exact fo
 ·rw[s.g.size];exact fo
 ·show h.size<=w.heap.size;rw[s.g.size];exact eb _
def qK (fn:Func)(Γ:cl):Sem Value:=do
  let vs <-fn.results.mapM fun
    | .tmp t=>Pure.pure (ev Γ (.tmp t))
    | .cell a t=>do loadVar t (<-asAddr (ev Γ (.tmp a)))
  Pure.pure (if h:vs.size=1 then vs[0] else .tuple vs)
def HY (fn:Func)(Γ:cl):Bool:=fn.results.all fun|.tmp t=>iI Γ (.tmp t)|.cell a _=>iI Γ (.tmp a)
def oY (fn:Func)(Γ:cl):Bool:=(gk Γ).isEmpty && HY fn Γ
theorem ug {a:Func}{Γ:cl}(h:oY a Γ=true):gk Γ=[]:=by
 unfold oY at h;rw[i3] at h;exact List.isEmpty_iff.1 h.1
theorem qt {α β:Type}(l:List α)(f g:α->Sem β)(h:∀ x∈l,f x=g x):l.mapM f=l.mapM g:=by
 induction l with
 | nil=>rfl
 | cons a l ih=>rw[vl,vl,h a (by simp),ih (fun x b=>h x (by simp[b]))]
theorem oV {b:Func}{a:Act}(c:Kn n a Γ)(hk:HY b Γ=true):results b a.tmps=qK b Γ:=by
 unfold results qK
 have e:∀ x∈b.results.toList,((match x with|.tmp t=>Pure.pure (a.tmps.getD t undef)|.cell ad t=>(do loadVar t (<-asAddr (a.tmps.getD ad undef)))):Sem Value)=((match x with|.tmp t=>Pure.pure (ev Γ (.tmp t))|.cell ad t=>(do loadVar t (<-asAddr (ev Γ (.tmp ad))))):Sem Value):=by
  intro x d;have h1:=(na.1 hk) x (by simpa using d);cases x with
  | tmp t=>have:=c.eval h1;simp only[Act.eval] at this;simp only[this]
  | cell ad t=>have:=c.eval h1;simp only[Act.eval] at this;simp only[this]
 rw[v6,v6]
 congr 2
 exact qt _ _ _ e
theorem kK {b:Func}{a:Act}(c:Kn n a Γ)(hk:oY b Γ=true):results b a.tmps=qK b Γ :=
 oV c (by unfold oY at hk;rw[i3] at hk;exact hk.2)
def Ret (w0:World)(h0:Hp)(Φ:Value->Hp->Prop):Ending->World->Prop:=fun e w'=>∃ v h',e=.returned v/\Up w0 h0 w' h'/\Φ v h'
theorem Kt {b:Func}{Φ:Value->Hp->Prop}(s:St w0 h0 w h B)(ps:List (Nat × Nat × Nat))(v:Value)(hk:(oY b Γ && cC B ps)=true)(e:bS P (qK b Γ) (dj B ps)=some (v,cc B ps))(c:Φ v h) :
  ∀ a,Kn n a Γ->pm P b (Ret w0 h0 Φ) a w:=by
 intro a d;rw[i3] at hk
 refine ⟨d.df.trans (ug hk.1),v,?_,v,h,rfl,s.up,c⟩;rw[kK d hk.1];exact bR _ _ _ _ e (dh s.own ps hk.2)
end own
abbrev CV (f:FuncId)(a:Array Value)(w:World)(h:Hp)(x:Value):Prop:=Calls Tryz.prog f a w (Ret w h fun v _=>v=x)
abbrev CR (f:FuncId)(a:Array Value)(w:World)(h:Hp)(Φ:Value->Hp->Prop):Prop:=Calls Tryz.prog f a w (Ret w h Φ)
def dP (h:Hp)(b i:Nat):Option Value :=
  match h[b]? with
  | some (.cells c _ _)=>c[i]?
  | _=>none
structure Gw (h h':Hp):Prop where
  size:h.size<=h'.size
  blk:∀ b:Nat,b<h.size->h'[b]?=h[b]?\/h[b]?=some be
theorem Gr.gw {h a:Hp}(u:Gr h a):Gw h a:=⟨u.size,fun b c=>.inl (u.blk b c)⟩
theorem Bp {h a:Hp}(u:Gw h a){b i:Nat}{v:Value}(e:dP h b i=some v):dP a b i=some v:=by
  unfold dP at *
  cases c:h[b]? with
  | none=>rw[c] at e;cases e
  | some o =>
    rcases u.blk b (aR c) with h1|h1
    . rw[h1];exact e
    . rw[h1] at e;simp[be] at e
theorem jY {w:World}{h:Hp}(g:G w h){b i:Nat}{v:Value}(e:dP h b i=some v):w.cell? ⟨b,i,none⟩=some v:=by
 unfold dP at e
 rcases g.blk b with h1|h1
 ·unfold World.cell?
  rw[<-h1];cases a:h[b]? with
  | none=>rw[a] at e;cases e
  | some o=>rw[a] at e;cases o<;>simp at e ⊢ <;> exact e
 ·rw[h1] at e;simp[be] at e
def Seg (h:Hp)(b o:Nat)(cs:List Value):Prop:=∀ (i:Nat) (v:Value),cs[i]?=some v->dP h b (o+i)=some v
theorem Seg.gw {h a:Hp}{b o:Nat}{cs:List Value}(s:Seg h b o cs)(u:Gw h a):Seg a b o cs:=fun i v hv=>Bp u (s i v hv)
theorem xz {M:List Nat}{w w':World}{h:Hp}(g:G w h)(x:Mo M w w')(hM:∀ b∈M,h[b]?=some be){b i:Nat}{v:Value}(e:dP h b i=some v):w'.cell? ⟨b,i,none⟩=some v:=by
 have f:b ∉ M:=fun j=>by
  unfold dP at e
  rw[hM b j] at e
  simp[be] at e
 have d:=jY g e
 have c:b<w.heap.size:=by
  rcases dS b w.heap.size with c|c
  ·exact c
  ·unfold World.cell? at d;rw[ea c] at d;cases d
 rw[World.cell?_of_block (w:=w) (a:=⟨b,i,none⟩) (x.blk b c f)];exact d
theorem Seg.runM {α:Type}{M:List Nat}{P:Program}{w w':World}{h:Hp}{b o:Nat}{cs:List Value}{s:Sem α}{r:α}(c:Seg h b o cs)(g:G w h)(hM:∀ b∈M,h[b]?=some be)(x:Mo M w w')(d:bS P s cs=some (r,kF b o cs.length)):s.run P w'=.ok r w' :=
 bR _ _ _ _ d (fun i a v ha hv=>by rw[eZ _ _ _ _ _ ha];exact xz g x hM (c i v hv))
theorem Seg.run {α:Type}{P:Program}{w w':World}{h:Hp}{b o:Nat}{cs:List Value}{s:Sem α}{r:α}(c:Seg h b o cs)(g:G w h)(x:Ext w w')(d:bS P s cs=some (r,kF b o cs.length)):s.run P w'=.ok r w' :=
 bR _ _ _ _ d (fun i a v ha hv=>by rw[eZ _ _ _ _ _ ha];exact x.some (jY g (c i v hv)))
theorem Seg.part {h:Hp}{b o:Nat}{cs:List Value}(s:Seg h b o cs)(j n:Nat):Seg h b (o+j) ((cs.drop j).take n):=fun i v hv=>by
 have hi:i<n:=by
  rcases dS i n with hl|hl
  ·exact hl
  ·rw[s9 (by simp;omega)] at hv;cases hv
 rw[u9 hi,vi] at hv
 rw[v7];exact s (j+i) v hv
def aB (A:Z9):Nat:=match A with|some a=>a.block|none=>0
def aO (A:Z9):Nat:=match A with|some a=>a.off|none=>0
structure SlO {α:Type} (sz:Nat) (f:α->List Value) (d:α) (h:Hp) (A:Z9) (l:List α):Prop where
  ok:0<l.length->A=some ⟨aB A,aO A,none⟩
  el:∀ k,k<l.length->Seg h (aB A) (aO A+k*sz) (f (l.getD k d))
theorem SlO.gw {α:Type}{sz:Nat}{f:α->List Value}{d:α}{h a:Hp}{A:Z9}{l:List α}(s:SlO sz f d h A l)(u:Gw h a):SlO sz f d a A l:=⟨s.ok,fun k hk=>(s.el k hk).gw u⟩
theorem SlO.nil {α:Type}{sz:Nat}{f:α->List Value}{d:α}{h:Hp}{A:Z9}:SlO sz f d h A []:=⟨fun h=>by simp at h,fun k hk=>by simp at hk⟩
def JR {α:Type}(sz:Nat)(f:α->List Value)(d:α)(h:Hp)(v:Value)(l:List α):Prop :=
  ∃ A cap,v=.slice A l.length cap/\l.length<=cap/\SlO sz f d h A l
theorem SlO.of_flat {α:Type}{sz:Nat}{f:α->List Value}{d:α}{h:Hp}{b o:Nat}{l:List α}(hf:∀ x,(f x).length=sz)(s:Seg h b o (l.flatMap f)):SlO sz f d h (some ⟨b,o,none⟩) l:=by
  refine ⟨fun _=>rfl,?_⟩
  induction l generalizing o with
  | nil=>intro k hk;simp at hk
  | cons x l ih =>
    intro k hk;cases k with
    | zero =>
      have:=s.part 0 sz
      simp only[wi,wj,yh] at this
      rw[yy (by rw[hf];exact eb _),<-hf x,yz] at this
      simpa [aB,aO] using this
    | succ k =>
      have a:Seg h b (o+sz) (l.flatMap f):=fun i v hv=>by
        have:=s (sz+i) v (by rw[wi,vj (by rw[hf];omega),hf];simpa using hv)
        rwa [<-v7] at this
      have:=ih a k (by simpa using hk)
      simp only[aB,aO,yY] at this ⊢
      rw[yZ,y3 (k*sz) sz,<-v7];exact this
theorem Seg.new {h:Hp}(cs:List Value)(ty:TypeId):Seg (h.push (.cells cs.toArray ty (0,0))) h.size 0 cs:=fun i v hv=>by
 unfold dP
 rw[fo]
 simpa using hv
theorem bX {α:Type}{f:α->List Value}{sz:Nat}(hf:∀ x,(f x).length=sz)(l:List α):(l.flatMap f).length=l.length*sz:=by
 induction l with
 | nil=>simp
 | cons x l ih=>simp only[wi,y4,ih,hf,tq,yZ];omega
theorem fS {α:Type}{f:α->List Value}{sz:Nat}(hf:∀ x,(f x).length=sz)(d:α):∀ (l:List α) (k:Nat),k<l.length->((l.flatMap f).drop (k*sz)).take sz=f (l.getD k d)
  | [],k,h=>by simp at h
  | x::l,0,h=>by
    simp only[wi,y5,yh,List.getD_cons_zero]
    rw[yy (by rw[hf];exact eb _),<-hf x,yz]
  | x::l,k+1,h=>by
    simp only[wi,yY]
    rw[yZ,List.drop_append,hf,show k*sz+sz-sz=k*sz by omega,List.drop_eq_nil_of_le (by rw[hf];omega),List.nil_append];exact fS hf d l k (by simpa using h)
theorem fM (cs:List Value):∀ (a b:List Value) (o:Nat),bY (a++b) (a.length+o) cs=a++bY b o cs:=by
  induction cs with
  | nil=>intro a b o;rfl
  | cons c cs ih =>
    intro a b o
    show bY ((a++b).set (a.length+o) c) (a.length+o+1) cs=a++bY (b.set o c) (o+1) cs
    rw[List.set_append_right _ _ oM,show a.length+o-a.length=o by omega,v7];exact ih a (b.set o c) (o+1)
theorem i5:∀ (cs a b:List Value),a.length=cs.length->bY (a++b) 0 cs=cs++b:=by
  intro cs
  induction cs with
  | nil=>intro a b h;have:a=[]:=y6 (by simpa using h);subst this;rfl
  | cons c cs ih =>
    intro a b h;cases a with
    | nil=>simp at h
    | cons y a =>
      show bY (c::(a++b)) (0+1) cs=c::(cs++b)
      have:=fM cs [c] (a++b) 0
      simp only[List.length_singleton,List.singleton_append] at this
      rw[show 0+1=1+0 by omega,this,ih a b (by simpa using h)]
theorem jC {α:Type}{f:α->List Value}{sz:Nat}(hf:∀ x,(f x).length=sz):∀ (l:List α) (k:Nat) (x:α),k<l.length->bY (l.flatMap f) (k*sz) (f x)=(l.set k x).flatMap f
  | [],k,x,h=>by simp at h
  | y::l,0,x,h=>by
    simp only[wi,y5,List.set_cons_zero]
    exact i5 _ _ _ (by rw[hf,hf])
  | y::l,k+1,x,h=>by
    simp only[wi,y7]
    rw[yZ,y3,<-hf y,fM,hf y,jC hf l k x (by simpa using h)]
section rows
variable {M:Ms}{P:Program}{n:Nat}{N R:Po}{X:Nat->Po}{ops:Array Oper}{k0:Nat}{hr:Hp}{AL:List Al}{L:Array Bool}{Γ:cl}{w:World}{h:Hp}
theorem LG.row {k:Nat}(t:Nat)(ty:TypeId)(m:Nat)(cs:List Value)(g:G w h)(c:(io ops Γ k && ((ak ops k).dst == some t) && decide (t<n))=true)(d:bg ops Γ (ak ops k)=some true)
  (a:(execOp (ev Γ) (ak ops k)).run P w=.ok (.value (.slice (some ⟨w.heap.size,0,none⟩) m m)) (w.alloc (.cells cs.toArray ty (0,0))))
  (H:∀ b w' h',Up w h w' h'->Seg h' b 0 cs->LG P n N R X ops (k+1) ((t,.slice (some ⟨b,0,none⟩) m m)::Γ) w'):LG P n N R X ops k Γ w :=
 LG.val t _ _ c d a (H _ _ _ (Up.allocAny g _ _ (.inl rfl)) (by rw[g.size];exact Seg.new cs ty))
theorem Rg.row (i t:Nat)(ty:TypeId)(m:Nat)(cs:List Value)(d:(nN n ops k0 AL L i t && aY Γ (ak ops i))=true)(e:bg ops Γ (ak ops i)=some true)
  (a:∀ w,(execOp (ev Γ) (ak ops i)).run P w=.ok (.value (.slice (some ⟨w.heap.size,0,none⟩) m m)) (w.alloc (.cells cs.toArray ty (0,0))))
  (H:∀ b w' c,Up w h w' c->Seg c b 0 cs->EG M P n N R X ops k0 hr AL (L.setIfInBounds i true) ((t,.slice (some ⟨b,0,none⟩) m m)::Γ) w' c):EG M P n N R X ops k0 hr AL L Γ w h :=
 Rg.event i t d e (fun w' c u=>.inl ⟨_,_,_,a w',(Up.allocAny u.g _ _ (.inl rfl)).m M.l,H _ _ _ (u.trans (Up.allocAny u.g _ _ (.inl rfl))) (by rw[u.g.size];exact Seg.new cs ty)⟩)
theorem Rg.ownA {w0:World}{h0:Hp}{B:List Bx}{α:Type}(i t j:Nat)(l:List α)(f:α->List Value)(sz:Nat)(d:α)(e:Nat)(v:Value)(s:St w0 h0 w h B)(D:(dY n ops k0 AL L i t && aY Γ (ak ops i) && ja ops k0 i)=true)(F:bg ops Γ (ak ops i)=some true)
  (o:(av B j).b ∉ M.l)(C:decide (j<B.length)=true)(hB:(av B j).vs=l.flatMap f)(hf:∀ x,(f x).length=sz)(hk:e<l.length)
  (z:bS P (execOp (ev Γ) (ak ops i)) (f (l.getD e d))=some (.value v,kF (av B j).b (0+e*sz) (f (l.getD e d)).length))
  (k:EG M P n N R X ops k0 hr AL (L.setIfInBounds i true) ((t,v)::Γ) w h):EG M P n N R X ops k0 hr AL L Γ w h :=
 Rg.load i t v D F (fun w' p=>bR _ _ _ _ z (fun q a u ha c=>by
  rw[eZ _ _ _ _ _ ha,((s.own _ (bu (oT C))).mo p o).cell,hB];rw[<-fS hf d l e hk] at c
  have y:q<sz:=by
   rcases dS q sz with hl|hl
   ·exact hl
   ·rw[s9 (by simp;omega)] at c;cases c
  rw[u9 y,vi] at c
  rw[y8];exact c)) k
theorem LG.ownA {w0:World}{h0:Hp}{B:List Bx}{α:Type}{k:Nat}(t j:Nat)(l:List α)(f:α->List Value)(sz:Nat)(d:α)(e:Nat)(v:Value)(s:St w0 h0 w h B)(y:(io ops Γ k && ((ak ops k).dst == some t) && decide (t<n))=true)(z:bg ops Γ (ak ops k)=some true)
  (p:decide (j<B.length)=true)(hB:(av B j).vs=l.flatMap f)(hf:∀ x,(f x).length=sz)(hk:e<l.length)
  (o:bS P (execOp (ev Γ) (ak ops k)) (f (l.getD e d))=some (.value v,kF (av B j).b (0+e*sz) (f (l.getD e d)).length))
  (H:LG P n N R X ops (k+1) ((t,v)::Γ) w):LG P n N R X ops k Γ w :=
 LG.val t v w y z (bR _ _ _ _ o (fun q a u ha c=>by
  rw[eZ _ _ _ _ _ ha,(s.own _ (bu (oT p))).cell,hB];rw[<-fS hf d l e hk] at c
  have i:q<sz:=by
   rcases dS q sz with hl|hl
   ·exact hl
   ·rw[s9 (by simp;omega)] at c;cases c
  rw[u9 i,vi] at c
  rw[y8];exact c)) H
theorem LG.arr {w0:World}{h0:Hp}{B:List Bx}{k:Nat}(t:Nat)(ty:TypeId)(m:Nat)(vs:List Value)(s:St w0 h0 w h B)(c:(io ops Γ k && ((ak ops k).dst == some t) && decide (t<n))=true)(d:bg ops Γ (ak ops k)=some true)
  (a:(execOp (ev Γ) (ak ops k)).run P w=.ok (.value (.slice (some ⟨w.heap.size,0,none⟩) m m)) (w.alloc (.cells vs.toArray ty (0,0))))
  (H:∀ b w' h',h.size<=b->Up w h w' h'->St w0 h0 w' h' (⟨b,ty,vs⟩::B)->LG P n N R X ops (k+1) ((t,.slice (some ⟨b,0,none⟩) m m)::Γ) w'):LG P n N R X ops k Γ w:=by
 have u:Up w h (w.alloc (.cells vs.toArray ty (0,0))) (h.push be):=Up.allocAny s.g _ _ (.inr rfl);refine LG.val t _ _ c d a (H _ _ _ (by rw[s.g.size];exact eb _) u (St.new1 (x:=⟨0,0,.cells vs.toArray ty (0,0)⟩) s (s.step u) ⟨?_,?_,?_⟩ ty vs rfl))
 ·rw[heap_alloc];exact fo
 ·rw[s.g.size];exact fo
 ·show h.size<=w.heap.size;rw[s.g.size];exact eb _
def gJ (B:List Bx)(j:Nat)(vs:List Value):List Bx:=B.set j { av B j with vs:=vs }
theorem LG.putA {w0:World}{h0:Hp}{B:List Bx}{α:Type}{k:Nat}(j:Nat)(l:List α)(f:α->List Value)(sz e:Nat)(x:α)(s:St w0 h0 w h B)(u:G w0 h0)(C:(io ops Γ k && ((ak ops k).dst == none))=true)(D:bg ops Γ (ak ops k)=some true)
  (z:decide (j<B.length)=true)(hB:(av B j).vs=l.flatMap f)(hf:∀ x,(f x).length=sz)(hk:e<l.length)
  (y:dE P (execOp (ev Γ) (ak ops k))=some (.skip,lf (av B j).b (0+e*sz) (f x)))
  (H:∀ w',Put (av B j).b w w'->St w0 h0 w' h (gJ B j ((l.set e x).flatMap f))->LG P n N R X ops (k+1) Γ w'):LG P n N R X ops k Γ w:=by
 have o:=oT z
 have p:(0+e*sz)+(f x).length<=(av B j).vs.length:=by
  rw[hB,bX hf,hf,y8,<-yZ];exact y9 _ hk
 obtain ⟨w',d,a,i⟩:=fd _ _ _ _ _ w y (s.own _ (bu o)) p;have c:=s.put u o a i;refine LG.store w' C D d (H w' a ?_)
 unfold gl at c
 rw[hB,y8,jC hf l e x hk] at c
 exact c
theorem T.putA {w0:World}{h0:Hp}{B:List Bx}{α:Type}(i j:Nat)(l:List α)(f:α->List Value)(sz e:Nat)(x:α)(s:St w0 h0 w h B)(y:G w0 h0)(F:(g6 ops k0 L i && aY Γ (ak ops i) && ((ak ops i).dst == none))=true)(I:bg ops Γ (ak ops i)=some true)
  (D:decide (j<B.length)=true)(hB:(av B j).vs=l.flatMap f)(hf:∀ x,(f x).length=sz)(hk:e<l.length)
  (C:dE P (execOp (ev Γ) (ak ops i))=some (.skip,lf (av B j).b (0+e*sz) (f x)))
  (H:∀ w',Put (av B j).b w w'->St w0 h0 w' h (gJ B j ((l.set e x).flatMap f))->AG M P n N R X ops k0 (L.setIfInBounds i true) Γ w')(hz:∀ K bs,M.z=some (K,bs)->K<=(av B j).b\/(av B j).b∈bs:=by intro _ _ e;cases e):AG M P n N R X ops k0 L Γ w:=by
 have p:=oT D
 have u:(0+e*sz)+(f x).length<=(av B j).vs.length:=by
  rw[hB,bX hf,hf,y8,<-yZ];exact y9 _ hk
 obtain ⟨w',d,a,o⟩:=fd _ _ _ _ _ w C (s.own _ (bu p)) u;have c:=s.put y p a o;refine T.store i w' F I d (a.tl hz) (H w' a ?_)
 unfold gl at c
 rw[hB,y8,jC hf l e x hk] at c
 exact c
end rows
theorem sO {a b:Int}(h:a=b):(a == b)=true:=by simpa using h
theorem eU {a b:Int}(h:a≠b):(a == b)=false:=by simpa using h
theorem BA {a b:Int}(h:a≠b):(a != b)=true:=by simpa using h
theorem Eo {a b:Int}(h:a=b):(a != b)=false:=by simpa using h
theorem St.drop {w0:World}{h0:Hp}{w:World}{h:Hp}{B:List Bx}(s:St w0 h0 w h B)(k:Nat):St w0 h0 w h (B.drop k) :=
 ⟨s.up,fun x a=>s.own x (zh a),fun x a=>s.jk x (zh a),fun x a=>s.lo x (zh a),s.nd.sublist ((zy k B).map (·.b))⟩
theorem aJ {a b:Int}(h:(a != b)=false):a=b:=by simpa using h
theorem aI {a b:Int}(h:(a != b)=true):a≠b:=by simpa using h
theorem aj {a b:Int}(h:(a == b)=false):a≠b:=by simpa using h
theorem pT {α:Type}{f:α->List Value}{b:α}{sz:Nat}(hf:(f b).length=sz)(a:0<sz):∀ (m i:Nat),i<m*sz->((zY m b).flatMap f)[i]?=(f b)[i%sz]?
  | 0,i,h=>by simp at h
  | m + 1,i,h=>by
    rw[zZ,wi]
    rcases dS i sz with hl|hl
    . rw[uA oM,z1 hl]
    . rw[vj oM,hf,pT hf a m (i-sz) (by rw[yZ] at h;omega)]
      congr 1
      rw[Nat.mod_eq_sub_mod hl]
theorem vW {α:Type}{f:α->List Value}{c:α}{z:Value}{sz m:Nat}(d:z.cells.toList=f c)(b:z.cells.size=sz)(a:0<sz):madeCells z.cells (m*sz)=((zY m c).flatMap f).toArray:=by
 have hf:(f c).length=sz:=by rw[<-d];simpa using b
 apply Array.ext_getElem?
 intro i;rw[show ((zY m c).flatMap f).toArray[i]?=((zY m c).flatMap f)[i]? from by simp]
 rcases dS i (m*sz) with hl|hl
 ·rw[pT hf a m i hl,<-d]
  have e:i%sz<z.cells.size:=by rw[b];exact z2 _ a
  simp only[madeCells,Array.getElem?_map,Array.getElem?_range,hl,if_true,tj,b,Array.getElem?_toList]
  rw[e6 e,getElem!_pos z.cells (i%sz) e]
 ·rw[ea (by rw[size_madeCells];exact hl),s9]
  have:∀ m,((zY m c).flatMap f).length=m*sz:=by
   intro m
   induction m with
   | zero=>simp
   | succ m ih=>rw[zZ,wi,y4,ih,hf,yZ];omega
  rw[this];exact hl
section ops
variable {P:Program}{Γ:cl}{o:Oper}
theorem F7 {t e:TypeId}{x ix:Operand}{A:Z9}{len d sz:Nat}{i:Int}(k:Nat)(l:o.op=.indexAddr t x ix)(h:ev Γ x=.slice A len d)(hi:ev Γ ix=.int .i64 i)
    (f:P.underlying t=some (.slice e))(c:(P.info? e).map (·.size)=some sz)(u:A=some ⟨aB A,aO A,none⟩)(hk:i=k)(p:k<len)(w:World) :
    (execOp (ev Γ) o).run P w=.ok (.value (.pointer (some ⟨aB A,aO A+k*sz,none⟩))) w:=by
  subst hk
  unfold execOp
  simp only[l]
  rw[h,hi];have b:P.elem t=e:=by unfold Program.elem;rw[f]
  have h1:=run_indexAt_slice (P:=P) w t ⟨aB A,aO A,none⟩ len d .i64 (k:Int) (by rw[b];exact f);rw[if_pos ⟨by omega,by omega⟩,b] at h1
  have j:(sizeOf e).run P w=.ok sz w:=by
    cases a:P.info? e with
    | none=>rw[a] at c;cases c
    | some i =>
      rw[a] at c
      simp at c
      simp[sizeOf,typeInfo,a,c]
  rw[j] at h1
  have y:((⟨aB A,aO A,none⟩:Addr).add ((k:Int).toNat*sz))=⟨aB A,aO A+k*sz,none⟩:=by
    unfold Addr.add
    simp only[z6]
    split
    . rename_i h0;rw[h0];rfl
    . rfl
  simp only[Result.andThen] at h1
  rw[y] at h1
  rw[<-u] at h1
  rw[Sem.run_bind,h1]
  rfl
theorem KA {t e:TypeId}{x y:Operand}{z:Value}{m sz c:Nat}{α:Type}{f:α->List Value}{j:α}(C:o.op=.makeSlice t x y)(p:ev Γ x=.int .i64 (m:Int))(l:ev Γ y=.int .i64 (m:Int))
    (H:P.underlying t=some (.slice e))(hi:(P.info? e).map (fun i=>(i.zero,i.size,i.bytes))=some (some z,sz,c))(h:z.cells.toList=f j)(d:z.cells.size=sz)(b:0<sz)(I:c*m<=140737488355328)(F:m<9223372036854775808)(w:World) :
    (execOp (ev Γ) o).run P w=.ok (.value (.slice (some ⟨w.heap.size,0,none⟩) m m)) (w.alloc (.cells ((zY m j).flatMap f).toArray e (0,0))):=by
  cases a:P.info? e with
  | none=>rw[a] at hi;cases hi
  | some inf =>
    rw[a] at hi
    simp only[tj,Option.some.injEq,Prod.mk.injEq] at hi
    obtain ⟨h1,u,B⟩:=hi
    unfold execOp
    simp only[C]
    have D:(inf.bytes:Int)*(m:Int)<=281474976710656:=by
      rw[B];have:((c*m:Nat):Int)<=281474976710656:=by omega
      simpa using this
    rw[p,l,Sem.run_bind,run_make (P:=P) w t e inf z H a h1 .i64 .i64 (m:Int) (m:Int) oM oM D oM]
    simp only[Result.andThen,z6,u]
    rw[vW h d b]
    rfl
theorem KM {t e:TypeId}{x hi:Operand}{A:Z9}{len b:Nat}{i:Int}(k:Nat)(p:o.op=.slice t x none (some hi) none)(l:ev Γ x=.slice A len b)(f:ev Γ hi=.int .i64 i)
  (y:P.underlying t=some (.slice e))(u:(P.info? e).isSome=true)(hk:i=k)(d:k<=b)(w:World) :
  (execOp (ev Γ) o).run P w=.ok (.value (.slice A k b)) w:=by
 subst hk;obtain ⟨h,c⟩:=la.1 u
 unfold execOp
 simp only[p,z7,tj]
 rw[l,f];have j:∀ a:Addr,a.add 0=a:=fun a=>by unfold Addr.add;simp
 have e1:A.map (fun a=>a.add (0*h.size))=A:=by cases A<;>simp[j]
 simp[Instr.sliceAt,Instr.slice,Instr.sliceBounds,Instr.sliceBound,run_underlying y,asIntOf,sizeOf,typeInfo,c,Result.andThen,d]
 intro _;cases A<;>simp[j]
theorem GS {t e:TypeId}{x c:Operand}{A:Z9}{len b sz:Nat}{i:Int}(k:Nat)(l:o.op=.slice t x (some c) none none)(j:ev Γ x=.slice A len b)(h:ev Γ c=.int .i64 i)
    (p:P.underlying t=some (.slice e))(d:(P.info? e).map (·.size)=some sz)(hk:i=k)(f:k<=len)(w:World) :
    (execOp (ev Γ) o).run P w=.ok (.value (.slice (if b=k then A else A.map (·.add (k*sz))) (len-k) (b-k))) w:=by
  subst hk;cases a:P.info? e with
  | none=>rw[a] at d;cases d
  | some inf =>
    rw[a] at d
    simp at d
    unfold execOp
    simp only[l,z7,tj]
    rw[j,h]
    simp[Instr.sliceAt,Instr.slice,Instr.sliceBounds,Instr.sliceBound,run_underlying p,asIntOf,sizeOf,typeInfo,a,Result.andThen,f,d]
end ops
def Df (z:Int):List Value:=[.int .i64 z]
abbrev Si (A:Z9)(l:List Int):Hp->Prop:=fun h_=>SlO 1 Df 0 h_ A l
structure Gro (h0:Hp) (B:List Nat) (w:World) (h:Hp) (ty:TypeId) (sz:Nat) (v:Value) (n:Nat) (cs:List Value):Prop where
  own:w.ownsRow h0.size ty sz v n cs
  jk:∀ b,v.ownBlock=some b->h[b]?=some be
  ap:∀ b,v.ownBlock=some b->b ∉ B
section gro
variable {h0:Hp}{B:List Nat}{w:World}{h:Hp}{ty:TypeId}{sz:Nat}{v:Value}{n:Nat}{cs:List Value}
theorem Gro.nil:Gro h0 B w h ty sz (.slice none 0 0) 0 []:=⟨World.ownsRow_nil _ _ _ _,fun b a=>by simp[Value.ownBlock] at a,fun b a=>by simp[Value.ownBlock] at a⟩
theorem eD {base:Nat}(o:w.ownsRow base ty sz v n cs){w':World}(a:∀ b,v.ownBlock=some b->w'.heap[b]?=w.heap[b]?):w'.ownsRow base ty sz v n cs:=by
 rcases o with ⟨h1,h2|⟨g,cap,cur,hv,hb',hg,hn,hm,hs,ht⟩⟩
 ·exact ⟨h1,.inl h2⟩
 ·exact ⟨h1,.inr ⟨g,cap,cur,hv,hb',(a g (by rw[hv];rfl)).trans hg,hn,hm,hs,ht⟩⟩
theorem Gro.lt (r:Gro h0 B w h ty sz v n cs){b:Nat}(a:v.ownBlock=some b):b<h.size:=aR (r.jk b a)
theorem jv {base:Nat}(o:w.ownsRow base ty sz v n cs){b:Nat}(a:v.ownBlock=some b):b<w.heap.size:=by
 rcases o with ⟨_,⟨rfl,_⟩|⟨g,cap,cur,rfl,_,hg,_⟩⟩
 ·simp[Value.ownBlock] at a
 ·simp[Value.ownBlock] at a
  subst a
  rcases dS g w.heap.size with hl|hl
  ·exact hl
  ·rw[ea hl] at hg;cases hg
theorem Gro.up (r:Gro h0 B w h ty sz v n cs){w':World}{c:Hp}(u:Up w h w' c):Gro h0 B w' c ty sz v n cs :=
 ⟨eD r.own (fun b a=>Below.block u.ext b (jv r.own a)),fun b a=>(u.gr.blk b (r.lt a)).trans (r.jk b a),r.ap⟩
theorem Gro.put (r:Gro h0 B w h ty sz v n cs){w':World}{b:Nat}(p:Put b w w')(d:b∈B):Gro h0 B w' h ty sz v n cs :=
 ⟨eD r.own (fun c a=>p.blk c (fun e=>r.ap c a (e▸d))),r.jk,r.ap⟩
theorem Gro.new (r:Gro h0 B w h ty sz v n cs)(b:Nat)(f:∀ c,v.ownBlock=some c->c≠b):Gro h0 (b::B) w h ty sz v n cs :=
 ⟨r.own,r.jk,fun c a d=>by
  rcases g2.1 d with e|e
  ·exact f c a e
  ·exact r.ap c a e⟩
theorem Gro.sub (r:Gro h0 B w h ty sz v n cs)(a:List Nat)(c:∀ b∈a,b∈B):Gro h0 a w h ty sz v n cs:=⟨r.own,r.jk,fun b e d=>r.ap b e (c b d)⟩
theorem Gro.out (r:Gro h0 B w h ty sz v n cs){a:Hp}{b:Nat}(i:b∈B)(f:∀ c,c≠b->a[c]?=h[c]?):Gro h0 B w a ty sz v n cs :=
 ⟨r.own,fun c d=>(f c (fun e=>r.ap c d (e▸i))).trans (r.jk c d),r.ap⟩
theorem Gro.app (r:Gro h0 B w h ty sz v n cs){w':World}{d:Hp}{row:Option Nat}(f:w.grownBy w' row)(i:Gr h d)(c:∀ b,v.ownBlock=some b->row≠some b):Gro h0 B w' d ty sz v n cs :=
 ⟨eD r.own (fun b a=>f.block b (jv r.own a) (fun e=>c b a e.symm)),fun b a=>(i.blk b (r.lt a)).trans (r.jk b a),r.ap⟩
theorem Bt {w0:World}{i:List Bx}{w':World}(s:St w0 h0 w h i)(p:G w0 h0)(r:Gro h0 (i.map (·.b)) w h ty sz v n cs)(c:w.grownBy w' v.ownBlock):∃ j,Gr h j/\St w0 h0 w' j i/\∀ b,h.size<=b->b<w'.heap.size->j[b]?=some be:=by
  have o:∀ b,v.ownBlock=some b->h0.size<=b:=by
    intro b a
    rcases r.own with ⟨_,⟨rfl,_⟩|⟨g,cap,cur,rfl,hbb,_⟩⟩
    . simp[Value.ownBlock] at a
    . simp[Value.ownBlock] at a;omega
  have y:=s.g.size;have l:=c.size;have d:Gr h (h++s3 (w'.heap.size-h.size) be):=⟨by simp,fun b a=>ta a⟩;refine ⟨h++s3 (w'.heap.size-h.size) be,d,⟨⟨⟨c.os.trans s.up.ext.os,c.tape.trans s.up.ext.tape,c.output.trans s.up.ext.output,ep s.up.ext.size l,fun b a=>?_⟩,s.up.gr.trans d,⟨by simp;omega,fun b=>?_⟩⟩,?_,?_,s.lo,s.nd⟩,?_⟩
  . rw[c.block b (e4 a s.up.ext.size) (fun e=>by have:=o b e.symm;rw[p.size] at a;omega)]
    exact Below.block s.up.ext b a
  . rcases dS b h.size with a|a
    . rw[ta a]
      by_cases e:v.ownBlock=some b
      . exact .inr (r.jk b e)
      . rw[c.block b oM (fun u=>e u.symm)];exact s.g.blk b
    . by_cases hl:b<w'.heap.size
      . right
        rw[z8 a,Ab,if_pos oM]
      . left
        rw[ea (by simp;omega),ea oM]
  . intro x f
    show w'.heap[x.b]?=_
    rw[c.block x.b (s.own x f).lt (fun e=>r.ap x.b e.symm (gx.2 ⟨x,f,rfl⟩))];exact s.own x f
  . intro x f
    rw[d.blk _ (aR (s.jk x f))];exact s.jk x f
  . intro b h1 z
    rw[z8 h1,Ab,if_pos oM]
def Apart (v u:Value):Prop:=∀ b,v.ownBlock=some b->u.ownBlock≠some b
theorem Apart.symm {v u:Value}(h:Apart v u):Apart u v:=fun b a hv=>h b hv a
theorem Apart.grown {v v' u:Value}(h:Apart v u)(d:v'.ownBlock=v.ownBlock\/v'.ownBlock=some w.heap.size)(c:∀ b,u.ownBlock=some b->b<w.heap.size):Apart v' u:=fun b hv a=>by
 rcases d with e|e
 ·exact h b (e▸hv) a
 ·rw[e] at hv
  injection hv with hv
  have:=c b a
  omega
theorem Apart.nil {u:Value}:Apart (.slice none 0 0) u:=fun b a=>by simp[Value.ownBlock] at a
end gro
section app
variable {P:Program}{n:Nat}{N R:Po}{X:Nat->Po}{ops:Array Oper}{k0:Nat}{hr:Hp}{AL:List Al}{L:Array Bool}{Γ:cl}{w:World}{h:Hp}{w0:World}{h0:Hp}{B:List Bx}
theorem k6 {o:Oper}{x y:Operand}{t e:TypeId}{z:Value}{sz C m m2 c:Nat}{v:Value}{cs news:List Value}{a:Addr}(K:o.op=.call { callee:=.builtin .append,args:=#[x,y],argTypes:=#[t,t] })
    (H:ev Γ x=v)(F:ev Γ y=.slice (some a) m2 c)(U:P.underlying t=some (.slice e))(hi:(P.info? e).map (fun i=>(i.zero,i.size,i.bytes))=some (some z,sz,C))(D:z.cells.size=sz)(p:0<sz)
    (s:St w0 h0 w h B)(r:Gro h0 (B.map (·.b)) w h e sz v m cs)(Q:news.length=m2*sz)(f:∀ j u,news[j]?=some u->w.cell? (a.add j)=some u)(h1:∀ u∈news,u.oneCell'=true)
    (W:m+m2<=1099511627776)(M:(m+m2)*C<=140737488355328) :
    ∃ v' w',(execOp (ev Γ) o).run P w=.ok (.value v') w'/\w'.ownsRow h0.size e sz v' (m+m2) (cs++news)/\w.grownBy w' v.ownBlock/\(v'.ownBlock=v.ownBlock\/v'.ownBlock=some w.heap.size):=by
  cases d:P.info? e with
  | none=>rw[d] at hi;cases hi
  | some inf =>
    rw[d] at hi
    simp only[tj,Option.some.injEq,Prod.mk.injEq] at hi
    obtain ⟨i1,O,S⟩:=hi;obtain ⟨v',w',l,J,L,V,I⟩:=run_append_own_at (P:=P) w h0.size t o.type e inf z sz C U d i1 O S D p v m cs r.own a m2 c news Q f h1 (by unfold maxLen;omega) M (by rw[s.g.size];exact s.sz);refine ⟨v',w',?_,J,L,I⟩
    unfold execOp
    simp only[K,resolve,invoke,builtin,Sem.run_bind,Sem.run_pure,Result.andThen_ok,List.map_toArray,Af,List.map_nil,H,F,l]
theorem Gro.grown {ty:TypeId}{sz m m2:Nat}{v v':Value}{cs news:List Value}{w':World}{d:Hp}(s:St w0 h0 w h B)(r:Gro h0 (B.map (·.b)) w h ty sz v m cs)(i:w'.ownsRow h0.size ty sz v' (m+m2) (cs++news))(f:v'.ownBlock=v.ownBlock\/v'.ownBlock=some w.heap.size)(j:Gr h d)(p:∀ b,h.size<=b->b<w'.heap.size->d[b]?=some be) :
  Gro h0 (B.map (·.b)) w' d ty sz v' (m+m2) (cs++news):=by
 have c:∀ b,v'.ownBlock=some b->b<w'.heap.size:=by
  intro b a
  rcases i with ⟨_,⟨rfl,_⟩|⟨g,cap,cur,rfl,_,hg,_⟩⟩
  ·simp[Value.ownBlock] at a
  ·simp[Value.ownBlock] at a
   subst a
   rcases dS g w'.heap.size with hl|hl
   ·exact hl
   ·rw[ea hl] at hg;cases hg
 refine ⟨i,fun b a=>?_,fun b a=>?_⟩
 ·rcases f with e|e
  ·rw[e] at a;rw[j.blk b (r.lt a)];exact r.jk b a
  ·have:b=w.heap.size:=by rw[e] at a;injection a with a;exact a.symm
   exact p b (by rw[this,s.g.size];exact eb _) (c b a)
 ·rcases f with e|e
  ·rw[e] at a;exact r.ap b a
  ·have:b=w.heap.size:=by rw[e] at a;injection a with a;exact a.symm
   intro y;obtain ⟨x,l,o⟩:=gx.1 y;have:=(s.own x l).lt;have u:x.b=b:=o
   omega
theorem jU {b:Nat}{news:List Value}(g:G w h)(c:Seg h b 0 news):∀ j u,news[j]?=some u->w.cell? ((⟨b,0,none⟩:Addr).add j)=some u:=by
 intro j u a;have:=jY g (c j u a)
 unfold Addr.add
 split
 ·rename_i h0;subst h0;exact this
 ·exact this
end app
theorem UpM.put {M:List Nat}{w0 w w':World}{h0 h:Hp}{b:Nat}(u:UpM M w0 h0 w h)(p:Put b w w')(d:b∈M)(g:G w' h):UpM M w0 h0 w' h :=
 ⟨⟨p.os.trans u.mo.os,p.tape.trans u.mo.tape,p.output.trans u.mo.output,by rw[p.size];exact u.mo.size,fun c a hn=>(p.blk c (fun e=>hn (e▸d))).trans (u.mo.blk c a hn)⟩,u.gr,g⟩
theorem St.at_ {w:World}{h:Hp}{rb:Nat}{t:TypeId}{vs:List Value}(g:G w h)(o:Own w rb t vs)(j:h[rb]?=some be):∃ w0 h0,G w0 h0/\St w0 h0 w h [⟨rb,t,vs⟩]:=by
 have f:=aR j;have e:=g.size;refine ⟨{ w with heap:=w.heap.extract 0 rb },h.extract 0 rb,⟨by simp;omega,fun b=>?_⟩,⟨⟨⟨rfl,rfl,rfl,by simp;omega,fun b c=>?_⟩,⟨by simp;omega,fun b c=>?_⟩,g⟩,?_,?_,?_,by simp⟩⟩
 ·show (h.extract 0 rb)[b]?=(w.heap.extract 0 rb)[b]?\/_
  rw[Am,Am]
  by_cases c:b<rb
  ·rw[if_pos oM,if_pos oM];simpa using g.blk b
  ·rw[if_neg oM,if_neg oM];exact .inl rfl
 ·have d:b<rb:=by have:b<(w.heap.extract 0 rb).size:=c;simp at this;omega
  show w.heap[b]?=(w.heap.extract 0 rb)[b]?
  rw[Am,if_pos oM];simp
 ·have d:b<rb:=by simp at c;omega
  rw[Am,if_pos oM];simp
 ·intro x a;rw[sy] at a;subst a;exact o
 ·intro x a;rw[sy] at a;subst a;exact j
 ·intro x a;rw[sy] at a;subst a;simp;omega
def eW (rb:Nat)(w0:World)(h0:Hp)(Φ:Value->World->Hp->Prop):Ending->World->Prop:=fun e w'=>∃ v h',e=.returned v/\UpM [rb] w0 h0 w' h'/\Φ v w' h'
section
variable {P:Program}{n:Nat}{Γ:cl}{w:World}{h:Hp}{w0 wz:World}{h0 hz:Hp}{B:List Bx}
theorem retM {b:Func}{rb:Nat}{Φ:Value->World->Hp->Prop}(s:St wz hz w h B)(e:UpM [rb] w0 h0 w h)(ps:List (Nat × Nat × Nat))(v:Value)(hk:(oY b Γ && cC B ps)=true)(f:bS P (qK b Γ) (dj B ps)=some (v,cc B ps))(c:Φ v w h) :
  ∀ a,Kn n a Γ->pm P b (eW rb w0 h0 Φ) a w:=by
 intro a d;rw[i3] at hk
 refine ⟨d.df.trans (ug hk.1),v,?_,v,h,rfl,e,c⟩;rw[kK d hk.1];exact bR _ _ _ _ f (dh s.own ps hk.2)
theorem St.stepM (s:St w0 h0 w h B)(M:G w0 h0){j:Nat}{vs:List Value}{w':World}{I:Hp}(p:j<B.length)(u:UpM [(av B j).b] w h w' I)(O:Own w' (av B j).b (av B j).t vs):St w0 h0 w' I (gJ B j vs):=by
  have C:=bu p;have Q:=s.lo _ C
  have o:(gJ B j vs).map (·.b)=B.map (·.b):=by
    unfold gJ
    rw[tu]
    apply tv
    intro i
    by_cases e:j=i
    . subst e
      rw[tw (by simpa using p)]
      simp[av,p]
    . rw[tz e]
  have F:Up w0 h0 w' I:=by
    refine ⟨⟨u.mo.os.trans s.up.ext.os,u.mo.tape.trans s.up.ext.tape,u.mo.output.trans s.up.ext.output,ep s.up.ext.size u.mo.size,fun c J=>?_⟩,s.up.gr.trans u.gr,u.g⟩;rw[u.mo.blk c (e4 J s.up.ext.size) (fun C=>by rw[sy] at C;rw[M.size] at J;omega)];exact Below.block s.up.ext c J
  have a:∀ x∈gJ B j vs,∃ y∈B,y.b=x.b:=by
    intro x f;have:x.b∈(gJ B j vs).map (·.b):=gx.2 ⟨x,f,rfl⟩;rw[o] at this
    obtain ⟨y,l,d⟩:=gx.1 this;exact ⟨y,l,d⟩
  refine ⟨F,?_,?_,?_,by rw[o];exact s.nd⟩
  . intro x f
    obtain ⟨i,hi,d⟩:=ua.1 f;have z:i<B.length:=by simpa [gJ] using hi
    by_cases e:j=i
    . subst e
      have:x={ av B j with vs:=vs }:=by rw[<-d];simp[gJ]
      subst this;exact O
    . have K:x=B[i]:=by rw[<-d];simp[gJ,e]
      subst K
      have H:B[i].b≠(av B j).b:=by
        intro D
        have h1:(B.map (·.b))[i]'(by simpa using z)=(B.map (·.b))[j]'(by simpa using p):=by
          simp only[ub]
          rw[D]
          simp[av,p]
        exact e ((ul s.nd).1 h1).symm
      have L:=s.own _ (gp z)
      show w'.heap[B[i].b]?=_
      rw[u.mo.blk _ L.lt (fun C=>H (sy.1 C))];exact L
  . intro x f
    obtain ⟨y,l,d⟩:=a x f;rw[<-d,u.gr.blk _ (aR (s.jk y l))];exact s.jk y l
  . intro x f
    obtain ⟨y,l,d⟩:=a x f;rw[<-d];exact s.lo y l
theorem Gro.upM {i:Hp}{d:List Nat}{ty:TypeId}{sz:Nat}{v:Value}{m:Nat}{cs:List Value}(r:Gro i d w h ty sz v m cs){w':World}{f:Hp}{b:Nat}(u:UpM [b] w h w' f)(j:b∈d):Gro i d w' f ty sz v m cs :=
 ⟨eD r.own (fun c a=>u.mo.blk c (jv r.own a) (fun e=>by rw[sy] at e;exact r.ap c a (e▸j))),fun c a=>(u.gr.blk c (r.lt a)).trans (r.jk c a),r.ap⟩
theorem gC (s:St w0 h0 w h B){i j:Nat}(hi:decide (i<B.length)=true)(f:decide (j<B.length)=true)(d:(i == j)=false):(av B i).b≠(av B j).b:=by
 have a:=oT hi;have c:=oT f;intro e
 have h1:(B.map (·.b))[i]'(by simpa using a)=(B.map (·.b))[j]'(by simpa using c):=by
  simp only[ub]
  simpa [av,a,c] using e
 have:=(ul s.nd).1 h1;subst this
 simp at d
end
section pub
variable {h0:Hp}{B:List Nat}{w:World}{h:Hp}{ty:TypeId}{sz:Nat}{v:Value}{n:Nat}{cs:List Value}
theorem Gro.pub3 {w0:World}{o:List Bx}{A:Z9}{l a:Nat}(s:St w0 h0 w h o)(r:Gro h0 (o.map (·.b)) w h ty sz (.slice A l a) n cs):∃ z,St w0 h0 w z o/\Gw h z/\(∀ c,(Value.slice A l a).ownBlock≠some c->z[c]?=h[c]?)/\l=n/\n<=a/\(0<n->A=some ⟨aB A,0,none⟩/\aO A=0)/\Seg z (aB A) 0 cs:=by
  rcases r.own with ⟨h1,⟨e,rfl⟩|⟨b,cap',cur,e,hbb,hg,hn,hm,hs,ht⟩⟩
  . injection e with e1 e2 e3
    subst e1 e2 e3;have:cs=[]:=y6 (by simpa using h1);subst this;exact ⟨h,s,⟨eb _,fun _ _=>.inl rfl⟩,fun _ _=>rfl,rfl,eb _,fun h=>by omega,fun i v hv=>by simp at hv⟩
  . injection e with e1 e2 e3
    subst e1 e2 e3;have d:=r.jk b rfl;have f:=aR d;have B:∀ x∈o,x.b≠b:=fun x p e=>r.ap b rfl (gx.2 ⟨x,p,e⟩)
    refine ⟨h.setIfInBounds b (.cells cur ty),⟨⟨s.up.ext,⟨by simp;exact s.up.gr.size,fun c y=>?_⟩,⟨by simp;exact s.up.g.size,fun c=>?_⟩⟩,s.own,?_,s.lo,s.nd⟩,⟨by simp,fun c y=>?_⟩,fun c y=>?_,rfl,hn,fun _=>⟨rfl,rfl⟩,?_⟩
    . rw[i2 oM];exact s.up.gr.blk c y
    . by_cases e:b=c
      . subst e;left;rw[As f];exact hg.symm
      . rw[i2 e];exact s.up.g.blk c
    . intro x p
      rw[i2 (Ne.symm (B x p))];exact s.jk x p
    . by_cases e:b=c
      . subst e;exact .inr d
      . left;rw[i2 e]
    . rw[i2 (fun e=>y (by rw[<-e];rfl))]
    . intro i u j
      unfold dP
      show (match (h.setIfInBounds b (.cells cur ty))[b]? with|some (.cells c _ _)=>c[0+i]?|_=>none)=some u
      rw[As f];rw[<-ht] at j
      have hi:i<l*sz:=by
        rcases dS i (l*sz) with hl|hl
        . exact hl
        . rw[s9 (by simp;omega)] at j;cases j
      rw[u9 hi] at j
      simpa using j
theorem Gro.pubo (r:Gro h0 B w h ty sz v n cs){a:Hp}{u:Value}(f:∀ c,u.ownBlock≠some c->a[c]?=h[c]?)(e:Apart v u):Gro h0 B w a ty sz v n cs:=⟨r.own,fun b d=>(f b (e b d)).trans (r.jk b d),r.ap⟩
theorem SlO.of_pub {α:Type}{f:α->List Value}{d:α}{l:List α}{A:Z9}(hf:∀ x,(f x).length=sz)(a:0<l.length->A=some ⟨aB A,0,none⟩/\aO A=0)(b:Seg h (aB A) 0 (l.flatMap f)):SlO sz f d h A l:=by
 rcases Au l.length with h0'|h0'
 ·have:l=[]:=y6 h0'
  subst this;exact SlO.nil
 ·obtain ⟨e1,e2⟩:=a h0'
  have:=SlO.of_flat (d:=d) hf b;rw[<-e1] at this
  exact this
end pub
theorem St.pubX {w0:World}{h0:Hp}{w:World}{h:Hp}{B:List Bx}(s:St w0 h0 w h B)(j:Nat)(p:j<B.length):∃ u,St w0 h0 w u (B.eraseIdx j)/\Gw h u/\Seg u (av B j).b 0 (av B j).vs/\u[(av B j).b]?=some (.cells (av B j).vs.toArray (av B j).t (0,0))/\∀ c,c≠(av B j).b->u[c]?=h[c]?:=by
 have D:=bu p;have H:=s.own _ D;have f:=s.jk _ D;have d:=aR f
 have z:∀ x∈B.eraseIdx j,x.b≠(av B j).b:=by
  intro x a;obtain ⟨i,hi,y⟩:=ua.1 a;rw[Aw] at y
  intro o;have l:=s.nd;have F:(av B j)=B[j]:=by unfold av;simp[p]
  split at y
  ·rename_i I
   have:(B.map (·.b))[i]'(by simp;omega)=(B.map (·.b))[j]'(by simpa using p):=by simp only[ub];rw[y,o,F]
   have:=(ul l).1 this
   omega
  ·rename_i I
   have C:i+1<B.length:=by rw[AS p] at hi;omega
   have:(B.map (·.b))[i+1]'(by simpa using C)=(B.map (·.b))[j]'(by simpa using p):=by simp only[ub];rw[y,o,F]
   have:=(ul l).1 this
   omega
 refine ⟨h.setIfInBounds (av B j).b (.cells (av B j).vs.toArray (av B j).t (0,0)),⟨⟨s.up.ext,⟨by simp;exact s.up.gr.size,fun b o=>?_⟩,⟨by simp;exact s.up.g.size,fun b=>?_⟩⟩,?_,?_,?_,?_⟩,⟨by simp,fun b o=>?_⟩,?_,As d,fun c J=>i2 (Ne.symm J)⟩
 ·have:=s.lo _ D
  rw[i2 oM];exact s.up.gr.blk b o
 ·by_cases e:(av B j).b=b
  ·subst e
   left
   rw[As d];exact H.symm
  ·rw[i2 e];exact s.up.g.blk b
 ·exact fun x a=>s.own x (A6 a)
 ·intro x a
  rw[i2 (Ne.symm (z x a))];exact s.jk x (A6 a)
 ·exact fun x a=>s.lo x (A6 a)
 ·exact s.nd.sublist ((A7 B j).map (·.b))
 ·by_cases e:(av B j).b=b
  ·subst e;exact .inr f
  ·left;rw[i2 e]
 ·intro i v hv
  unfold dP
  rw[As d]
  simpa using hv
structure Rw where
  ty:TypeId
  sz:Nat
  A:Z9
  c:Nat
  n:Nat
  cs:List Value
  deriving Inhabited
def Rw.v (r:Rw):Value:=.slice r.A r.n r.c
def AllF:List (Hp->Prop)->Hp->Prop
  | [],_=>True
  | p::l,h=>p h/\AllF l h
theorem AllF.q {a b c d:Hp->Prop}{F:List (Hp->Prop)}{h:Hp}(x:AllF (a::b::c::d::F) h):AllF F h:=x.2.2.2.2
theorem AllF.r {a b:Hp->Prop}{F:List (Hp->Prop)}{h:Hp}(x:AllF (a::b::F) h):AllF F h:=x.2.2
theorem AllF.gw:∀ {F:List (Hp->Prop)} {h a:Hp},(∀ p∈F,∀ h a,Gw h a->p h->p a)->Gw h a->AllF F h->AllF F a
 | [],_,_,_,_,_=>trivial
 | p::_,_,_,m,u,x=>⟨m p (by simp) _ _ u x.1,AllF.gw (fun q b=>m q (by simp[b])) u x.2⟩
structure SS (w0:World) (h0:Hp) (w:World) (h:Hp) (B:List Bx) (R:List Rw) (F:List (Hp->Prop)):Prop where
  g0:G w0 h0
  st:St w0 h0 w h B
  ro:∀ r∈R,Gro h0 (B.map (·.b)) w h r.ty r.sz r.v r.n r.cs
  ap:R.Pairwise (fun r s=>Apart r.v s.v)
  mo:∀ p∈F,∀ h h',Gw h h'->p h->p h'
  f:AllF F h
section ss
variable {w0:World}{h0:Hp}{w:World}{h:Hp}{B:List Bx}{R:List Rw}{F:List (Hp->Prop)}
theorem SS.start (g:G w h):SS w h w h [] [] []:=⟨g,St.start g,fun _ a=>(by cases a),.nil,fun _ a=>(by cases a),trivial⟩
theorem SS.g (s:SS w0 h0 w h B R F):G w h:=s.st.g
theorem SS.step (s:SS w0 h0 w h B R F){w':World}{a:Hp}(u:Up w h w' a):SS w0 h0 w' a B R F :=
 ⟨s.g0,s.st.step u,fun r hr=>(s.ro r hr).up u,s.ap,s.mo,s.f.gw s.mo u.gr.gw⟩
theorem SS.add (s:SS w0 h0 w h B R F){K:Hp->Prop}(x:K h)(m:∀ h h',Gw h h'->K h->K h':=by intro _ _ u x;exact x.gw u):SS w0 h0 w h B R (K::F) :=
 ⟨s.g0,s.st,s.ro,s.ap,fun p a=>by
  rcases g2.1 a with rfl|a
  ·exact m
  ·exact s.mo p a,x,s.f⟩
theorem SS.a_SlO {α:Type}{sz:Nat}{f:α->List Value}{d:α}{A:Z9}{l:List α}(s:SS w0 h0 w h B R F)(x:SlO sz f d h A l):SS w0 h0 w h B R ((fun h=>SlO sz f d h A l)::F):=s.add (K:=fun h=>SlO sz f d h A l) x
theorem SS.a_Seg {b o:Nat}{cs:List Value}(s:SS w0 h0 w h B R F)(x:Seg h b o cs):SS w0 h0 w h B R ((fun h=>Seg h b o cs)::F):=s.add (K:=fun h=>Seg h b o cs) x
theorem SS.tl {K:Hp->Prop}(s:SS w0 h0 w h B R (K::F)):SS w0 h0 w h B R F:=⟨s.g0,s.st,s.ro,s.ap,fun p a=>s.mo p (List.mem_cons_of_mem _ a),s.f.2⟩
theorem SS.nil (s:SS w0 h0 w h B R F)(ty:TypeId)(sz:Nat):SS w0 h0 w h B (⟨ty,sz,none,0,0,[]⟩::R) F :=
 ⟨s.g0,s.st,fun r hr=>by
  rcases g2.1 hr with rfl|hr
  ·exact Gro.nil
  ·exact s.ro r hr,List.pairwise_cons.2 ⟨fun _ _=>Apart.nil,s.ap⟩,s.mo,s.f⟩
theorem SS.to (s:SS w0 h0 w h B R F)(a:List Bx)(R':List Rw)(e:B=a:=by kernel_rfl)(e2:R=R':=by kernel_rfl):SS w0 h0 w h a R' F:=e▸e2▸s
theorem mM {j o:Nat}{cs:List Value}(a:j<B.length):(gl B j o cs).map (·.b)=B.map (·.b):=by
 unfold gl
 rw[tu]
 apply tv
 intro i
 by_cases e:j=i
 ·subst e
  rw[tw (by simpa using a)]
  simp[av,a]
 ·rw[tz e]
theorem j9 {j:Nat}{vs:List Value}(a:j<B.length):(gJ B j vs).map (·.b)=B.map (·.b):=by
 unfold gJ
 rw[tu]
 apply tv
 intro i
 by_cases e:j=i
 ·subst e
  rw[tw (by simpa using a)]
  simp[av,a]
 ·rw[tz e]
theorem SS.put0 (s:SS w0 h0 w h B R F){j:Nat}{a:List Bx}{w':World}(c:j<B.length)(p:Put (av B j).b w w')(d:St w0 h0 w' h a)(e:a.map (·.b)=B.map (·.b)):SS w0 h0 w' h a R F :=
 ⟨s.g0,d,fun r hr=>by rw[e];exact (s.ro r hr).put p (gx.2 ⟨_,bu c,rfl⟩),s.ap,s.mo,s.f⟩
theorem SS.new (s:SS w0 h0 w h B R F){w':World}{a:Hp}(u:Up w h w' a){b:Nat}{ty:TypeId}{vs:List Value}(j:h.size<=b)(i:St w0 h0 w' a (⟨b,ty,vs⟩::B)):SS w0 h0 w' a (⟨b,ty,vs⟩::B) R F :=
 ⟨s.g0,i,fun r hr=>((s.ro r hr).up u).new b (fun c d e=>by have:=(s.ro r hr).lt d;omega),s.ap,s.mo,s.f.gw s.mo u.gr.gw⟩
theorem SS.stepM (s:SS w0 h0 w h B R F)(j:Nat){rb:Nat}{vs:List Value}{w':World}{c:Hp}(u:UpM [rb] w h w' c)(i:Own w' rb (av B j).t vs)(d:decide (j<B.length)=true:=by kernel_rfl)(e:(av B j).b=rb:=by kernel_rfl):SS w0 h0 w' c (gJ B j vs) R F:=by
 subst e;have a:=oT d;exact ⟨s.g0,s.st.stepM s.g0 a u i,fun r hr=>by rw[j9 a];exact (s.ro r hr).upM u (gx.2 ⟨_,bu a,rfl⟩),s.ap,s.mo,s.f.gw s.mo u.gr.gw⟩
theorem SS.drop (s:SS w0 h0 w h B R F)(k m:Nat):SS w0 h0 w h (B.drop k) (R.drop m) F :=
 ⟨s.g0,s.st.drop k,fun r hr=>(s.ro r (zh hr)).sub _ (fun b c=>by
  obtain ⟨x,a,e⟩:=gx.1 c;exact gx.2 ⟨x,zh a,e⟩),s.ap.sublist (zy _ _),s.mo,s.f⟩
theorem SS.own (s:SS w0 h0 w h B R F)(j:Nat)(a:decide (j<B.length)=true:=by kernel_rfl):Own w (av B j).b (av B j).t (av B j).vs:=s.st.own _ (bu (oT a))
theorem SS.jk (s:SS w0 h0 w h B R F)(j:Nat)(a:decide (j<B.length)=true:=by kernel_rfl):h[(av B j).b]?=some be:=s.st.jk _ (bu (oT a))
theorem SS.pub (s:SS w0 h0 w h B R F)(j:Nat)(l:decide (j<B.length)=true:=by kernel_rfl):∃ a,SS w0 h0 w a (B.eraseIdx j) R F/\Seg a (av B j).b 0 (av B j).vs/\h0.size<=(av B j).b/\a[(av B j).b]?=some (.cells (av B j).vs.toArray (av B j).t (0,0)):=by
 have c:=oT l;obtain ⟨a,u,gw,y,o,d⟩:=s.st.pubX j c;have i:=bu c;refine ⟨a,⟨s.g0,u,fun r hr=>((s.ro r hr).out (gx.2 ⟨_,i,rfl⟩) d).sub _ (fun b z=>?_),s.ap,s.mo,s.f.gw s.mo gw⟩,y,s.st.lo _ i,o⟩;obtain ⟨x,p,e⟩:=gx.1 z;exact gx.2 ⟨x,A6 p,e⟩
theorem SS.take (s:SS w0 h0 w h B R F){w':World}{d:Hp}(u:Up w h w' d){b:Nat}{ty:TypeId}{vs:List Value}(z:h.size<=b)(f:d[b]?=some (.cells vs.toArray ty (0,0)))(o:(ty == 0)=false:=by kernel_rfl) :
  ∃ j,SS w0 h0 w' j (⟨b,ty,vs⟩::B) R F/\(∀ c,c≠b->j[c]?=d[c]?)/\Gr h j:=by
 have l:=aR f;have p:Gr h (d.setIfInBounds b be):=⟨by simp;exact u.gr.size,fun c i=>by rw[i2 oM];exact u.gr.blk c i⟩
 have J:G w' (d.setIfInBounds b be):=⟨by simp;exact u.g.size,fun c=>by
  by_cases e:b=c
  ·subst e;right;rw[As l]
  ·rw[i2 e];exact u.g.blk c⟩
 have C:Up w h w' (d.setIfInBounds b be):=⟨u.ext,p,J⟩
 have H:Own w' b ty vs:=by
  rcases u.g.blk b with e|e
  ·exact e.symm.trans f
  ·rw[e] at f
   injection f with f
   unfold be at f
   injection f with h1 h2 h3
   rw[<-h2] at o
   cases o
 refine ⟨d.setIfInBounds b be,s.new C z ⟨s.st.up.trans C,?_,?_,?_,?_⟩,fun c i=>i2 (Ne.symm i),p⟩
 ·intro x a
  rcases g2.1 a with rfl|a
  ·exact H
  ·exact (s.st.own x a).ext u.ext
 ·intro x a
  rcases g2.1 a with rfl|a
  ·exact As l
  ·rw[p.blk _ (aR (s.st.jk x a))];exact s.st.jk x a
 ·intro x a
  rcases g2.1 a with rfl|a
  ·exact ep s.st.sz z
  ·exact s.st.lo x a
 ·refine g3.2 ⟨fun L=>?_,s.st.nd⟩
  obtain ⟨y,D,I⟩:=gx.1 L;have:=aR (s.st.jk y D);have K:y.b=b:=I
  omega
theorem SS.pubr (s:SS w0 h0 w h B R F)(j:Nat){ty:TypeId}{sz c:Nat}{A:Z9}{α:Type}{f:α->List Value}{l:List α}(d:α)(hf:∀ x,(f x).length=sz)(hr:R.getD j default=⟨ty,sz,A,c,l.length,l.flatMap f⟩:=by kernel_rfl)(L:decide (j<R.length)=true:=by kernel_rfl) :
  ∃ y,SS w0 h0 w y B (R.eraseIdx j) ((fun h=>SlO sz f d h A l)::F)/\l.length<=c:=by
 have a:=oT L;have D:R[j]=⟨ty,sz,A,c,l.length,l.flatMap f⟩:=by rw[<-hr];simp[a]
 have O:R[j]∈R:=gp a;have C:=s.ro _ O;rw[D] at C
 obtain ⟨y,I,gw,J,_,M,hz,K⟩:=Gro.pub3 s.st C
 have o:∀ r∈R.eraseIdx j,Apart r.v R[j].v:=by
  intro r hr;obtain ⟨i,hi,e⟩:=ua.1 hr;rw[Aw] at e
  have b:=A9.1 s.ap
  split at e
  ·rename_i H;rw[<-e];exact b i j oM a H
  ·rename_i H
   rw[<-e];have z:i+1<R.length:=by rw[AS a] at hi;omega
   exact (b j (i+1) a z oM).symm
 refine ⟨y,⟨s.g0,I,fun r hr=>(s.ro r (A6 hr)).pubo J (by have:=o r hr;rw[D] at this;exact this),s.ap.sublist (A7 R j),fun p b=>by
  rcases g2.1 b with rfl|b
  ·exact fun _ _ u x=>x.gw u
  ·exact s.mo p b,SlO.of_pub hf hz K,s.f.gw s.mo gw⟩,M⟩
theorem SS.grown (s:SS w0 h0 w h B R F){j:Nat}(I:j<R.length){w':World}{v':Value}{m2:Nat}{news:List Value}(Q:w'.ownsRow h0.size R[j].ty R[j].sz v' (R[j].n+m2) (R[j].cs++news))(M:w.grownBy w' R[j].v.ownBlock)(O:v'.ownBlock=R[j].v.ownBlock\/v'.ownBlock=some w.heap.size) :
    ∃ C A c,v'=.slice A (R[j].n+m2) c/\Gr h C/\SS w0 h0 w' C B (R.set j ⟨R[j].ty,R[j].sz,A,c,R[j].n+m2,R[j].cs++news⟩) F:=by
  have W:R[j]∈R:=gp I;have r:=s.ro _ W;obtain ⟨C,y,V,D⟩:=Bt s.st s.g0 r M;have U:=r.grown s.st Q O y D
  have H:∃ A c,v'=.slice A (R[j].n+m2) c:=by
    rcases Q with ⟨_,⟨e,e2⟩|⟨g,cap,cur,e,_⟩⟩
    . exact ⟨none,0,by rw[e,e2]⟩
    . exact ⟨_,_,e⟩
  obtain ⟨A,c,e⟩:=H;subst e;have J:=A9.1 s.ap
  have d:∀ i (hi:i<R.length),i≠j->Apart R[j].v R[i].v:=fun i hi p=>by
    rcases Nat.lt_or_gt_of_ne p with hl|hl
    . exact (J i j hi I hl).symm
    . exact J j i I hi hl
  have l:∀ i (hi:i<R.length),i≠j->Apart (.slice A (R[j].n+m2) c) R[i].v:=fun i hi p =>
    Apart.grown (w:=w) (d i hi p) O (fun b o=>jv (s.ro _ (gp hi)).own o)
  refine ⟨C,A,c,rfl,y,⟨s.g0,V,?_,?_,s.mo,s.f.gw s.mo y.gw⟩⟩
  . intro x S
    obtain ⟨i,hi,z⟩:=ua.1 S;have a:i<R.length:=by simpa using hi
    by_cases e:j=i
    . subst e
      simp at z
      rw[<-z];exact U
    . rw[Bs e] at z
      rw[<-z];exact (s.ro _ (gp a)).app M y (fun b o L=>d i a (Ne.symm e) b L o)
  . refine A9.2 (fun i k hi hk K=>?_)
    have a:i<R.length:=by simpa using hi
    have u:k<R.length:=by simpa using hk
    by_cases e:j=i
    . subst e
      rw[Dw,Bs oM];exact l k u oM
    . by_cases e2:j=k
      . subst e2
        rw[Dw,Bs oM];exact (l i a oM).symm
      . rw[Bs e,Bs e2]
        exact J i k a u K
end ss
theorem SS.aS {α:Type}{sz:Nat}{f:α->List Value}{x:α}{A:Z9}{l:List α}{w0 w:World}{h0 h:Hp}{B:List Bx}{R:List Rw}{F:List (Hp->Prop)}(s:SS w0 h0 w h B R F)(p:SlO sz f x h A l):SS w0 h0 w h B R ((fun h=>SlO sz f x h A l)::F):=s.a_SlO p
theorem SS.aP {α β:Type}{sz a:Nat}{f:α->List Value}{x:α}{A:Z9}{l:List α}{g:β->List Value}{y:β}{D:Z9}{m:List β}{w0 w:World}{h0 h:Hp}{B:List Bx}{R:List Rw}{F:List (Hp->Prop)}(s:SS w0 h0 w h B R F)(p:SlO sz f x h A l)(q:SlO a g y h D m):SS w0 h0 w h B R ((fun h=>SlO a g y h D m)::(fun h=>SlO sz f x h A l)::F):=(s.a_SlO p).a_SlO q
section
variable {P:Program}{n:Nat}{N R:Po}{X:Nat->Po}{Γ:cl}{w:World}{h:Hp}
theorem cQ {x y:Code}(H:CG P n (fun a w=>y.wp P (iB N R X) a w) R X x Γ w):CG P n N R X (.seq x y) Γ w:=CG.seq H
theorem cK {y:Code}{N' R':Po}{X':Nat->Po}(H:CG P n N' R' X' y Γ w):CG P n (fun a w=>y.wp P (iB N' R' X') a w) R X .skip Γ w:=CG.skipN H
theorem kQ {id:Nat}{ops:Array Oper}(H:LG P n N R X ops 0 Γ w):CG P n N R X (.region id ops false) Γ w:=CG.listed H
theorem kZ {id:Nat}{c:Code}(H:CG P n N R (fun i=>if i=id then N else X i) c Γ w):CG P n N R X (.block id c) Γ w:=CG.block H
theorem kX (H:∀ a,Kn n a Γ->R a w):CG P n N R X .ret Γ w:=CG.ret H
theorem sS (g:G w h):SS w h w h [] [] []:=SS.start g
end
theorem nR (n:Nat):n<=n:=eb n
theorem gK {n:Int}(h0 : -9223372036854775808<=n)(h1:n<=9223372036854775807):IntKind.wrap .i64 n=n:=by rw[IntKind.wrap_i64];omega
def CD (P:Program)(ρ:Operand->Value)(o:Oper):Option (Value × Value × Nat) :=
  match o.op with
  | .indexAddr t x ix=>match P.underlying t with
    | some (.slice e)=>(P.info? e).map fun i=>(ρ x,ρ ix,i.size)
    | _=>none
  | _=>none
theorem ik {P:Program}{Γ:cl}{o:Oper}{A:Z9}{len b sz:Nat}{i:Int}{k:Nat}(h:CD P (ev Γ) o=some (.slice A len b,.int .i64 i,sz))(f:A=some ⟨aB A,aO A,none⟩)(hk:i=k)(a:k<len)(w:World) :
    (execOp (ev Γ) o).run P w=.ok (.value (.pointer (some ⟨aB A,aO A+k*sz,none⟩))) w:=by
  unfold CD at h
  split at h
  . rename_i t x ix c
    split at h
    . rename_i e d
      cases hi:P.info? e with
      | none=>rw[hi] at h;cases h
      | some inf =>
        rw[hi] at h
        simp only[tj,Option.some.injEq,Prod.mk.injEq] at h
        exact F7 (P:=P) k c h.1 h.2.1 d (by rw[hi];simp[h.2.2]) f hk a w
    . cases h
  . cases h
def B2 (P:Program)(ρ:Operand->Value)(o:Oper):Option (Value × Option Value × Option Value × Nat) :=
  match o.op with
  | .slice t x lo' hi' none=>match P.underlying t with
    | some (.slice e)=>(P.info? e).map fun i=>(ρ x,lo'.map ρ,hi'.map ρ,i.size)
    | _=>none
  | _=>none
theorem sK {P:Program}{Γ:cl}{o:Oper}{A:Z9}{len a sz:Nat}{i:Int}(k:Nat)(h:B2 P (ev Γ) o=some (.slice A len a,none,some (.int .i64 i),sz))(hk:i=k)(b:k<=a)(w:World) :
    (execOp (ev Γ) o).run P w=.ok (.value (.slice A k a)) w:=by
  unfold B2 at h
  split at h
  . rename_i t x l r d
    split at h
    . rename_i e f
      cases hi:P.info? e with
      | none=>rw[hi] at h;cases h
      | some inf =>
        rw[hi] at h
        simp only[tj,Option.some.injEq,Prod.mk.injEq,D0,ti] at h
        obtain ⟨h1,rfl,⟨y,rfl,c⟩,j⟩:=h;exact KM (P:=P) k d h1 c f (by rw[hi];rfl) hk b w
    . cases h
  . cases h
theorem lr {P:Program}{Γ:cl}{o:Oper}{A:Z9}{len a sz:Nat}{i:Int}(k:Nat)(h:B2 P (ev Γ) o=some (.slice A len a,some (.int .i64 i),none,sz))(hk:i=k)(b:k<=len)(w:World) :
    (execOp (ev Γ) o).run P w=.ok (.value (.slice (if a=k then A else A.map (·.add (k*sz))) (len-k) (a-k))) w:=by
  unfold B2 at h
  split at h
  . rename_i t x l r f
    split at h
    . rename_i e j
      cases hi:P.info? e with
      | none=>rw[hi] at h;cases h
      | some inf =>
        rw[hi] at h
        simp only[tj,Option.some.injEq,Prod.mk.injEq,D0,ti] at h
        obtain ⟨h1,⟨y,rfl,d⟩,rfl,c⟩:=h;exact GS (P:=P) k f h1 d j (by rw[hi];simp[c]) hk b w
    . cases h
  . cases h
def JT (P:Program)(ρ:Operand->Value)(o:Oper):Option (Value × Value × TypeId × Value × Nat × Nat) :=
  match o.op with
  | .makeSlice t x y=>match P.underlying t with
    | some (.slice e)=>match P.info? e with
      | some i=>i.zero.map fun z=>(ρ x,ρ y,e,z,i.size,i.bytes)
      | _=>none
    | _=>none
  | _=>none
theorem tI {P:Program}{Γ:cl}{o:Oper}{e:TypeId}{z:Value}{m sz i:Nat}{α:Type}{f:α->List Value}{j:α}(h:JT P (ev Γ) o=some (.int .i64 (m:Int),.int .i64 (m:Int),e,z,sz,i))(d:z.cells.toList=f j)(b:z.cells.size=sz)(a:0<sz)(F:i*m<=140737488355328)(c:m<9223372036854775808)(w:World) :
    (execOp (ev Γ) o).run P w=.ok (.value (.slice (some ⟨w.heap.size,0,none⟩) m m)) (w.alloc (.cells ((zY m j).flatMap f).toArray e (0,0))):=by
  unfold JT at h
  split at h
  . rename_i t x y B
    split at h
    . rename_i I C
      split at h
      . rename_i D hi
        simp only[ti,Prod.mk.injEq] at h
        obtain ⟨H,hz,h1,p,rfl,rfl,u,l⟩:=h;exact KA (P:=P) B h1 p C (by rw[hi];simp[hz,u,l]) d b a F c w
      . cases h
    . cases h
  . cases h
def pr (P:Program)(ρ:Operand->Value)(o:Oper):Option (Value × Value × TypeId × Value × Nat × Nat) :=
  match o.op with
  | .call { callee:=.builtin .append,args:=⟨[x,y]⟩,argTypes:=⟨[t,u]⟩ }=>if t=u then match P.underlying t with
    | some (.slice e)=>match P.info? e with
      | some i=>i.zero.map fun z=>(ρ x,ρ y,e,z,i.size,i.bytes)
      | _=>none
    | _=>none else none
  | _=>none
theorem jE {P:Program}{ρ:Operand->Value}{o:Oper}{r:Value × Value × TypeId × Value × Nat × Nat}(h:pr P ρ o=some r):∃ x y t,o.op=.call { callee:=.builtin .append,args:=#[x,y],argTypes:=#[t,t] }/\ρ x=r.1/\ρ y=r.2.1/\P.underlying t=some (.slice r.2.2.1)/\(P.info? r.2.2.1).map (fun i=>(i.zero,i.size,i.bytes))=some (some r.2.2.2.1,r.2.2.2.2.1,r.2.2.2.2.2):=by
  unfold pr at h
  split at h
  . rename_i x y t u b
    split at h
    . rename_i a
      subst a
      split at h
      . rename_i e d
        split at h
        . rename_i c hi
          simp only[ti] at h
          obtain ⟨z,hz,rfl⟩:=h;exact ⟨x,y,t,b,rfl,rfl,d,by rw[hi];simp[hz]⟩
        . cases h
      . cases h
    . cases h
  . cases h
section listed
variable {P:Program}{n:Nat}{N R:Po}{X:Nat->Po}{ops:Array Oper}{k:Nat}{Γ:cl}{w:World}{h:Hp}{w0:World}{h0:Hp}{B:List Bx}{Rs:List Rw}{F:List (Hp->Prop)}
def cL (ops:Array Oper)(Γ:cl)(k t n:Nat):Bool:=io ops Γ k && ((ak ops k).dst == some t) && decide (t<n) && (bg ops Γ (ak ops k) == some true)
def cS (ops:Array Oper)(Γ:cl)(k:Nat):Bool:=io ops Γ k && ((ak ops k).dst == none) && (bg ops Γ (ak ops k) == some true)
theorem bQ {t:Nat}(h:cL ops Γ k t n=true):(io ops Γ k && ((ak ops k).dst == some t) && decide (t<n))=true/\bg ops Γ (ak ops k)=some true:=by
 unfold cL at h
 rw[i3] at h
 exact ⟨h.1,by simpa using h.2⟩
theorem iu (h:cS ops Γ k=true):(io ops Γ k && ((ak ops k).dst == none))=true/\bg ops Γ (ak ops k)=some true:=by
 unfold cS at h
 rw[i3] at h
 exact ⟨h.1,by simpa using h.2⟩
theorem lV (t:Nat)(v:Value)(H:LG P n N R X ops (k+1) ((t,v)::Γ) w)(a:cL ops Γ k t n=true:=by kernel_rfl)(hr:(execOp (ev Γ) (ak ops k)).run P w=.ok (.value v) w:=by kernel_rfl):LG P n N R X ops k Γ w :=
 LG.val t v w (bQ a).1 (bQ a).2 hr H
theorem lB (t:Nat){e b:Bool}(c:e=b)(H:LG P n N R X ops (k+1) ((t,.bool b)::Γ) w)(a:cL ops Γ k t n=true:=by kernel_rfl)(hr:(execOp (ev Γ) (ak ops k)).run P w=.ok (.value (.bool e)) w:=by kernel_rfl):LG P n N R X ops k Γ w :=
 LG.val t _ w (bQ a).1 (bQ a).2 (c▸hr) H
theorem lI (t:Nat)(m:Int)(H:LG P n N R X ops (k+1) ((t,.int .i64 m)::Γ) w)(a:cL ops Γ k t n=true:=by kernel_rfl)(hr:(execOp (ev Γ) (ak ops k)).run P w=.ok (.value (.int .i64 (IntKind.wrap .i64 m))) w:=by kernel_rfl)(h0 : -9223372036854775808<=m:=by omega)(h1:m<=9223372036854775807:=by omega):LG P n N R X ops k Γ w :=
 LG.val t _ w (bQ a).1 (bQ a).2 (by rw[gK h0 h1] at hr;exact hr) H
theorem bp (t:Nat)(m:Int)(j:Nat)(H:LG P n N R X ops (k+1) ((t,.int .i64 (j:Int))::Γ) w)(a:cL ops Γ k t n=true:=by kernel_rfl)(hr:(execOp (ev Γ) (ak ops k)).run P w=.ok (.value (.int .i64 (IntKind.wrap .i64 m))) w:=by kernel_rfl)(b:m=j:=by omega)(h1:m<=9223372036854775807:=by omega):LG P n N R X ops k Γ w :=
 LG.val t _ w (bQ a).1 (bQ a).2 (by rw[gK oM h1,b] at hr;exact hr) H
theorem lO (t:Nat)(ps:List (Nat × Nat × Nat))(v:Value)(s:SS w0 h0 w h B Rs F)(H:LG P n N R X ops (k+1) ((t,v)::Γ) w)(a:cL ops Γ k t n=true:=by kernel_rfl)(b:cC B ps=true:=by kernel_rfl)(c:bS P (execOp (ev Γ) (ak ops k)) (dj B ps)=some (.value v,cc B ps):=by kernel_rfl):LG P n N R X ops k Γ w :=
 LG.own t ps v s.st (bQ a).1 (bQ a).2 b c H
def H7 (P:Program)(ops:Array Oper)(B:List Bx):cl->Nat->List (Nat × Value × List (Nat × Nat × Nat))->List (Option (Next × List Addr))
  | _,_,[]=>[]
  | Γ,k,x::l=>bS P (execOp (ev Γ) (ak ops k)) (dj B x.2.2)::H7 P ops B ((x.1,x.2.1)::Γ) (k+1) l
def Je (n:Nat)(ops:Array Oper)(B:List Bx):cl->Nat->List (Nat × Value × List (Nat × Nat × Nat))->Bool
  | _,_,[]=>true
  | Γ,k,x::l=>cL ops Γ k x.1 n && cC B x.2.2 && Je n ops B ((x.1,x.2.1)::Γ) (k+1) l
def uw (Γ:cl):List (Nat × Value × List (Nat × Nat × Nat))->cl
  | []=>Γ
  | x::l=>uw ((x.1,x.2.1)::Γ) l
theorem lS (s:SS w0 h0 w h B Rs F)(l:List (Nat × Value × List (Nat × Nat × Nat)))(H:LG P n N R X ops (k+l.length) (uw Γ l) w)(a:Je n ops B Γ k l=true:=by kernel_rfl)(b:H7 P ops B Γ k l=l.map (fun x=>some (.value x.2.1,cc B x.2.2)):=by kernel_rfl):LG P n N R X ops k Γ w:=by
  induction l generalizing Γ k with
  | nil=>exact H
  | cons x l ih =>
    unfold Je at a
    simp only[i3] at a
    unfold H7 at b
    rw[Af] at b
    injection b with e1 e2
    refine lO x.1 x.2.2 x.2.1 s (ih ?_ a.2 e2) a.1.1 a.1.2 e1;have:k+1+l.length=k+(x::l).length:=by simp;omega
    rw[this];exact H
inductive It where
  | c
  | v (x:Value)
  | o (x:Value) (j a n:Nat)
def nT (ops:Array Oper)(k:Nat):Nat:=(ak ops k).dst.getD 0
def nX (ops:Array Oper)(k:Nat)(Γ:cl):Value:=match (ak ops k).op with
  | .move x=>ev Γ x
  | .assign x=>ev Γ x
  | _=>.tuple #[]
def It.to (ops:Array Oper)(k:Nat)(Γ:cl):It->Nat × Value × List (Nat × Nat × Nat)
  | .c=>(nT ops k,nX ops k Γ,[])
  | .v x=>(nT ops k,x,[])
  | .o x j a n=>(nT ops k,x,[(j,a,n)])
def wl (ops:Array Oper):Nat->cl->List It->List (Nat × Value × List (Nat × Nat × Nat))
  | _,_,[]=>[]
  | k,Γ,x::l=>x.to ops k Γ::wl ops (k+1) (((x.to ops k Γ).1,(x.to ops k Γ).2.1)::Γ) l
theorem DA (ops:Array Oper)(k:Nat)(Γ:cl)(l:List It):(wl ops k Γ l).length=l.length:=by
 induction l generalizing k Γ with
 | nil=>rfl
 | cons x l ih=>show (wl _ _ _ l).length+1=_;rw[ih];rfl
abbrev ac:List It:=[.c]
abbrev aD:List It:=[.c,.c]
abbrev dl:List It:=[.c,.c,.c]
abbrev oz:List It:=[.c,.c,.c,.c]
abbrev IL:List It:=[.c,.c,.c,.c,.c]
abbrev m6:List It:=[.c,.c,.c,.c,.c,.c]
theorem lL (s:SS w0 h0 w h B Rs F)(l:List It)(H:LG P n N R X ops (k+l.length) (uw Γ (wl ops k Γ l)) w)(a:Je n ops B Γ k (wl ops k Γ l)=true:=by kernel_rfl)(b:H7 P ops B Γ k (wl ops k Γ l)=(wl ops k Γ l).map (fun x=>some (.value x.2.1,cc B x.2.2)):=by kernel_rfl):LG P n N R X ops k Γ w :=
 lS s (wl ops k Γ l) (by rw[DA];exact H) a b
theorem lP (j o:Nat)(cs:List Value)(s:SS w0 h0 w h B Rs F)(H:∀ w',SS w0 h0 w' h (gl B j o cs) Rs F->LG P n N R X ops (k+1) Γ w')(c:cS ops Γ k=true:=by kernel_rfl)
  (a:(decide (j<B.length) && decide (o+cs.length<=(av B j).vs.length))=true:=by kernel_rfl)(e:dE P (execOp (ev Γ) (ak ops k))=some (.skip,lf (av B j).b o cs):=by kernel_rfl):LG P n N R X ops k Γ w :=
 LG.put j o cs s.st s.g0 (iu c).1 (iu c).2 a e (fun w' p d=>H w' (s.put0 (oT (i3 _ _▸a).1) p d (mM (oT (i3 _ _▸a).1))))
theorem lA (t:Nat)(ty:TypeId)(vs:List Value)(s:SS w0 h0 w h B Rs F)(H:∀ b w' a,SS w0 h0 w' a (⟨b,ty,vs⟩::B) Rs F->LG P n N R X ops (k+1) ((t,.pointer (some ⟨b,0,none⟩))::Γ) w')(c:cL ops Γ k t n=true:=by kernel_rfl)
  (hr:(execOp (ev Γ) (ak ops k)).run P w=.ok (.value (.pointer (some ⟨w.heap.size,0,none⟩))) (w.alloc (.cells vs.toArray ty (0,0))):=by kernel_rfl):LG P n N R X ops k Γ w :=
 LG.var t ty vs s.st (bQ c).1 (bQ c).2 hr (fun b w' a e u d=>H b w' a (s.new u e d))
theorem lC (t:Nat){f:FuncId}{args:Array Value}{Φ:Value->Hp->Prop}(s:SS w0 h0 w h B Rs F)(c:Calls P f args w (Ret w h Φ))(H:∀ v w' a,SS w0 h0 w' a B Rs F->Φ v a->LG P n N R X ops (k+1) ((t,v)::Γ) w')(d:cL ops Γ k t n=true:=by kernel_rfl)(hr:(execOp (ev Γ) (ak ops k)).run P w=.ok (.enter f args) w:=by kernel_rfl):LG P n N R X ops k Γ w :=
 LG.call t f args (bQ d).1 (bQ d).2 hr (c.mono fun e w' ⟨v,a,i,u,b⟩=>⟨v,i,H v w' a (s.step u) b⟩)
theorem kd (t:Nat){f:FuncId}{args:Array Value}{Φ:Value->Hp->Prop}(c:Calls P f args w (Ret w h Φ))(H:∀ v w' a,Up w h w' a->Φ v a->LG P n N R X ops (k+1) ((t,v)::Γ) w')(d:cL ops Γ k t n=true:=by kernel_rfl)(hr:(execOp (ev Γ) (ak ops k)).run P w=.ok (.enter f args) w:=by kernel_rfl):LG P n N R X ops k Γ w :=
 LG.call t f args (bQ d).1 (bQ d).2 hr (c.mono fun e w' ⟨v,a,i,u,b⟩=>⟨v,i,H v w' a u b⟩)
theorem gh (t:Nat){f:FuncId}{args:Array Value}{rb:Nat}{Φ:Value->World->Hp->Prop}(c:Calls P f args w (eW rb w h Φ))(H:∀ v w' a,UpM [rb] w h w' a->Φ v w' a->LG P n N R X ops (k+1) ((t,v)::Γ) w')(d:cL ops Γ k t n=true:=by kernel_rfl)(hr:(execOp (ev Γ) (ak ops k)).run P w=.ok (.enter f args) w:=by kernel_rfl):LG P n N R X ops k Γ w :=
 LG.call t f args (bQ d).1 (bQ d).2 hr (c.mono fun e w' ⟨v,a,i,u,b⟩=>⟨v,i,H v w' a u b⟩)
theorem lH (t:Nat)(v:Value){b o:Nat}{cs:List Value}(s:SS w0 h0 w h B Rs F)(c:Seg h b o cs)(H:LG P n N R X ops (k+1) ((t,v)::Γ) w)(a:cL ops Γ k t n=true:=by kernel_rfl)(d:bS P (execOp (ev Γ) (ak ops k)) cs=some (.value v,kF b o cs.length):=by kernel_rfl):LG P n N R X ops k Γ w :=
 LG.val t v w (bQ a).1 (bQ a).2 (Seg.run c s.g (Ext.refl _) d) H
theorem HT (t:Nat)(v:Value){u:Value}{b o:Nat}{cs:List Value}(s:SS w0 h0 w h B Rs F)(c:Seg h b o cs)(e:v=u)(H:LG P n N R X ops (k+1) ((t,u)::Γ) w)(a:cL ops Γ k t n=true:=by kernel_rfl)(d:bS P (execOp (ev Γ) (ak ops k)) cs=some (.value v,kF b o cs.length):=by kernel_rfl):LG P n N R X ops k Γ w :=
 LG.val t u w (bQ a).1 (bQ a).2 (e▸Seg.run c s.g (Ext.refl _) d) H
theorem lX (t:Nat)(A:Z9)(len a sz:Nat)(i:Int)(j:Nat)(d:A=some ⟨aB A,aO A,none⟩)(H:LG P n N R X ops (k+1) ((t,.pointer (some ⟨aB A,aO A+j*sz,none⟩))::Γ) w)(c:cL ops Γ k t n=true:=by kernel_rfl)(e:CD P (ev Γ) (ak ops k)=some (.slice A len a,.int .i64 i,sz):=by kernel_rfl)(hk:i=j:=by omega)(b:j<len:=by omega):LG P n N R X ops k Γ w :=
 LG.val t _ w (bQ c).1 (bQ c).2 (ik e d hk b w) H
theorem lT (t:Nat)(A:Z9)(len a sz:Nat)(i:Int)(j:Nat)(H:LG P n N R X ops (k+1) ((t,.slice A j a)::Γ) w)(c:cL ops Γ k t n=true:=by kernel_rfl)(d:B2 P (ev Γ) (ak ops k)=some (.slice A len a,none,some (.int .i64 i),sz):=by kernel_rfl)(hk:i=j:=by omega)(b:j<=a:=by omega):LG P n N R X ops k Γ w :=
 LG.val t _ w (bQ c).1 (bQ c).2 (sK j d hk b w) H
theorem lF (t:Nat)(A:Z9)(len a sz:Nat)(i:Int)(j:Nat)(H:LG P n N R X ops (k+1) ((t,.slice (if a=j then A else A.map (·.add (j*sz))) (len-j) (a-j))::Γ) w)(c:cL ops Γ k t n=true:=by kernel_rfl)(d:B2 P (ev Γ) (ak ops k)=some (.slice A len a,some (.int .i64 i),none,sz):=by kernel_rfl)(hk:i=j:=by omega)(b:j<=len:=by omega):LG P n N R X ops k Γ w :=
 LG.val t _ w (bQ c).1 (bQ c).2 (lr j d hk b w) H
theorem lR (t:Nat)(ty:TypeId)(m:Nat)(cs:List Value)(s:SS w0 h0 w h B Rs F)(H:∀ b w' a,SS w0 h0 w' a B Rs ((fun h=>Seg h b 0 cs)::F)->LG P n N R X ops (k+1) ((t,.slice (some ⟨b,0,none⟩) m m)::Γ) w')(c:cL ops Γ k t n=true:=by kernel_rfl)
  (hr:(execOp (ev Γ) (ak ops k)).run P w=.ok (.value (.slice (some ⟨w.heap.size,0,none⟩) m m)) (w.alloc (.cells cs.toArray ty (0,0))):=by kernel_rfl):LG P n N R X ops k Γ w :=
 LG.row t ty m cs s.g (bQ c).1 (bQ c).2 hr (fun b w' a u d=>H b w' a ((s.step u).a_Seg d))
theorem lK {α:Type}(t:Nat)(ty:TypeId)(m sz j:Nat)(z:Value)(f:α->List Value)(o:α)(s:SS w0 h0 w h B Rs F)(H:∀ b w' e,SS w0 h0 w' e (⟨b,ty,(zY m o).flatMap f⟩::B) Rs F->LG P n N R X ops (k+1) ((t,.slice (some ⟨b,0,none⟩) m m)::Γ) w')(l:cL ops Γ k t n=true:=by kernel_rfl)
  (x:JT P (ev Γ) (ak ops k)=some (.int .i64 (m:Int),.int .i64 (m:Int),ty,z,sz,j):=by kernel_rfl)(i:z.cells.toList=f o:=by kernel_rfl)(c:z.cells.size=sz:=by kernel_rfl)(a:0<sz:=by decide)(C:j*m<=140737488355328:=by omega)(d:m<9223372036854775808:=by omega):LG P n N R X ops k Γ w :=
 LG.arr t ty m _ s.st (bQ l).1 (bQ l).2 (tI x i c a C d w) (fun b w' e y u p=>H b w' e (s.new u y p))
theorem lQ {α:Type}(t j:Nat)(l:List α)(f:α->List Value)(sz:Nat)(d:α)(e:Nat)(v:Value)(s:SS w0 h0 w h B Rs F)(hk:e<l.length)(H:LG P n N R X ops (k+1) ((t,v)::Γ) w)(a:cL ops Γ k t n=true:=by kernel_rfl)
  (c:decide (j<B.length)=true:=by kernel_rfl)(hB:(av B j).vs=l.flatMap f:=by kernel_rfl)(hf:∀ x,(f x).length=sz:=by intro _;rfl)
  (i:bS P (execOp (ev Γ) (ak ops k)) (f (l.getD e d))=some (.value v,kF (av B j).b (0+e*sz) (f (l.getD e d)).length):=by kernel_rfl):LG P n N R X ops k Γ w :=
 LG.ownA t j l f sz d e v s.st (bQ a).1 (bQ a).2 c hB hf hk i H
theorem lW {α:Type}(j:Nat)(l:List α)(f:α->List Value)(sz e:Nat)(x:α)(s:SS w0 h0 w h B Rs F)(hk:e<l.length)(H:∀ w',SS w0 h0 w' h (gJ B j ((l.set e x).flatMap f)) Rs F->LG P n N R X ops (k+1) Γ w')(c:cS ops Γ k=true:=by kernel_rfl)
  (a:decide (j<B.length)=true:=by kernel_rfl)(hB:(av B j).vs=l.flatMap f:=by kernel_rfl)(hf:∀ x,(f x).length=sz:=by intro _;rfl)
  (i:dE P (execOp (ev Γ) (ak ops k))=some (.skip,lf (av B j).b (0+e*sz) (f x)):=by kernel_rfl):LG P n N R X ops k Γ w :=
 LG.putA j l f sz e x s.st s.g0 (iu c).1 (iu c).2 a hB hf hk i (fun w' p d=>H w' (s.put0 (oT a) p d (j9 (oT a))))
theorem eL {R:List Rw}{j:Nat}{r:Rw}(hr:R.getD j default=r)(a:j<R.length):R[j]=r:=by rw[<-hr];simp[a]
theorem Kj (t j:Nat){ty:TypeId}{sz c m:Nat}{A:Z9}{cs:List Value}{D m2 c2:Nat}{z:Value}{a:Addr}(news:List Value)(s:SS w0 h0 w h B Rs F)(b:∀ i u,news[i]?=some u->w.cell? (a.add i)=some u)(V:news.length=m2*sz)(h1:∀ u∈news,u.oneCell'=true)(I:j<Rs.length)(hr:Rs[j]=⟨ty,sz,A,c,m,cs⟩)
  (J:cL ops Γ k t n=true)(S:pr P (ev Γ) (ak ops k)=some (.slice A m c,.slice (some a) m2 c2,ty,z,sz,D))(o:z.cells.size=sz)(f:0<sz)(Z:m+m2<=1099511627776)(U:(m+m2)*D<=140737488355328)
  (H:∀ l c' w' p,SS w0 h0 w' p B (Rs.set j ⟨ty,sz,l,c',m+m2,cs++news⟩) F->LG P n N R X ops (k+1) ((t,.slice l (m+m2) c')::Γ) w'):LG P n N R X ops k Γ w:=by
 obtain ⟨x,y,Y,O,M,K,W,hi⟩:=jE S;have r:=s.ro _ (gp I);rw[hr] at r
 obtain ⟨v',w',e,ow,L,d⟩:=k6 (P:=P) O M K W hi o f s.st r V b h1 Z U;have C:=s.grown (j:=j) I (w':=w') (v':=v') (m2:=m2) (news:=news) (by rw[hr];exact ow) (by rw[hr];exact L) (by rw[hr];exact d);rw[hr] at C
 obtain ⟨p,l,c',rfl,_,Q⟩:=C;exact LG.val t _ w' (bQ J).1 (bQ J).2 e (H l c' w' p Q)
theorem m9 {α:Type}{f:α->List Value}{l:List α}{x:α}:l.flatMap f++f x=(l++[x]).flatMap f:=by simp
theorem lY {α:Type}(t j:Nat)(ty:TypeId)(sz c:Nat)(A:Z9)(l:List α)(f:α->List Value)(x:α)(p b:Nat)(z:Value)(s:SS w0 h0 w h B Rs F)(C:Seg h b 0 (f x))
  (H:∀ e c' w' o,SS w0 h0 w' o B (Rs.set j ⟨ty,sz,e,c',(l++[x]).length,(l++[x]).flatMap f⟩) F->LG P n N R X ops (k+1) ((t,.slice e (l++[x]).length c')::Γ) w')
  (L:cL ops Γ k t n=true:=by kernel_rfl)(D:pr P (ev Γ) (ak ops k)=some (.slice A l.length c,.slice (some ⟨b,0,none⟩) 1 1,ty,z,sz,p):=by kernel_rfl)(i:z.cells.size=sz:=by kernel_rfl)(a:0<sz:=by decide)
  (hr:Rs.getD j default=⟨ty,sz,A,c,l.length,l.flatMap f⟩:=by kernel_rfl)(K:decide (j<Rs.length)=true:=by kernel_rfl)(h1:(f x).all (·.oneCell')=true:=by kernel_rfl)(J:(f x).length=1*sz:=by kernel_rfl)(O:l.length+1<=1099511627776:=by omega)(I:(l.length+1)*p<=140737488355328:=by omega):LG P n N R X ops k Γ w:=by
 have d:=oT K;refine Kj t j (f x) s (jU s.g C) J (fun u M=>(oi.1 h1) u M) d (eL hr d) L D i a O I (fun e c' w' o y=>?_);have e1:l.length+1=(l++[x]).length:=by simp
 rw[m9,e1] at y
 rw[e1];exact H e c' w' o y
end listed
section code
variable {P:Program}{n:Nat}{N R:Po}{X:Nat->Po}{Γ:cl}{w:World}
theorem ax {id:Nat}{ops:Array Oper}{y:Code}(H:LG P n (fun a w=>y.wp P (iB N R X) a w) R X ops 0 Γ w):CG P n N R X (.seq (.region id ops false) y) Γ w:=CG.seq (CG.listed H)
theorem ct {c:Operand}{x y:Code}(a:CG P n N R X x Γ w)(b:iI Γ c=true:=by kernel_rfl)(hv:ev Γ c=.bool true:=by kernel_rfl):CG P n N R X (.cond c x y) Γ w:=CG.condT b hv a
theorem dD {c:Operand}{x y:Code}(a:CG P n N R X y Γ w)(b:iI Γ c=true:=by kernel_rfl)(hv:ev Γ c=.bool false:=by kernel_rfl):CG P n N R X (.cond c x y) Γ w:=CG.condF b hv a
theorem bH {c:Code}(Γ':cl)(H:CG P n N R X c Γ' w)(a:j5 Γ (Γ'.map (·.1))=Γ':=by kernel_rfl)(b:gk Γ'=gk Γ:=by kernel_rfl):CG P n N R X c Γ w:=CG.to Γ' a b H
theorem lN {ops:Array Oper}{k:Nat}{y:Code}{N' R':Po}{X':Nat->Po}(H:CG P n N' R' X' y Γ w)(b:(k == ops.size)=true:=by kernel_rfl):LG P n (fun a w=>y.wp P (iB N' R' X') a w) R X ops k Γ w:=LG.next b H
theorem aG {ops:Array Oper}{k:Nat}{id:Nat}{b:Array Oper}{y:Code}{N' R':Po}{X':Nat->Po}(H:LG P n (fun a w=>y.wp P (iB N' R' X') a w) R' X' b 0 Γ w)(c:(k == ops.size)=true:=by kernel_rfl):LG P n (fun a w=>(Code.seq (.region id b false) y).wp P (iB N' R' X') a w) R X ops k Γ w:=lN (ax H) c
theorem lD {ops:Array Oper}{k:Nat}(H:∀ a,Kn n a Γ->N a w)(b:(k == ops.size)=true:=by kernel_rfl):LG P n N R X ops k Γ w:=LG.done b H
theorem lG {ops:Array Oper}{k:Nat}(t:Nat)(H:LG P n N R X ops (k+1) ((t,undef)::Γ) w)(a:(decide (k<ops.size) && ((ak ops k).dst == some t) && decide (t<n))=true:=by kernel_rfl)(b:bg ops Γ (ak ops k)=some false:=by kernel_rfl):LG P n N R X ops k Γ w:=LG.out t a b H
theorem SS.ret {b:Func}{Φ:Value->Hp->Prop}{w0:World}{h0:Hp}{h:Hp}{B:List Bx}{Rs:List Rw}{F:List (Hp->Prop)}(s:SS w0 h0 w h B Rs F)(ps:List (Nat × Nat × Nat))(v:Value)(c:Φ v h)(hk:(oY b Γ && cC B ps)=true:=by kernel_rfl)(d:bS P (qK b Γ) (dj B ps)=some (v,cc B ps):=by kernel_rfl):∀ a,Kn n a Γ->pm P b (Ret w0 h0 Φ) a w:=Kt s.st ps v hk d c
theorem SS.retM {b:Func}{rb:Nat}{Φ:Value->World->Hp->Prop}{w0 wz:World}{h0 hz:Hp}{h:Hp}{B:List Bx}{Rs:List Rw}{F:List (Hp->Prop)}(s:SS wz hz w h B Rs F)(d:UpM [rb] w0 h0 w h)(ps:List (Nat × Nat × Nat))(v:Value)(c:Φ v w h)(hk:(oY b Γ && cC B ps)=true:=by kernel_rfl)(e:bS P (qK b Γ) (dj B ps)=some (v,cc B ps):=by kernel_rfl):∀ a,Kn n a Γ->pm P b (eW rb w0 h0 Φ) a w:=Go.Proofs.YthfkmhgnndmblaaGreatDoor.retM s.st d ps v hk e c
theorem go {f:FuncId}{a:Func}{c:Code}{args:Array Value}{d:Ending->World->Prop}(hf:P.funcs[f]?=some a)(Γ0:cl)(i:a.body=some c)(H:CG P a.ntmps (pm P a d) (pm P a d) (fun _ _ _=>False) c Γ0 w)(h:Nat.ble args.size a.ntmps=true:=by kernel_rfl)(e:Γ0=envOf args.toList:=by kernel_rfl)(b:Nat.ble a.ntmps 1000000=true:=by kernel_rfl):Calls P f args w d :=
 enter hf i rfl (D1 h) (D1 b) Γ0 e H
end code
section
variable {P:Program}{n:Nat}{N R N' R' R2:Po}{X X' X2:Nat->Po}{Γ:cl}{w w0:World}{h h0:Hp}{B:List Bx}{Rs:List Rw}{F:List (Hp->Prop)}{ops:Array Oper}{k:Nat}
theorem aq (t:Nat){f:FuncId}{args:Array Value}{x:Value}(s:SS w0 h0 w h B Rs F)(c:Calls P f args w (Ret w h fun v _=>v=x))(H:∀ w1 h1,SS w0 h0 w1 h1 B Rs F->LG P n N R X ops (k+1) ((t,x)::Γ) w1)(a:cL ops Γ k t n=true:=by kernel_rfl)(hr:(execOp (ev Γ) (ak ops k)).run P w=.ok (.enter f args) w:=by kernel_rfl):LG P n N R X ops k Γ w:=lC t s c (fun v w1 h1 b e=>by subst e;exact H w1 h1 b) a hr
theorem aa {id:Nat}{y:Code}(s:SS w0 h0 w h B Rs F)(l:List It)(H:LG P n (fun a w=>y.wp P (iB N R X) a w) R X ops (0+l.length) (uw Γ (wl ops 0 Γ l)) w)(b:Je n ops B Γ 0 (wl ops 0 Γ l)=true:=by kernel_rfl)(c:H7 P ops B Γ 0 (wl ops 0 Γ l)=(wl ops 0 Γ l).map (fun x=>some (.value x.2.1,cc B x.2.2)):=by kernel_rfl):CG P n N R X (.seq (.region id ops false) y) Γ w:=ax (lL s l H b c)
theorem ag {x y:Code}(H:CG P n (fun a w=>y.wp P (iB N' R' X') a w) R' X' x Γ w)(b:(k==ops.size)=true:=by kernel_rfl):LG P n (fun a w=>(Code.seq x y).wp P (iB N' R' X') a w) R X ops k Γ w:=lN (CG.seq H) b
theorem aZ {id:Nat}{c:Code}(H:CG P n N' R' (fun i=>if i=id then N' else X' i) c Γ w)(b:(k==ops.size)=true:=by kernel_rfl):LG P n (fun a w=>(Code.block id c).wp P (iB N' R' X') a w) R X ops k Γ w:=lN (CG.block H) b
theorem ah {c:Operand}{x y:Code}(H:CG P n N' R' X' y Γ w)(b:(k==ops.size)=true:=by kernel_rfl)(hi:iI Γ c=true:=by kernel_rfl)(hv:ev Γ c=.bool false:=by kernel_rfl):LG P n (fun a w=>(Code.cond c x y).wp P (iB N' R' X') a w) R X ops k Γ w:=lN (dD H hi hv) b
theorem am {c:Operand}{x y:Code}(H:CG P n N' R' X' x Γ w)(b:(k==ops.size)=true:=by kernel_rfl)(hi:iI Γ c=true:=by kernel_rfl)(hv:ev Γ c=.bool true:=by kernel_rfl):LG P n (fun a w=>(Code.cond c x y).wp P (iB N' R' X') a w) R X ops k Γ w:=lN (ct H hi hv) b
theorem ae {b:Func}{Φ:Value->Hp->Prop}(s:SS w0 h0 w h B Rs F)(ps:List (Nat×Nat×Nat))(v:Value)(c:Φ v h)(d:(k==ops.size)=true:=by kernel_rfl)(hk:(oY b Γ&&cC B ps)=true:=by kernel_rfl)(e:bS P (qK b Γ) (dj B ps)=some (v,cc B ps):=by kernel_rfl):LG P n (fun a w=>Code.ret.wp P (iB N' (pm P b (Ret w0 h0 Φ)) X') a w) R X ops k Γ w:=lN (CG.ret (s.ret ps v c hk e)) d
end
section drawn
variable {M:Ms}{P:Program}{n:Nat}{N R:Po}{X:Nat->Po}{ops:Array Oper}{k0:Nat}{hr:Hp}{AL:List Al}{L:Array Bool}{Γ:cl}{w:World}{h:Hp}{w0:World}{h0:Hp}{B:List Bx}{Rs:List Rw}{F:List (Hp->Prop)}
def cE (n:Nat)(ops:Array Oper)(k0:Nat)(AL:List Al)(L:Array Bool)(Γ:cl)(i t:Nat):Bool:=dY n ops k0 AL L i t && aY Γ (ak ops i) && (bg ops Γ (ak ops i) == some true)
def B4 (n:Nat)(ops:Array Oper)(k0:Nat)(AL:List Al)(L:Array Bool)(Γ:cl)(i t:Nat):Bool:=dY n ops k0 AL L i t && aY Γ (ak ops i) && ja ops k0 i && (bg ops Γ (ak ops i) == some true)
def EV (n:Nat)(ops:Array Oper)(k0:Nat)(AL:List Al)(L:Array Bool)(Γ:cl)(i t:Nat):Bool:=nN n ops k0 AL L i t && aY Γ (ak ops i) && (bg ops Γ (ak ops i) == some true)
theorem iJ {i t:Nat}(h:cE n ops k0 AL L Γ i t=true):(dY n ops k0 AL L i t && aY Γ (ak ops i))=true/\bg ops Γ (ak ops i)=some true:=by
 unfold cE at h;rw[i3] at h;exact ⟨h.1,by simpa using h.2⟩
theorem iH {i t:Nat}(h:B4 n ops k0 AL L Γ i t=true):(dY n ops k0 AL L i t && aY Γ (ak ops i) && ja ops k0 i)=true/\bg ops Γ (ak ops i)=some true:=by
 unfold B4 at h;rw[i3] at h;exact ⟨h.1,by simpa using h.2⟩
theorem ji {i t:Nat}(h:EV n ops k0 AL L Γ i t=true):(nN n ops k0 AL L i t && aY Γ (ak ops i))=true/\bg ops Γ (ak ops i)=some true:=by
 unfold EV at h;rw[i3] at h;exact ⟨h.1,by simpa using h.2⟩
theorem eV (i t:Nat)(v:Value)(H:EG M P n N R X ops k0 hr AL (L.setIfInBounds i true) ((t,v)::Γ) w h)(a:cE n ops k0 AL L Γ i t=true:=by kernel_rfl)(hv:∀ w,(execOp (ev Γ) (ak ops i)).run P w=.ok (.value v) w:=by intro _;kernel_rfl):EG M P n N R X ops k0 hr AL L Γ w h :=
 Rg.pure i t v (iJ a).1 (iJ a).2 hv H
theorem eB (i t:Nat){e b:Bool}(c:e=b)(H:EG M P n N R X ops k0 hr AL (L.setIfInBounds i true) ((t,.bool b)::Γ) w h)(a:cE n ops k0 AL L Γ i t=true:=by kernel_rfl)(hv:∀ w,(execOp (ev Γ) (ak ops i)).run P w=.ok (.value (.bool e)) w:=by intro _;kernel_rfl):EG M P n N R X ops k0 hr AL L Γ w h :=
 Rg.pure i t _ (iJ a).1 (iJ a).2 (fun w=>c▸hv w) H
theorem eI (i t:Nat)(m:Int)(H:EG M P n N R X ops k0 hr AL (L.setIfInBounds i true) ((t,.int .i64 m)::Γ) w h)(a:cE n ops k0 AL L Γ i t=true:=by kernel_rfl)(hv:∀ w,(execOp (ev Γ) (ak ops i)).run P w=.ok (.value (.int .i64 (IntKind.wrap .i64 m))) w:=by intro _;kernel_rfl)(h0 : -9223372036854775808<=m:=by omega)(h1:m<=9223372036854775807:=by omega):EG M P n N R X ops k0 hr AL L Γ w h :=
 Rg.pure i t _ (iJ a).1 (iJ a).2 (fun w=>by have:=hv w;rw[gK h0 h1] at this;exact this) H
theorem jG (i t:Nat)(m:Int)(j:Nat)(H:EG M P n N R X ops k0 hr AL (L.setIfInBounds i true) ((t,.int .i64 (j:Int))::Γ) w h)(a:cE n ops k0 AL L Γ i t=true:=by kernel_rfl)(hv:∀ w,(execOp (ev Γ) (ak ops i)).run P w=.ok (.value (.int .i64 (IntKind.wrap .i64 m))) w:=by intro _;kernel_rfl)(b:m=j:=by omega)(h1:m<=9223372036854775807:=by omega):EG M P n N R X ops k0 hr AL L Γ w h :=
 Rg.pure i t _ (iJ a).1 (iJ a).2 (fun w=>by have:=hv w;rw[gK oM h1,b] at this;exact this) H
theorem eG (i t:Nat)(H:EG M P n N R X ops k0 hr AL (L.setIfInBounds i true) ((t,undef)::Γ) w h)(a:dY n ops k0 AL L i t=true:=by kernel_rfl)(b:bg ops Γ (ak ops i)=some false:=by kernel_rfl):EG M P n N R X ops k0 hr AL L Γ w h:=Rg.skip i t a b H
theorem eO (i t:Nat)(ps:List (Nat × Nat × Nat))(v:Value)(s:SS w0 h0 w h B Rs F)(H:EG M P n N R X ops k0 hr AL (L.setIfInBounds i true) ((t,v)::Γ) w h)(hM:∀ p∈ps,(av B p.1).b ∉ M.l:=by intro _ _;exact List.not_mem_nil)(a:B4 n ops k0 AL L Γ i t=true:=by kernel_rfl)(c:cC B ps=true:=by kernel_rfl)(d:bS P (execOp (ev Γ) (ak ops i)) (dj B ps)=some (.value v,cc B ps):=by kernel_rfl):EG M P n N R X ops k0 hr AL L Γ w h :=
 Rg.own i t ps v s.st (iH a).1 (iH a).2 hM c d H
theorem eH (i t:Nat)(v:Value){b o:Nat}{cs:List Value}(s:SS w0 h0 w h B Rs F)(d:Seg h b o cs)(H:EG M P n N R X ops k0 hr AL (L.setIfInBounds i true) ((t,v)::Γ) w h)(hM:∀ b∈M.l,h[b]?=some be:=by intro _ hb;cases hb)(a:B4 n ops k0 AL L Γ i t=true:=by kernel_rfl)(e:bS P (execOp (ev Γ) (ak ops i)) cs=some (.value v,kF b o cs.length):=by kernel_rfl):EG M P n N R X ops k0 hr AL L Γ w h :=
 Rg.load i t v (iH a).1 (iH a).2 (fun _ c=>Seg.runM d s.g hM c e) H
theorem wk (i t:Nat)(v:Value){u:Value}{b o:Nat}{cs:List Value}(s:SS w0 h0 w h B Rs F)(d:Seg h b o cs)(e:v=u)(H:EG M P n N R X ops k0 hr AL (L.setIfInBounds i true) ((t,u)::Γ) w h)(hM:∀ b∈M.l,h[b]?=some be:=by intro _ hb;cases hb)(a:B4 n ops k0 AL L Γ i t=true:=by kernel_rfl)(f:bS P (execOp (ev Γ) (ak ops i)) cs=some (.value v,kF b o cs.length):=by kernel_rfl):EG M P n N R X ops k0 hr AL L Γ w h :=
 Rg.load i t u (iH a).1 (iH a).2 (fun _ c=>e▸Seg.runM d s.g hM c f) H
theorem eX (i t:Nat)(A:Z9)(len a sz:Nat)(x:Int)(j:Nat)(d:A=some ⟨aB A,aO A,none⟩)(H:EG M P n N R X ops k0 hr AL (L.setIfInBounds i true) ((t,.pointer (some ⟨aB A,aO A+j*sz,none⟩))::Γ) w h)(c:cE n ops k0 AL L Γ i t=true:=by kernel_rfl)(e:CD P (ev Γ) (ak ops i)=some (.slice A len a,.int .i64 x,sz):=by kernel_rfl)(hk:x=j:=by omega)(b:j<len:=by omega):EG M P n N R X ops k0 hr AL L Γ w h :=
 Rg.pure i t _ (iJ c).1 (iJ c).2 (ik e d hk b) H
theorem eT (i t:Nat)(A:Z9)(len a sz:Nat)(x:Int)(j:Nat)(H:EG M P n N R X ops k0 hr AL (L.setIfInBounds i true) ((t,.slice A j a)::Γ) w h)(c:cE n ops k0 AL L Γ i t=true:=by kernel_rfl)(d:B2 P (ev Γ) (ak ops i)=some (.slice A len a,none,some (.int .i64 x),sz):=by kernel_rfl)(hk:x=j:=by omega)(b:j<=a:=by omega):EG M P n N R X ops k0 hr AL L Γ w h :=
 Rg.pure i t _ (iJ c).1 (iJ c).2 (sK j d hk b) H
theorem eQ {α:Type}(i t j:Nat)(l:List α)(f:α->List Value)(sz:Nat)(d:α)(e:Nat)(v:Value)(s:SS w0 h0 w h B Rs F)(hk:e<l.length)(H:EG M P n N R X ops k0 hr AL (L.setIfInBounds i true) ((t,v)::Γ) w h)(hM:(av B j).b ∉ M.l:=by exact List.not_mem_nil)(a:B4 n ops k0 AL L Γ i t=true:=by kernel_rfl)
  (o:decide (j<B.length)=true:=by kernel_rfl)(hB:(av B j).vs=l.flatMap f:=by kernel_rfl)(hf:∀ x,(f x).length=sz:=by intro _;rfl)
  (c:bS P (execOp (ev Γ) (ak ops i)) (f (l.getD e d))=some (.value v,kF (av B j).b (0+e*sz) (f (l.getD e d)).length):=by kernel_rfl):EG M P n N R X ops k0 hr AL L Γ w h :=
 Rg.ownA i t j l f sz d e v s.st (iH a).1 (iH a).2 hM o hB hf hk c H
theorem eC (i t:Nat){f:FuncId}{args:Array Value}{Φ:World->Hp->Value->Hp->Prop}(s:SS w0 h0 w h B Rs F)(c:∀ w1 h1,SS w0 h0 w1 h1 B Rs F->Calls P f args w1 (Ret w1 h1 (Φ w1 h1)))(H:∀ w1 h1 v w' a,SS w0 h0 w' a B Rs F->Φ w1 h1 v a->EG M P n N R X ops k0 hr AL (L.setIfInBounds i true) ((t,v)::Γ) w' a)(j:EV n ops k0 AL L Γ i t=true:=by kernel_rfl)(hv:∀ w,(execOp (ev Γ) (ak ops i)).run P w=.ok (.enter f args) w:=by intro _;kernel_rfl):EG M P n N R X ops k0 hr AL L Γ w h :=
 Rg.call i t f args (ji j).1 (ji j).2 hv (fun w1 h1 u=>(c w1 h1 (s.step u)).mono fun e w' ⟨v,a,o,d,b⟩=>⟨v,a,o,d.m M.l,H w1 h1 v w' a ((s.step u).step d) b⟩)
theorem eR (i t:Nat)(ty:TypeId)(m:Nat)(cs:List Value)(s:SS w0 h0 w h B Rs F)(H:∀ b w' a,SS w0 h0 w' a B Rs ((fun h=>Seg h b 0 cs)::F)->EG M P n N R X ops k0 hr AL (L.setIfInBounds i true) ((t,.slice (some ⟨b,0,none⟩) m m)::Γ) w' a)(c:EV n ops k0 AL L Γ i t=true:=by kernel_rfl)
  (hv:∀ w,(execOp (ev Γ) (ak ops i)).run P w=.ok (.value (.slice (some ⟨w.heap.size,0,none⟩) m m)) (w.alloc (.cells cs.toArray ty (0,0))):=by intro _;kernel_rfl):EG M P n N R X ops k0 hr AL L Γ w h :=
 Rg.row i t ty m cs (ji c).1 (ji c).2 hv (fun b w' a u d=>H b w' a ((s.step u).a_Seg d))
theorem eY {α:Type}(i t j:Nat)(ty:TypeId)(sz c:Nat)(A:Z9)(l:List α)(f:α->List Value)(x:α)(Z b:Nat)(z:Value)(s:SS w0 h0 w h B Rs F)(sg:∀ h,AllF F h->Seg h b 0 (f x))(S:∀ b,(Value.slice A l.length c).ownBlock=some b->b∈M.l)
  (H:∀ K c' w' I,SS w0 h0 w' I B (Rs.set j ⟨ty,sz,K,c',(l++[x]).length,(l++[x]).flatMap f⟩) F->EG M P n N R X ops k0 hr AL (L.setIfInBounds i true) ((t,.slice K (l++[x]).length c')::Γ) w' I)
  (Q:EV n ops k0 AL L Γ i t=true:=by kernel_rfl)(he:pr P (ev Γ) (ak ops i)=some (.slice A l.length c,.slice (some ⟨b,0,none⟩) 1 1,ty,z,sz,Z):=by kernel_rfl)(U:z.cells.size=sz:=by kernel_rfl)(D:0<sz:=by decide)
  (W:Rs.getD j default=⟨ty,sz,A,c,l.length,l.flatMap f⟩:=by kernel_rfl)(hj:decide (j<Rs.length)=true:=by kernel_rfl)(h1:(f x).all (·.oneCell')=true:=by kernel_rfl)(hl:(f x).length=1*sz:=by kernel_rfl)(hm:l.length+1<=1099511627776:=by omega)(hb:(l.length+1)*Z<=140737488355328:=by omega):EG M P n N R X ops k0 hr AL L Γ w h:=by
 have d:=oT hj;refine Rg.event i t (ji Q).1 (ji Q).2 (fun w1 h1' u=>?_);have J:=s.step u;obtain ⟨x',y,ty',ho,hx,hy,V,hi⟩:=jE he;have r:=J.ro _ (gp d);have C:=eL W d;rw[C] at r
 obtain ⟨v',w',a,ow,o,p⟩:=k6 (P:=P) ho hx hy V hi U D J.st r hl (jU J.g (sg _ J.f)) (fun u V=>(oi.1 h1) u V) hm hb;have Y:=J.grown (j:=j) d (w':=w') (v':=v') (m2:=1) (news:=f x) (by rw[C];exact ow) (by rw[C];exact o) (by rw[C];exact p);rw[C] at Y
 obtain ⟨I,K,c',rfl,e2,O⟩:=Y;have e1:l.length+1=(l++[x]).length:=by simp
 simp only[] at O
 rw[m9,e1] at O
 rw[e1] at a
 exact .inl ⟨_,w',I,a,⟨⟨o.os,o.tape,o.output,o.size,fun c Q hn=>o.block c Q (fun e=>hn (S c e.symm))⟩,e2,O.g⟩,H K c' w' I O⟩
theorem bU (s:SS w0 h0 w h B Rs F)(H:∀ w' a,SS w0 h0 w' a B Rs F->AG M P n N R X ops k0 L Γ w')(b:gI ops [] L=true:=by kernel_rfl):EG M P n N R X ops k0 hr [] L Γ w h:=Rg.fin0 b (fun w' a u=>H w' a (s.step u))
def cT (n:Nat)(ops:Array Oper)(k0:Nat)(L:Array Bool)(Γ:cl)(i t:Nat):Bool:=g6 ops k0 L i && aY Γ (ak ops i) && ((ak ops i).dst == some t) && decide (t<n) && (bg ops Γ (ak ops i) == some true)
def HS (ops:Array Oper)(k0:Nat)(L:Array Bool)(Γ:cl)(i:Nat):Bool:=g6 ops k0 L i && aY Γ (ak ops i) && ((ak ops i).dst == none) && (bg ops Γ (ak ops i) == some true)
theorem iA {i t:Nat}(h:cT n ops k0 L Γ i t=true):(g6 ops k0 L i && aY Γ (ak ops i) && ((ak ops i).dst == some t) && decide (t<n))=true/\bg ops Γ (ak ops i)=some true:=by
 unfold cT at h;rw[i3] at h;exact ⟨h.1,by simpa using h.2⟩
theorem kB {i:Nat}(h:HS ops k0 L Γ i=true):(g6 ops k0 L i && aY Γ (ak ops i) && ((ak ops i).dst == none))=true/\bg ops Γ (ak ops i)=some true:=by
 unfold HS at h;rw[i3] at h;exact ⟨h.1,by simpa using h.2⟩
theorem tV (i t:Nat)(v:Value)(H:AG M P n N R X ops k0 (L.setIfInBounds i true) ((t,v)::Γ) w)(a:cT n ops k0 L Γ i t=true:=by kernel_rfl)(hv:(execOp (ev Γ) (ak ops i)).run P w=.ok (.value v) w:=by kernel_rfl):AG M P n N R X ops k0 L Γ w:=T.val i t v w (iA a).1 (iA a).2 hv H
theorem tP (i j o:Nat)(cs:List Value)(s:SS w0 h0 w h B Rs F)(H:∀ w',SS w0 h0 w' h (gl B j o cs) Rs F->AG M P n N R X ops k0 (L.setIfInBounds i true) Γ w')(c:HS ops k0 L Γ i=true:=by kernel_rfl)
  (a:(decide (j<B.length) && decide (o+cs.length<=(av B j).vs.length))=true:=by kernel_rfl)(f:dE P (execOp (ev Γ) (ak ops i))=some (.skip,lf (av B j).b o cs):=by kernel_rfl)(hz:∀ K bs,M.z=some (K,bs)->K<=(av B j).b\/(av B j).b∈bs:=by intro _ _ e;cases e):AG M P n N R X ops k0 L Γ w :=
 T.put i j o cs s.st s.g0 (kB c).1 (kB c).2 a f (fun w' p d=>H w' (s.put0 (oT (i3 _ _▸a).1) p d (mM (oT (i3 _ _▸a).1)))) hz
theorem tW {α:Type}(i j:Nat)(l:List α)(f:α->List Value)(sz e:Nat)(x:α)(s:SS w0 h0 w h B Rs F)(hk:e<l.length)(H:∀ w',SS w0 h0 w' h (gJ B j ((l.set e x).flatMap f)) Rs F->AG M P n N R X ops k0 (L.setIfInBounds i true) Γ w')(c:HS ops k0 L Γ i=true:=by kernel_rfl)
  (a:decide (j<B.length)=true:=by kernel_rfl)(hB:(av B j).vs=l.flatMap f:=by kernel_rfl)(hf:∀ x,(f x).length=sz:=by intro _;rfl)
  (o:dE P (execOp (ev Γ) (ak ops i))=some (.skip,lf (av B j).b (0+e*sz) (f x)):=by kernel_rfl)(hz:∀ K bs,M.z=some (K,bs)->K<=(av B j).b\/(av B j).b∈bs:=by intro _ _ e;cases e):AG M P n N R X ops k0 L Γ w :=
 T.putA i j l f sz e x s.st s.g0 (kB c).1 (kB c).2 a hB hf hk o (fun w' p d=>H w' (s.put0 (oT a) p d (j9 (oT a)))) hz
theorem tN {y:Code}{N' R':Po}{X':Nat->Po}(H:CG P n N' R' X' y Γ w)(b:(Region.ready .any ops L).isEmpty=true:=by kernel_rfl):AG M P n (fun a w=>y.wp P (iB N' R' X') a w) R X ops k0 L Γ w:=T.next b H
theorem qy {id:Nat}{b:Array Oper}{y:Code}{N' R':Po}{X':Nat->Po}(H:LG P n (fun a w=>y.wp P (iB N' R' X') a w) R' X' b 0 Γ w)(c:(Region.ready .any ops L).isEmpty=true:=by kernel_rfl):AG M P n (fun a w=>(Code.seq (.region id b false) y).wp P (iB N' R' X') a w) R X ops k0 L Γ w:=tN (ax H) c
theorem tD (H:∀ a,Kn n a Γ->N a w)(b:(Region.ready .any ops L).isEmpty=true:=by kernel_rfl):AG M P n N R X ops k0 L Γ w:=T.done b H
theorem cR {id:Nat}{d:Bool}(k0:Nat)(AL:List Al)(c:P.follows .mixedOrders=true)(s:SS w0 h0 w h B Rs F)(b:∀ x∈AL,AlOk P ops k0 x)(H:EG ⟨[],none⟩ P n N R X ops k0 h AL (s3 ops.size false) Γ w h)(a:kU ops=true:=by kernel_rfl):CG P n N R X (.region id ops d) Γ w :=
 CG.region ⟨[],none⟩ k0 AL c a s.g b (fun _ e=>by cases e) H
end drawn
theorem au {M:Ms}{P:Program}{n:Nat}{N R:Po}{X:Nat->Po}{ops:Array Oper}{k0:Nat}{hr:Hp}{AL:List Al}{L:Array Bool}{Γ:cl}{w w0:World}{h h0:Hp}{B:List Bx}{Rs:List Rw}{F:List (Hp->Prop)}(i t:Nat){f:FuncId}{args:Array Value}{x:Value}(s:SS w0 h0 w h B Rs F)(c:∀ w1 h1,SS w0 h0 w1 h1 B Rs F->Calls P f args w1 (Ret w1 h1 fun v _=>v=x))(H:∀ w1 h1,SS w0 h0 w1 h1 B Rs F->EG M P n N R X ops k0 hr AL (L.setIfInBounds i true) ((t,x)::Γ) w1 h1)(a:EV n ops k0 AL L Γ i t=true:=by kernel_rfl)(hv:∀ w,(execOp (ev Γ) (ak ops i)).run P w=.ok (.enter f args) w:=by intro _;kernel_rfl):EG M P n N R X ops k0 hr AL L Γ w h:=eC i t s c (fun _ _ v w1 h1 b e=>by subst e;exact H w1 h1 b) a hv
theorem CM {w:World}{h:Hp}(g:G w h){b:Nat}{ty:TypeId}{vs:List Value}(f:h[b]?=some be)(o:Own w b ty vs):∃ d,G w d/\Gw h d/\Seg d b 0 vs/\∀ c,c≠b->d[c]?=h[c]?:=by
 have a:=aR f;refine ⟨h.setIfInBounds b (.cells vs.toArray ty (0,0)),⟨by simp;exact g.size,fun c=>?_⟩,⟨by simp,fun c j=>?_⟩,fun i v hv=>?_,fun c j=>i2 (Ne.symm j)⟩
 ·by_cases e:b=c
  ·subst e;left;rw[As a];exact o.symm
  ·rw[i2 e];exact g.blk c
 ·by_cases e:b=c
  ·subst e;exact .inr f
  ·left;rw[i2 e]
 ·unfold dP
  rw[As a]
  simpa using hv
theorem rZ {w w':World}{h i d:Hp}{b:Nat}(l:h[b]?=some be)(o:∀ c,c≠b->i[c]?=h[c]?)(f:i.size=h.size)(u:Up w i w' d):∃ j,Up w h w' j:=by
 have p:=aR l;have a:b<d.size:=e4 oM u.gr.size;refine ⟨d.setIfInBounds b be,u.ext,⟨by simp;rw[<-f];exact u.gr.size,fun c x=>?_⟩,⟨by simp;exact u.g.size,fun c=>?_⟩⟩
 ·by_cases e:b=c
  ·subst e;rw[As a,l]
  ·rw[i2 e,u.gr.blk c oM,o c (Ne.symm e)]
 ·by_cases e:b=c
  ·subst e;right;rw[As a]
  ·rw[i2 e];exact u.g.blk c
theorem G.sz {w:World}{h a:Hp}(g:G w h)(b:G w a):a.size=h.size:=by rw[<-g.size,<-b.size]
section lent
variable {M:Ms}{P:Program}{n:Nat}{N R:Po}{X:Nat->Po}{ops:Array Oper}{k k0:Nat}{hr:Hp}{AL:List Al}{L:Array Bool}{Γ:cl}{w:World}{h:Hp}{w0:World}{h0:Hp}{B:List Bx}{Rs:List Rw}{F:List (Hp->Prop)}
theorem SS.lends (s:SS w0 h0 w h B Rs F){j:Nat}(y:j<B.length){f:FuncId}{args:Array Value}{Φ:Value->Prop}(c:∀ a,G w a->AllF F a->Seg a (av B j).b 0 (av B j).vs->Calls P f args w (Ret w a (fun v _=>Φ v))):Calls P f args w (Ret w h (fun v _=>Φ v)):=by
 have l:=bu y;obtain ⟨a,g,gw,p,o⟩:=CM s.g (s.st.jk _ l) (s.st.own _ l);refine (c a g (s.f.gw s.mo gw) p).mono ?_;rintro e w' ⟨v,C,x,u,d⟩;obtain ⟨i,z⟩:=rZ (s.st.jk _ l) o (s.g.sz g) u;exact ⟨v,i,x,z,d⟩
theorem Kv (t j:Nat){f:FuncId}{args:Array Value}{Φ:Value->Prop}(s:SS w0 h0 w h B Rs F)(c:∀ hp,G w hp->AllF F hp->Seg hp (av B j).b 0 (av B j).vs->Calls P f args w (Ret w hp (fun v _=>Φ v)))(H:∀ v w' h',SS w0 h0 w' h' B Rs F->Φ v->LG P n N R X ops (k+1) ((t,v)::Γ) w')(a:decide (j<B.length)=true:=by kernel_rfl)(d:cL ops Γ k t n=true:=by kernel_rfl)(hr:(execOp (ev Γ) (ak ops k)).run P w=.ok (.enter f args) w:=by kernel_rfl):LG P n N R X ops k Γ w :=
 lC t s (s.lends (oT a) c) H d hr
end lent
section unroll
variable {P:Program}{n:Nat}{N R:Po}{X:Nat->Po}{Γ:cl}{w:World}
def KT (P:Program)(N R:Po)(X:Nat->Po)(c:Code)(a:Act)(w:World):Prop:=∀ (b:Frame) (k:List Item) (cs:List Frame),∃ e a' w',iB N R X e a' w'/\Arrives P (lone (b.at a (.code c::.inLoop c::k)) cs w) b k cs e a' w'
def CL (P:Program)(n:Nat)(N R:Po)(X:Nat->Po)(c:Code)(Γ:cl)(w:World):Prop:=∀ a,Kn n a Γ->KT P N R X c a w
theorem cU {c:Code}(H:CL P n N R X c Γ w):CG P n N R X (.loop c) Γ w:=fun a f b k cs=>by
 obtain ⟨e,i,w',h,d⟩:=H a f b k cs;exact ⟨e,i,w',h,.of_steps (.one step_loop) d⟩
theorem cN {c:Code}(H:CG P n (KT P N R X c) R X c Γ w):CL P n N R X c Γ w:=fun a z b k cs=>by
  obtain ⟨e,h,i,o,f⟩:=H a z b (.inLoop c::k) cs;cases e with
  | normal =>
    obtain ⟨p,y,u,j,d⟩:=o b k cs;exact ⟨p,y,u,j,.of_steps (Steps.trans f (.one step_inLoop)) d⟩
  | exit id=>exact ⟨.exit id,h,i,o,.pass (x:=.inLoop c) rfl (fun _ _=>.inl (by simp)) f⟩
  | goto l=>exact o.elim
  | ret=>exact ⟨.ret,h,i,o,.pass (x:=.inLoop c) rfl (fun _ _=>.inl (by simp)) f⟩
  | panic ch=>exact o.elim
  | outgrown=>exact o.elim
theorem CL.to {c:Code}(Γ':cl)(H:CL P n N R X c Γ' w)(e:j5 Γ (Γ'.map (·.1))=Γ':=by kernel_rfl)(b:gk Γ'=gk Γ:=by kernel_rfl):CL P n N R X c Γ w:=fun a d=>H a (d.to Γ' e b)
end unroll
theorem mixed:Tryz.prog.follows .mixedOrders=true:=by kernel_rfl
theorem rb {s:Result Next}{e b:Bool}{w:World}(h:s=.ok (.value (.bool e)) w)(a:e=b):s=.ok (.value (.bool b)) w:=a▸h
theorem aK {s:Result Next}{k:IntKind}{n m:Int}{w:World}(h:s=.ok (.value (.int k n)) w)(e:n=m):s=.ok (.value (.int k m)) w:=e▸h
theorem rU {s:Result Next}{m:Int}{w:World}(x:Int)(h:s=.ok (.value (.int .u64 (IntKind.wrap .u64 x))) w)(e:IntKind.wrap .u64 x=m):s=.ok (.value (.int .u64 m)) w:=aK (n:=IntKind.wrap .u64 x) h e
theorem rS {s:Result Next}{m:Int}{w:World}(x:Int)(h:s=.ok (.value (.int .i64 (IntKind.wrap .i64 x))) w)(e:IntKind.wrap .i64 x=m):s=.ok (.value (.int .i64 m)) w:=aK (n:=IntKind.wrap .i64 x) h e
theorem rT {s:Result Next}{m:Int}{w:World}(x:Int)(h:s=.ok (.value (.int .u32 (IntKind.wrap .u32 x))) w)(e:IntKind.wrap .u32 x=m):s=.ok (.value (.int .u32 m)) w:=aK (n:=IntKind.wrap .u32 x) h e
theorem C9 (n:Nat):IntKind.wrap .u8 (n:Int)=((n%256:Nat):Int):=by rw[IntKind.wrap_u8];omega
theorem gW (n:Nat):IntKind.wrap .u32 (n:Int)=((n%4294967296:Nat):Int):=by rw[IntKind.wrap_u32];omega
theorem BG (n:Nat):IntKind.wrap .u64 (n:Int)=((n%18446744073709551616:Nat):Int):=by rw[IntKind.wrap_u64];omega
theorem oU {n:Int}(h0:0<=n)(h:n<4294967296):IntKind.wrap .u32 n=n:=by rw[IntKind.wrap_u32];omega
theorem bc {n:Int}(h0:0<=n)(h:n<18446744073709551616):IntKind.wrap .u64 n=n:=by rw[IntKind.wrap_u64];omega
theorem pd {n:Int}(h0 : -9223372036854775808<=n)(h:n<9223372036854775808):IntKind.wrap .i64 n=n:=by rw[IntKind.wrap_i64];omega
theorem Ik {n:Nat}(h:n<4294967296):IntKind.wrap .u32 (n:Int)=(n:Int):=by rw[IntKind.wrap_u32];omega
theorem IY {n:Nat}(h:n<18446744073709551616):IntKind.wrap .u64 (n:Int)=(n:Int):=by rw[IntKind.wrap_u64];omega
theorem JD {n:Nat}(h:n<9223372036854775808):IntKind.wrap .i64 (n:Int)=(n:Int):=by rw[IntKind.wrap_i64];omega
theorem ei (a b:Nat):Int.fdiv (a:Int) (b:Int)=((a/b:Nat):Int):=by rw[D2 _ oM];simp
theorem un (a b:Nat):Ft (a:Int) (b:Int)=((a/b:Nat):Int):=rfl
theorem dq (a b:Nat):Int.tmod (a:Int) (b:Int)=((a%b:Nat):Int):=rfl
theorem kg (a b:Nat)(h:a<18446744073709551616):IntKind.wrap .u64 (Ft (a:Int) (b:Int))=((a/b:Nat):Int):=by rw[un];exact IY (Ga (Gb _ _) h)
theorem dG (a b:Nat)(h:a<9223372036854775808):IntKind.wrap .i64 (Ft (a:Int) (b:Int))=((a/b:Nat):Int):=by rw[un];exact JD (Ga (Gb _ _) h)
section div
variable {P:Program}{Γ:cl}{o:Oper}
theorem dB {t u:TypeId}{x y:Operand}{k:IntKind}{a b:Int}(e:o.op=.binOp .quo t x y u)(d:ev Γ x=.int k a)(c:ev Γ y=.int k b)(f:b≠0)(w:World) :
  (execOp (ev Γ) o).run P w=.ok (.value (.int k (k.wrap (a.tdiv b)))) w:=by
 unfold execOp;simp only[e];rw[d,c]
 simp[binOp,eqGuard,Op.intDiv,f,Result.andThen]
theorem fj {t u:TypeId}{x y:Operand}{k:IntKind}{a b:Int}(e:o.op=.binOp .rem t x y u)(d:ev Γ x=.int k a)(c:ev Γ y=.int k b)(f:b≠0)(w:World) :
  (execOp (ev Γ) o).run P w=.ok (.value (.int k (a.tmod b))) w:=by
 unfold execOp;simp only[e];rw[d,c]
 simp[binOp,eqGuard,Op.intDiv,f,Result.andThen]
theorem Jm {t u:TypeId}{x y:Operand}{k ky:IntKind}{a:Int}{n:Nat}(d:o.op=.binOp .shl t x y u)(c:ev Γ x=.int k a)(b:ev Γ y=.int ky (n:Int))(hn:n<=k.bits)(w:World) :
  (execOp (ev Γ) o).run P w=.ok (.value (.int k (k.wrap (a*2^n)))) w:=by
 unfold execOp;simp only[d];rw[c,b]
 have e:min n k.bits=n:=by omega
 have hz:¬((n:Int)<0):=by omega
 simp[binOp,eqGuard,Op.shift,Result.andThen,e,hz]
theorem IV {t u:TypeId}{x y:Operand}{k ky:IntKind}{a:Int}{n:Nat}(d:o.op=.binOp .shr t x y u)(c:ev Γ x=.int k a)(b:ev Γ y=.int ky (n:Int))(hn:n<=k.bits)(w:World) :
  (execOp (ev Γ) o).run P w=.ok (.value (.int k (a/2^n))) w:=by
 unfold execOp;simp only[d];rw[c,b]
 have f:min n k.bits=n:=by omega
 have hz:¬((n:Int)<0):=by omega
 have e:(0:Int)<=2^n:=Gx kD
 simp[binOp,eqGuard,Op.shift,Result.andThen,f,hz,D2 _ e]
theorem iw {t u:TypeId}{x y:Operand}{a b:Nat}(f:o.op=.binOp .or t x y u)(d:ev Γ x=.int .u64 (a:Int))(c:ev Γ y=.int .u64 (b:Int))(ha:a<18446744073709551616)(h:b<18446744073709551616)(w:World) :
  (execOp (ev Γ) o).run P w=.ok (.value (.int .u64 ((a ||| b:Nat):Int))) w:=by
 unfold execOp;simp only[f];rw[d,c]
 have e:bits .or .u64 (a:Int) (b:Int)=((a ||| b:Nat):Int):=by
  unfold bits
  have h1:(BitVec.ofInt 64 (a:Int) ||| BitVec.ofInt 64 (b:Int)).toNat=a ||| b:=by
   rw[BitVec.toNat_or]
   congr 1<;>(simp[BitVec.toNat_ofInt];omega)
  show IntKind.wrap .u64 (((BitVec.ofInt 64 (a:Int) ||| BitVec.ofInt 64 (b:Int)).toNat:Nat):Int)=_
  rw[h1];have:=G1 (n:=64) ha h;exact bc oM oM
 simp[binOp,eqGuard,Result.andThen,intBits_or,e]
theorem Gm {t u:TypeId}{x y:Operand}{a b:Nat}(f:o.op=.binOp .or t x y u)(d:ev Γ x=.int .u32 (a:Int))(c:ev Γ y=.int .u32 (b:Int))(ha:a<4294967296)(h:b<4294967296)(w:World) :
  (execOp (ev Γ) o).run P w=.ok (.value (.int .u32 ((a ||| b:Nat):Int))) w:=by
 unfold execOp;simp only[f];rw[d,c]
 have e:bits .or .u32 (a:Int) (b:Int)=((a ||| b:Nat):Int):=by
  unfold bits
  have h1:(BitVec.ofInt 32 (a:Int) ||| BitVec.ofInt 32 (b:Int)).toNat=a ||| b:=by
   rw[BitVec.toNat_or]
   congr 1<;>(simp[BitVec.toNat_ofInt];omega)
  show IntKind.wrap .u32 (((BitVec.ofInt 32 (a:Int) ||| BitVec.ofInt 32 (b:Int)).toNat:Nat):Int)=_
  rw[h1];have:=G1 (n:=32) ha h;exact oU oM oM
 simp[binOp,eqGuard,Result.andThen,intBits_or,e]
end div
def lo (n:Nat):Int:=((n%18446744073709551616:Nat):Int)
def wb:Nat->Nat->List UInt8
  | 0,_=>[]
  | f+1,m=>if m=0 then [] else (ov 8).map (fun k=>UInt8.ofNat (m/256^k))++wb f (m/18446744073709551616)
def hi (n:Nat):ByteArray:=⟨(wb n (n/18446744073709551616)).toArray⟩
abbrev uX (r k:Rat)(s b t:Int)(d:Nat):Value:=.agg #[.bool (af r.num),uV (lo (ab r.num)),.string (hi (ab r.num)),uV (lo (qd r)),.string (hi (qd r)),.bool (af k.num),uV (lo (ab k.num)),.string (hi (ab k.num)),uV (lo (qd k)),.string (hi (qd k)),iV s,iV b,iV t,mV d]
abbrev uC (r k:Rat)(s b t:Int)(d:Nat):List Value:=[.bool (af r.num),uV (lo (ab r.num)),.string (hi (ab r.num)),uV (lo (qd r)),.string (hi (qd r)),.bool (af k.num),uV (lo (ab k.num)),.string (hi (ab k.num)),uV (lo (qd k)),.string (hi (qd k)),iV s,iV b,iV t,mV d]
abbrev qX (q:Rat):Value:=.agg #[.bool (af q.num),uV (lo (ab q.num)),.string (hi (ab q.num)),uV (lo (qd q)),.string (hi (qd q))]
abbrev qC (q:Rat):List Value:=[.bool (af q.num),uV (lo (ab q.num)),.string (hi (ab q.num)),uV (lo (qd q)),.string (hi (qd q))]
abbrev qY (q:Rat)(A:Z9)(m c:Nat):Value:=.agg #[.bool (af q.num),uV (lo (ab q.num)),.string (hi (ab q.num)),uV (lo (qd q)),.string (hi (qd q)),.slice A m c]
abbrev qZ (q:Rat)(A:Z9)(m c:Nat):List Value:=[.bool (af q.num),uV (lo (ab q.num)),.string (hi (ab q.num)),uV (lo (qd q)),.string (hi (qd q)),.slice A m c]
abbrev wX (b:Value)(m:Nat):Value:=.agg #[b,uV (lo m),.string (hi m)]
abbrev wC (b:Value)(m:Nat):List Value:=[b,uV (lo m),.string (hi m)]
def nc (n:Nat):List Value:=[.int .u64 (lo n),.string (hi n)]
def nv (n:Nat):Value:=.agg #[.int .u64 (lo n),.string (hi n)]
def ic (z:Int):List Value:=[.bool (af z),.int .u64 (lo (ab z)),.string (hi (ab z))]
def iv (z:Int):Value:=.agg #[.bool (af z),.int .u64 (lo (ab z)),.string (hi (ab z))]
def qc (q:Rat):List Value:=[.bool (af q.num),.int .u64 (lo (ab q.num)),.string (hi (ab q.num)),.int .u64 (lo (qd q)),.string (hi (qd q))]
abbrev Sq (A:Z9)(l:List Rat):Hp->Prop:=fun h_=>SlO 5 qc 0 h_ A l
def qv (q:Rat):Value:=.agg #[.bool (af q.num),.int .u64 (lo (ab q.num)),.string (hi (ab q.num)),.int .u64 (lo (qd q)),.string (hi (qd q))]
theorem mS {n:Nat}(h:n<18446744073709551616):lo n=(n:Int):=by unfold lo;rw[z1 h]
theorem ll {n:Nat}(h:n<18446744073709551616):hi n=⟨#[]⟩:=by
 unfold hi;rw[G3 h];cases n<;>rfl
def dR:List Nat->Nat
  | []=>0
  | x::l=>x+4294967296*dR l
def qB:Nat->Nat->List Nat
  | 0,_=>[]
  | f+1,n=>if n=0 then [] else n%4294967296::qB f (n/4294967296)
def lim (n:Nat):List Nat:=qB n n
abbrev gE (q:Rat)(A:Z9)(c:Nat)(D:Z9)(d:Nat):List Value:=[.bool (af q.num),.slice A (lim (ab q.num)).length c,.slice D (lim q.den).length d]
abbrev rG (q:Rat)(A:Z9)(c:Nat)(D:Z9)(d:Nat):Value:=.agg #[.bool (af q.num),.slice A (lim (ab q.num)).length c,.slice D (lim q.den).length d]
theorem tH:∀ (f g n:Nat),n<=f->n<=g->qB f n=qB g n
  | 0,g,n,hf,hg=>by
    have:n=0:=by omega
    subst this;cases g<;>rfl
  | f+1,0,n,hf,hg=>by
    have:n=0:=by omega
    subst this
    rfl
  | f+1,g+1,n,hf,hg=>by
    unfold qB
    split
    . rfl
    . rw[tH f g (n/4294967296) oM oM]
theorem f0:lim 0=[]:=rfl
theorem fl {n:Nat}(h:0<n):lim n=n%4294967296::lim (n/4294967296):=by
 unfold lim
 obtain ⟨m,rfl⟩:∃ m,n=m+1:=⟨n-1,by omega⟩;rw[qB,if_neg oM];rw[tH m _ _ oM (eb _)]
theorem Cv {n:Nat}(h0:0<n)(h:n<4294967296):lim n=[n]:=by
 rw[fl h0,z1 h,G3 h,f0]
theorem f5 (n:Nat):dR (lim n)=n:=by
  induction n using g4 with
  | _ n ih =>
    rcases Au n with h|h
    . subst h;rfl
    . rw[fl h,dR,ih (n/4294967296) oM]
      omega
theorem kb (n:Nat):∀ x∈lim n,x<4294967296:=by
  induction n using g4 with
  | _ n ih =>
    rcases Au n with h|h
    . subst h;intro x a;cases a
    . rw[fl h]
      intro x a
      rcases g2.1 a with rfl|a
      . omega
      . exact ih _ oM x a
theorem bT {n:Nat}:0<(lim n).length↔0<n:=by
 rcases Au n with h|h
 ·subst h;simp[f0]
 ·rw[fl h];simp[h]
theorem sd {n:Nat}:lim n=[]↔n=0:=by
 constructor
 ·intro h;rcases Au n with h0|h0;exact h0;rw[fl h0] at h;cases h
 ·rintro rfl;rfl
theorem ej {n k:Nat}(h:n<4294967296^k):(lim n).length<=k:=by
  induction k generalizing n with
  | zero => have:n=0:=by simpa using h
            subst this;simp[f0]
  | succ k ih =>
    rcases Au n with h0|h0
    . subst h0;simp[f0]
    . rw[fl h0]
      have:n/4294967296<4294967296^k:=Hi (by rw[Hj,HA] at h;exact h);have:=ih this
      simp
      omega
def tl (l:List Nat):Nat->Nat
  | 0=>0
  | n+1=>if l.getD n 0=0 then tl l n else n+1
theorem iq (l:List Nat):∀ n,tl l n<=n
 | 0=>eb _
 | n+1=>by unfold tl;split;exact Nat.le_succ_of_le (iq l n);exact eb _
theorem nr {l:List Nat}{n:Nat}(h:n=0\/l.getD (n-1) 0≠0):tl l n=n:=by
 cases n with
 | zero=>rfl
 | succ n=>unfold tl;rw[if_neg];rcases h with h|h;omega;exact h
theorem kI (a b:List Nat):dR (a++b)=dR a+4294967296^a.length*dR b:=by
  induction a with
  | nil=>simp[dR]
  | cons x a ih =>
    simp only[H1,dR,ih,tq,Hj,Lr]
    rw[<-Ls,HA (4294967296^a.length) 4294967296]
    omega
theorem kY {l:List Nat}(h:∀ x∈l,x<4294967296):dR l<4294967296^l.length:=by
  induction l with
  | nil=>simp[dR]
  | cons x l ih =>
    have h1:=h x (by simp);have b:=ih (fun y a=>h y (by simp[a]))
    simp only[dR,tq,Hj]
    omega
theorem jK (x:Nat)(l:List Nat):∀ n,tl l n=0->tl (x::l) (n+1)=if x=0 then 0 else 1
  | 0,_=>by simp[tl]
  | n + 1,h=>by
    unfold tl at h
    split at h
    . rename_i h0
      show tl (x::l) (n+2)=_
      unfold tl
      rw[if_pos (by simpa using h0)];exact jK x l n h
    . omega
theorem li (l:List Nat)(n:Nat):tl l (n+1)=if l.getD n 0=0 then tl l n else n+1:=rfl
theorem kH (x:Nat)(l:List Nat):∀ n,0<tl l n->tl (x::l) (n+1)=tl l n+1
  | 0,h=>by simp[tl] at h
  | n + 1,h=>by
    rw[li l n] at h ⊢
    rw[li (x::l) (n+1),yY]
    by_cases h0:l.getD n 0=0
    . rw[if_pos h0] at h ⊢
      rw[if_pos h0];exact kH x l n h
    . rw[if_neg h0,if_neg h0]
theorem oa (l:List Nat):dR l=0->tl l l.length=0:=by
  intro h
  have key:∀ n,n<=l.length->tl l n=0:=by
    have hz:∀ k,l.getD k 0=0:=by
      induction l with
      | nil=>intro k;simp
      | cons x l ih =>
        simp only[dR] at h
        intro k;cases k with
        | zero=>simp;omega
        | succ k=>simpa using ih oM k
    intro n
    induction n with
    | zero=>intro _;rfl
    | succ n ih=>intro hn;unfold tl;rw[if_pos (hz n)];exact ih oM
  exact key _ (eb _)
theorem AU {l:List Nat}(h:∀ x∈l,x<4294967296):lim (dR l)=l.take (tl l l.length):=by
  induction l with
  | nil=>rfl
  | cons x l ih =>
    have h1:=h x (by simp);have a:=ih (fun y c=>h y (by simp[c]))
    rcases Au (dR (x::l)) with h0|h0
    . rw[h0,f0,oa _ h0];rfl
    . rw[fl h0]
      have e1:dR (x::l)%4294967296=x:=by simp only[dR];omega
      have e2:dR (x::l)/4294967296=dR l:=by simp only[dR];omega
      rw[e1,e2,a]
      rcases Au (tl l l.length) with ht|ht
      . have b:x≠0:=by
          intro b;have:lim (dR l)=[]:=by rw[a,ht];rfl
          have:=sd.1 this
          simp only[dR] at h0
          omega
        rw[tq,jK x l _ ht,if_neg b,ht];rfl
      . rw[tq,kH x l _ ht];rfl
theorem lp (n:Nat)(h:0<n):(lim n).getD ((lim n).length-1) 0≠0:=by
  induction n using g4 with
  | _ n ih =>
    rw[fl h]
    rcases Au (n/4294967296) with h0|h0
    . rw[h0,f0];simp;omega
    . have:=ih (n/4294967296) oM h0
      have a:=bT.2 h0;rw[tq,show (lim (n/4294967296)).length+1-1=((lim (n/4294967296)).length-1)+1 by omega,yY];exact this
theorem mm {l:List Nat}{k:Nat}(h:k<l.length):dR (l.take (k+1))=dR (l.take k)+4294967296^k*l.getD k 0:=by
 have e:l.take (k+1)=l.take k++[l.getD k 0]:=by
  rw[Lt];simp[h]
 rw[e,kI,Lu,Lv oM]
 show dR (l.take k)+4294967296^k*(l.getD k 0+4294967296*0)=_
 rw[Lw,wj]
theorem vT {l:List Nat}{k:Nat}(h:k<l.length):dR (l.drop k)=l.getD k 0+4294967296*dR (l.drop (k+1)):=by
 rw[Lx h]
 simp[dR,h]
def nb (n:Nat):Nat:=if n=0 then 0 else Nat.log2 n+1
theorem Ds:nb 0=0:=rfl
theorem cB {n:Nat}(h:0<n):2^(nb n-1)<=n/\n<2^nb n/\0<nb n:=by
 unfold nb
 rw[if_neg oM];have:=(Ly (n:=n) (k:=n.log2) oM).1 rfl;exact ⟨this.1,this.2,by omega⟩
theorem kA {n k:Nat}(h1:2^k<=n)(a:n<2^(k+1)):nb n=k+1:=by
 have b:0<2^k:=Lz k
 unfold nb
 rw[if_neg oM,(Ly oM).2 ⟨h1,a⟩]
theorem Io (n:Nat):n<2^nb n:=by
 rcases Au n with h|h
 ·subst h;simp[nb]
 ·exact (cB h).2.1
theorem kL {n k:Nat}(h:n<2^k):nb n<=k:=by
 rcases Au n with h0|h0
 ·subst h0;simp[nb]
 ·have:=cB h0
  rcases dS k (nb n) with hl|hl
  ·have:2^k<=2^(nb n-1):=LA oM oM
   omega
  ·exact hl
theorem Cg {n:Nat}(h:0<n):nb n=nb (n/2)+1:=by
 rcases dS n 2 with h2|h2
 ·have:n=1:=by omega
  subst this;decide
 ·obtain ⟨c,a,b⟩:=cB (n:=n/2) oM
  apply kA
  ·have:2^nb (n/2)=2*2^(nb (n/2)-1):=by rw[<-LB,show (nb (n/2)-1).succ=nb (n/2) by omega]
   omega
  ·rw[Hj];omega
theorem xf {lo wm k:Nat}(d:lo<2^k)(b:0<wm):nb (lo+2^k*wm)=k+nb wm:=by
 obtain ⟨c,a,e⟩:=cB b;rw[show k+nb wm=(k+(nb wm-1))+1 by omega]
 apply kA
 ·rw[LC]
  have:=LD (2^k) c
  omega
 ·rw[show k+(nb wm-1)+1=k+nb wm by omega,LC]
  have:=LD (2^k) (show wm+1<=2^nb wm from a);rw[Nat.mul_succ] at this
  omega
theorem At {a:Nat}(h:0<a):nb a=32*((lim a).length-1)+nb ((lim a).getD ((lim a).length-1) 0):=by
 have f:=bT.2 h;have e:=mm (l:=lim a) (k:=(lim a).length-1) oM;rw[show (lim a).length-1+1=(lim a).length by omega,yz,f5] at e
 have b:=kY (l:=(lim a).take ((lim a).length-1)) (fun x c=>kb a x (LF c));rw[Lu,Lv oM] at b
 have e2:(4294967296:Nat)^((lim a).length-1)=2^(32*((lim a).length-1)):=by rw[LH]
 rw[e2] at e b
 have d:=lp a h;have:=xf b (Nat.pos_of_ne_zero d);rw[<-e] at this
 exact this
def fy (n:Nat):Nat->List Nat
  | 0=>[]
  | m+1=>n/256^m%256::fy n m
theorem jX (n m:Nat):(fy n m).length=m:=by induction m with|zero=>rfl|succ m ih=>simp[fy,ih]
theorem jc (n:Nat):∀ (m k:Nat),k<m->(fy n m).getD k 0=n/256^(m-1-k)%256
  | 0,k,h=>by omega
  | m+1,0,h=>by simp[fy]
  | m+1,k+1,h=>by
    rw[fy,yY,jc n m k oM]
    congr 3
    omega
theorem kE (n m k:Nat):(fy n m).getD k 0<256:=by
 rcases dS k m with h|h
 ·rw[jc n m k h];exact z2 _ oM
 ·simp[s9 (show (fy n m).length<=k by rw[jX];exact h)]
theorem AC (n i:Nat):n%256^(i+1)=n%256^i+256^i*(n/256^i%256):=by
 rw[Hj,Nat.mod_mul]
theorem td (a:Nat):nb a<=32*(lim a).length:=by
 apply kL
 have:=kY (kb a);rw[f5] at this
 rw[LH];exact this
theorem Ac (a k:Nat):(lim a).getD (k/4) 0/2^(8*(k%4))%256=a/256^k%256:=by
  have d:(lim a).getD (k/4) 0=a/4294967296^(k/4)%4294967296:=by
    rcases dS (k/4) (lim a).length with h|h
    . have e:=kI ((lim a).take (k/4)) ((lim a).drop (k/4))
      rw[LI,f5,Lu,Lv oM] at e
      have b:=kY (l:=(lim a).take (k/4)) (fun x c=>kb a x (LF c));rw[Lu,Lv oM] at b
      have f:=vT h
      have c:(lim a).getD (k/4) 0<4294967296:=by
        have:=kb a ((lim a)[k/4]) (gp h);simpa [h] using this
      have h1:(dR ((lim a).take (k/4))+4294967296^(k/4)*dR ((lim a).drop (k/4)))/4294967296^(k/4)=dR ((lim a).drop (k/4)):=by
        rw[LJ _ _ (LK oM),G3 b,y8]
      rw[<-e] at h1
      rw[h1,f]
      omega
    . have:a<4294967296^(k/4):=by
        have h1:=kY (kb a);rw[f5] at h1
        exact e4 h1 (LA oM h)
      rw[G3 this]
      simp[s9 h]
  rw[d]
  have e1:(256:Nat)^k=4294967296^(k/4)*2^(8*(k%4)):=by
    have:k=4*(k/4)+k%4:=by omega
    conv=>lhs;rw[this,LC,LH]
    rw[LH 2 8]
  rw[e1,<-LL]
  generalize a/4294967296^(k/4)=y
  have:k%4=0\/k%4=1\/k%4=2\/k%4=3:=by omega
  rcases this with h|h|h|h<;>rw[h]<;>omega
theorem hC {l:List Nat}{m k x:Nat}{f:Nat->Nat}(d:l.length=m)(hk:k<m)(hv:∀ j,j<k->l.getD (m-1-j) 0=f j)(b:x=f k:=by rfl):∀ j,j<k+1->(l.set (m-1-k) x).getD (m-1-j) 0=f j:=by
 intro j c
 by_cases e:j=k
 ·subst e
  have:m-1-j<l.length:=by omega
  simp[this,b]
 ·have a:m-1-k≠m-1-j:=by omega
  have:=hv j oM
  simp only[LM] at this ⊢
  rw[tz a];exact this
theorem tc {l:List Nat}{n m:Nat}(c:l.length=m)(hv:∀ j,j<m->l.getD (m-1-j) 0=n/256^j%256):l=fy n m:=by
 apply List.ext_getElem
 ·rw[jX,c]
 ·intro i h1 a
  have b:=jc n m i oM;have:=hv (m-1-i) oM;rw[show m-1-(m-1-i)=i by omega,<-b] at this
  simpa [h1,a] using this
def fI (n k j:Nat):Nat:=n/256^k*256^k/4294967296^j%4294967296
theorem vJ (n j:Nat):fI n 0 j=n/4294967296^j%4294967296:=by unfold fI;simp
theorem xy {n k:Nat}(h:n<256^k)(j:Nat):fI n k j=0:=by unfold fI;rw[G3 h];simp
theorem oG (n k j:Nat):fI n k j<4294967296:=z2 _ oM
theorem vt (k:Nat):(256:Nat)^k=4294967296^(k/4)*2^(8*(k%4)):=by
 have:k=4*(k/4)+k%4:=by omega
 conv=>lhs;rw[this,LC,LH]
 rw[LH 2 8]
theorem tU (y q j:Nat):y*4294967296^q/4294967296^j%4294967296=if j<q then 0 else y/4294967296^(j-q)%4294967296:=by
 split
 ·rename_i h
  have e:(4294967296:Nat)^q=4294967296^j*(4294967296^(q-j-1)*4294967296):=by
   rw[<-Hj,<-LC];congr 1;omega
  rw[e,<-Ls,HA y,Ls,Nat.mul_div_cancel_left _ (LK oM),<-Ls];exact LN _ _
 ·rename_i h
  have e:(4294967296:Nat)^j=4294967296^q*4294967296^(j-q):=by rw[<-LC];congr 1;omega
  rw[e,<-LL,Nat.mul_div_cancel _ (LK oM)]
theorem DM (x b:Nat)(a:b<256):∀ r,r<4->(256*x+b)*2^(8*r)%4294967296=256*x*2^(8*r)%4294967296+b*2^(8*r)/\(256*x+b)*2^(8*r)/4294967296=256*x*2^(8*r)/4294967296/\256*x*2^(8*r)%4294967296%2^(8*r+8)=0/\b*2^(8*r)<4294967296:=by
 intro r hr;have:r=0\/r=1\/r=2\/r=3:=by omega
 rcases this with rfl|rfl|rfl|rfl<;>omega
theorem nS (n k j:Nat):fI n k j=if j=k/4 then fI n (k+1) j ||| (n/256^k%256)*2^(8*(k%4)) else fI n (k+1) j:=by
  have o:n/256^k=256*(n/256^(k+1))+n/256^k%256:=by
    rw[Hj,<-LL];omega
  have i:n/256^k%256<256:=z2 _ oM;have h:=vt k;have a:(256:Nat)^(k+1)=4294967296^(k/4)*2^(8*(k%4))*256:=by rw[Hj,h]
  obtain ⟨l,l2,l3,p⟩:=DM (n/256^(k+1)) _ i (k%4) oM
  unfold fI
  generalize n/256^(k+1)=x at *
  generalize hb2:n/256^k%256=b at *
  rw[o,h,a];have e1:(256*x+b)*(4294967296^(k/4)*2^(8*(k%4)))=(256*x+b)*2^(8*(k%4))*4294967296^(k/4):=by ac_rfl
  have e2:x*(4294967296^(k/4)*2^(8*(k%4))*256)=256*x*2^(8*(k%4))*4294967296^(k/4):=by ac_rfl
  rw[e1,e2,tU,tU]
  by_cases h1:j<k/4
  . rw[if_pos h1,if_pos h1,if_neg oM]
  . rw[if_neg h1,if_neg h1]
    by_cases h2:j=k/4
    . rw[if_pos h2,h2,tf,Nat.pow_zero,Nat.div_one,Nat.div_one,l]
      obtain ⟨c,hc⟩:∃ c,256*x*2^(8*(k%4))%4294967296=2^(8*(k%4)+8)*c:=⟨_,(Nat.mul_div_cancel' (Nat.dvd_of_mod_eq_zero l3)).symm⟩;rw[hc]
      have e:b*2^(8*(k%4))<2^(8*(k%4)+8):=by
        rw[LC,HA];exact LO i (Lz _)
      exact Nat.two_pow_add_eq_or_of_lt e c
    . rw[if_neg h2]
      obtain ⟨d,hd⟩:∃ d,j-k/4=d+1:=⟨j-k/4-1,by omega⟩;have f:∀ y:Nat,y/4294967296^(d+1)=y/4294967296/4294967296^d:=fun y=>by rw[LB,LL]
      rw[hd,f,f,l2]
theorem iT:∀ (l:List Nat) (n:Nat),(∀ j,j<l.length->l.getD j 0=n/4294967296^j%4294967296)->n<4294967296^l.length->dR l=n
  | [],n,_,h=>by simp at h;simp[dR,h]
  | x :: l,n,hd,h=>by
    have h0:=hd 0 (by simp)
    simp at h0
    have b:=iT l (n/4294967296) (fun j a=>by
      have:=hd (j+1) (by simpa using a);rw[yY,LB,<-LL] at this
      exact this) (Hi (by rw[tq,LB] at h;exact h))
    rw[dR,b,h0]
    omega
def ai (b:Nat):List Nat->Nat
  | []=>0
  | x::l=>x+b*ai b l
def Dg (b:Nat)(l:List Nat):Prop:=∀ x∈l,x<b
theorem kw (l:List Nat):dR l=ai 4294967296 l:=by
 induction l with
 | nil=>rfl
 | cons x l ih=>simp only[dR,ai,ih]
theorem Dg.nil {b:Nat}:Dg b []:=fun _ h=>by cases h
theorem Dg.getD {b:Nat}{l:List Nat}(h:Dg b l)(a:0<b)(k:Nat):l.getD k 0<b:=by
 rcases dS k l.length with hk|hk
 ·have:=h (l[k]) (gp hk);simpa [hk] using this
 ·simpa [s9 hk] using a
theorem Dg.set {b:Nat}{l:List Nat}(h:Dg b l)(k:Nat){x:Nat}(c:x<b):Dg b (l.set k x):=fun y a=>by
 rcases List.mem_or_eq_of_mem_set a with h1|h1
 ·exact h y h1
 ·rw[h1];exact c
theorem Dg.take {b:Nat}{l:List Nat}(h:Dg b l)(k:Nat):Dg b (l.take k):=fun x a=>h x (LF a)
theorem Dg.drop {b:Nat}{l:List Nat}(h:Dg b l)(k:Nat):Dg b (l.drop k):=fun x a=>h x (zh a)
theorem Dg.append {b:Nat}{l m:List Nat}(h:Dg b l)(k:Dg b m):Dg b (l++m):=fun x a=>by
 rcases gs.1 a with h1|h1
 ·exact h x h1
 ·exact k x h1
theorem Dg.one {b x:Nat}(h:x<b):Dg b [x]:=fun y a=>by rw[sy.1 a];exact h
theorem Dg.cons {b x:Nat}{l:List Nat}(h:x<b)(k:Dg b l):Dg b (x::l):=fun y a=>by
 rcases g2.1 a with rfl|h1
 ·exact h
 ·exact k y h1
theorem Dg.rep {b n:Nat}(c:0<b):Dg b (zY n 0):=fun y a=>by rw[(List.mem_replicate.1 a).2];exact c
theorem cV (b:Nat)(x y:List Nat):ai b (x++y)=ai b x+b^x.length*ai b y:=by
  induction x with
  | nil=>simp[ai]
  | cons a x ih =>
    simp only[H1,ai,ih,tq,Hj,Lr]
    rw[<-Ls,HA (b^x.length) b]
    omega
theorem bM {b:Nat}{l:List Nat}(h:Dg b l):ai b l<b^l.length:=by
  induction l with
  | nil=>simp[ai]
  | cons x l ih =>
    have h1:=h x (by simp);have c:=ih (fun y a=>h y (by simp[a]))
    simp only[ai,tq,Hj]
    have d:b*(ai b l+1)<=b*b^l.length:=LD _ c;rw[Lr,LP,HA b (b^l.length)] at d
    omega
theorem bP (b:Nat){l:List Nat}{k:Nat}(h:k<=l.length):ai b l=ai b (l.take k)+b^k*ai b (l.drop k):=by
 have e:=cV b (l.take k) (l.drop k);rw[LI,Lu,Lv h] at e
 exact e
theorem iS {l:List Nat}{k:Nat}(h:k<l.length):l.take (k+1)=l.take k++[l.getD k 0]:=by
 rw[Lt];simp[h]
theorem aN (b:Nat){l:List Nat}{k:Nat}(h:k<l.length):ai b (l.take (k+1))=ai b (l.take k)+b^k*l.getD k 0:=by
 rw[iS h,cV,Lu,Lv oM]
 show ai b (l.take k)+b^k*(l.getD k 0+b*0)=_
 rw[Lw,wj]
theorem fT (b:Nat){l:List Nat}{k:Nat}(h:k<l.length):ai b (l.drop k)=l.getD k 0+b*ai b (l.drop (k+1)):=by
 rw[Lx h]
 simp[ai,h]
theorem cI (b:Nat){l:List Nat}{k:Nat}(x:Nat)(h:k<l.length):ai b (l.set k x)+b^k*l.getD k 0=ai b l+b^k*x:=by
  induction l generalizing k with
  | nil=>simp at h
  | cons y l ih =>
    cases k with
    | zero=>simp[ai];omega
    | succ k =>
      have:=ih (k:=k) (by simpa using h);rw[y7,yY,ai,ai,Hj,HA (b^k) b,Ls,Ls];have e:b*(ai b (l.set k x)+b^k*l.getD k 0)=b*(ai b l+b^k*x):=by rw[this]
      rw[Lr,Lr] at e
      omega
theorem dN (b n:Nat):ai b (zY n 0)=0:=by
 induction n with
 | zero=>rfl
 | succ n ih=>simp[zZ,ai,ih]
theorem nB {b:Nat}(c:0<b){l:List Nat}(h:ai b l=0)(k:Nat):l.getD k 0=0:=by
  induction l generalizing k with
  | nil=>simp
  | cons x l ih =>
    simp only[ai] at h
    have h1:b*ai b l=0:=by omega
    have a:ai b l=0:=by
      rcases Nat.mul_eq_zero.1 h1 with a|a
      . omega
      . exact a
    cases k with
    | zero=>simp;omega
    | succ k=>simpa using ih a k
theorem ij (b:Nat){l:List Nat}(h:∀ k,l.getD k 0=0):ai b l=0:=by
  induction l with
  | nil=>rfl
  | cons x l ih =>
    have h0:=h 0
    simp at h0
    rw[ai,ih (fun k=>by have:=h (k+1);simpa using this),h0];simp
theorem ju {l:List Nat}{k n:Nat}(h:k<n):(l.take n).getD k 0=l.getD k 0:=by
 simp only[LM,List.getElem?_take,if_pos h]
theorem bE {l:List Nat}{k n:Nat}:(l.drop n).getD k 0=l.getD (n+k) 0:=by
 simp only[LM,vi]
theorem bC {l:List Nat}{k j x:Nat}(h:k<l.length):(l.set k x).getD j 0=if k=j then x else l.getD j 0:=by
 simp only[LM,List.getElem?_set,h,if_true]
 split<;>simp
theorem eg {n k:Nat}:(zY n 0).getD k 0=0:=by
 simp only[LM,List.getElem?_replicate]
 split<;>rfl
theorem cn {l:List Nat}{k:Nat}(h:l.length<=k):l.getD k 0=0:=by simp[s9 h]
theorem jS (b:Nat)(l:List Nat):∀ n,n<=l.length->ai b (l.take (tl l n))=ai b (l.take n)
  | 0,_=>rfl
  | n + 1,h=>by
    unfold tl
    split
    . rename_i h0
      rw[aN b oM,h0,jS b l n oM];simp
    . rfl
theorem uu {l:List Nat}:∀ n,tl l n=0\/l.getD (tl l n-1) 0≠0
  | 0=>.inl rfl
  | n+1=>by
    unfold tl
    split
    . exact uu n
    . rename_i h;exact .inr h
def qU (b:Nat):Nat->Nat->List Nat
  | 0,_=>[]
  | f+1,n=>if n=0 then [] else n%b::qU b f (n/b)
def gX (b n:Nat):List Nat:=qU b n n
theorem tY {b:Nat}(a:2<=b):∀ (f g n:Nat),n<=f->n<=g->qU b f n=qU b g n
  | 0,g,n,hf,hg=>by
    have:n=0:=by omega
    subst this;cases g<;>rfl
  | f+1,0,n,hf,hg=>by
    have:n=0:=by omega
    subst this
    rfl
  | f + 1,g+1,n,hf,hg=>by
    unfold qU
    split
    . rfl
    . rename_i h0
      have:=LR (n:=n) (k:=b) oM oM;rw[tY a f g (n/b) oM oM]
theorem jO (b:Nat):gX b 0=[]:=rfl
theorem eM {b n:Nat}(a:2<=b)(h:0<n):gX b n=n%b::gX b (n/b):=by
 unfold gX
 obtain ⟨m,rfl⟩:∃ m,n=m+1:=⟨n-1,by omega⟩;have:=LR (n:=m+1) (k:=b) oM oM;rw[qU,if_neg oM];rw[tY a m _ _ oM (eb _)]
theorem j0 {b:Nat}(a:2<=b)(n:Nat):ai b (gX b n)=n:=by
  induction n using g4 with
  | _ n ih =>
    rcases Au n with h|h
    . subst h;rfl
    . rw[eM a h,ai,ih (n/b) (LR h oM)]
      exact Nat.mod_add_div n b
theorem AO {b:Nat}(a:2<=b)(n:Nat):Dg b (gX b n):=by
  induction n using g4 with
  | _ n ih =>
    rcases Au n with h|h
    . subst h;exact Dg.nil
    . rw[eM a h]
      exact Dg.cons (z2 _ oM) (ih _ (LR h oM))
theorem oB {b n:Nat}(a:2<=b):0<(gX b n).length↔0<n:=by
 rcases Au n with h|h
 ·subst h;simp[jO]
 ·rw[eM a h];simp[h]
theorem sL {b:Nat}(i:2<=b){l:List Nat}(d:Dg b l)(a:l=[]\/l.getD (l.length-1) 0≠0):gX b (ai b l)=l:=by
  induction l with
  | nil=>rfl
  | cons x l ih =>
    have e:=d x (by simp);have e1:(x+b*ai b l)%b=x:=by rw[Nat.add_mul_mod_self_left,z1 e]
    have e2:(x+b*ai b l)/b=ai b l:=by rw[LJ _ _ oM,G3 e,y8]
    have c:l=[]\/l.getD (l.length-1) 0≠0:=by
      rcases List.eq_nil_or_concat l with h0|⟨m,y,rfl⟩
      . exact .inl h0
      . right
        rcases a with a|a
        . cases a
        . rw[show (x::m.concat y).length-1=((m.concat y).length-1)+1 by simp,yY] at a
          exact a
    have h:0<ai b (x::l):=by
      rcases Au (ai b (x::l)) with h0|h0
      . rcases a with a|a
        . cases a
        . exact absurd (nB oM h0 _) a
      . exact h0
    rw[eM i h]
    simp only[ai]
    rw[e1,e2,ih (fun y f=>d y (by simp[f])) c]
theorem HL {b:Nat}(d:2<=b){l:List Nat}(c:Dg b l):gX b (ai b l)=l.take (tl l l.length):=by
 have e:=jS b l l.length (eb _);rw[yz] at e
 have a:=iq l l.length
 have:=sL d (c.take (tl l l.length)) (by
  by_cases h0:tl l l.length=0
  ·left;rw[h0];rfl
  ·right
   rw[Lu,Lv a,ju oM]
   rcases uu (l:=l) l.length with h|h
   ·exact absurd h h0
   ·exact h)
 rw[e] at this
 exact this
theorem lZ {b:Nat}(a:2<=b)(n:Nat)(h:0<n):(gX b n).getD ((gX b n).length-1) 0≠0:=by
  induction n using g4 with
  | _ n ih =>
    rw[eM a h]
    rcases Au (n/b) with h0|h0
    . rw[h0,jO]
      have:n<b:=by
        rcases dS n b with h1|h1
        . exact h1
        . have:=Nat.div_pos h1 oM;omega
      simp[z1 this];omega
    . have:=ih (n/b) (LR h oM) h0
      have c:=(oB a).2 h0;rw[tq,show (gX b (n/b)).length+1-1=((gX b (n/b)).length-1)+1 by omega,yY];exact this
theorem gd {b n k:Nat}(a:2<=b)(h:n<b^k):(gX b n).length<=k:=by
 rcases Au n with h0|h0
 ·subst h0;simp[jO]
 ·rcases dS k (gX b n).length with hk|hk
  ·exfalso
   have h1:=aN b (l:=gX b n) (k:=(gX b n).length-1) oM;rw[show (gX b n).length-1+1=(gX b n).length by omega,yz,j0 a] at h1
   have c:=lZ a n h0;have d:b^((gX b n).length-1)*1<=b^((gX b n).length-1)*(gX b n).getD ((gX b n).length-1) 0:=LD _ oM;have e:b^k<=b^((gX b n).length-1):=LA oM oM
   omega
  ·exact hk
theorem jp {b:Nat}(a:2<=b)(n:Nat):n<b^(gX b n).length:=by
 have:=bM (AO a n)
 rwa [j0 a] at this
theorem rF {b n:Nat}(a:2<=b)(h:0<n):b^((gX b n).length-1)<=n:=by
 have e:=(oB a).2 h;have h1:=aN b (l:=gX b n) (k:=(gX b n).length-1) oM;rw[show (gX b n).length-1+1=(gX b n).length by omega,yz,j0 a] at h1
 have c:=lZ a n h;have d:b^((gX b n).length-1)*1<=b^((gX b n).length-1)*(gX b n).getD ((gX b n).length-1) 0:=LD _ oM
 omega
theorem iO (b:Nat){l:List Nat}{k m:Nat}(hk:k+m<=l.length)(a:0<b)(c:Dg b l)(h:ai b l<b^(k+m)):ai b l/b^k=ai b ((l.drop k).take m)/\∀ i,k+m<=i->l.getD i 0=0:=by
 have e1:=bP b (l:=l) (k:=k) oM;have e2:=bP b (l:=l.drop k) (k:=m) (by rw[List.length_drop];omega);have h1:=bM (c.take k);rw[Lu,Lv oM] at h1
 have e:0<b^k:=LK a
 have hz:ai b ((l.drop k).drop m)=0:=by
  rcases Au (ai b ((l.drop k).drop m)) with h0|h0
  ·exact h0
  ·exfalso
   have f:b^m*1<=b^m*ai b ((l.drop k).drop m):=LD _ h0;have d:b^k*b^m<=b^k*ai b (l.drop k):=LD _ oM;rw[<-LC] at d
   omega
 rw[hz,Lw,wj] at e2
 refine ⟨?_,fun i hi=>?_⟩
 ·rw[e1,LJ _ _ e,G3 h1,y8,e2]
 ·have:=nB a hz (i-k-m)
  rw[bE,bE,show k+(m+(i-k-m))=i by omega] at this
  exact this
theorem xU {b P u v U V G:Nat}(x:0<P)(y:U*P<=u)(j:u<(U+1)*P)(e:V*P<=v)(o:v<(V+1)*P)(c:b*P<=v)(d:u<b*v)(p:G*V<=U)(a:G+1=b\/U<(G+1)*V)(i:G<b) :
    u/v<=G/\G<=u/v+1:=by
  have hv:0<v:=e4 (Nat.mul_pos oM x) c
  constructor
  . have l:u/v<G+1:=by
      rw[Nat.div_lt_iff_lt_mul hv]
      rcases a with h|h
      . rw[h];exact d
      . have h1:(U+1)*P<=(G+1)*V*P:=y9 _ h
        have f:(G+1)*(V*P)<=(G+1)*v:=LD _ e;rw[Ls] at h1
        omega
    omega
  . have h1:G*v<=u+v:=by
      have z:G*v<=G*((V+1)*P):=LD _ oM;have B:G*((V+1)*P)=G*V*P+G*P:=by rw[<-Ls,Lr,LP,LS]
      have D:G*V*P<=U*P:=y9 _ p;have C:G*P<=b*P:=y9 _ oM
      omega
    have f:G<=(u+v)/v:=(Nat.le_div_iff_mul_le hv).2 h1;rw[Nat.add_div_right _ hv] at f
    omega
theorem aF (b:Nat)(l:List Nat)(k:Nat):ai b (l.take (k+1))=ai b (l.take k)+b^k*l.getD k 0:=by
 rcases dS k l.length with h|h
 ·exact aN b h
 ·rw[LU oM,LU h]
  simp[s9 h]
theorem gU {b:Nat}{l y:List Nat}{i c c' s X:Nat}(hi:i<l.length)(inv:ai b l+b^i*c=X+ai b (y.take i))(e:s+b*c'=l.getD i 0+y.getD i 0+c) :
  ai b (l.set i s)+b^(i+1)*c'=X+ai b (y.take (i+1)):=by
 have h1:=cI b s hi;rw[aF,Hj]
 generalize b^i=P at *
 generalize ai b (l.set i s)=S at *
 have e2:P*(s+b*c')=P*(l.getD i 0+y.getD i 0+c):=by rw[e]
 simp only[Lr,<-Ls] at e2 ⊢
 omega
theorem iR {b:Nat}{l y:List Nat}{i c c' s X:Nat}(hi:i<l.length)(inv:ai b l+ai b (y.take i)=X+b^i*c)(e:s+y.getD i 0+c=l.getD i 0+b*c') :
  ai b (l.set i s)+ai b (y.take (i+1))=X+b^(i+1)*c':=by
 have h1:=cI b s hi;rw[aF,Hj]
 generalize b^i=P at *
 generalize ai b (l.set i s)=S at *
 have e2:P*(s+y.getD i 0+c)=P*(l.getD i 0+b*c'):=by rw[e]
 simp only[Lr,<-Ls] at e2 ⊢
 omega
theorem mt {b:Nat}{l y:List Nat}{k j m c c' s X:Nat}(hi:k+j<l.length)(inv:ai b l+b^(k+j)*c=X+b^k*(m*ai b (y.take j)))(e:s+b*c'=l.getD (k+j) 0+m*y.getD j 0+c) :
  ai b (l.set (k+j) s)+b^(k+(j+1))*c'=X+b^k*(m*ai b (y.take (j+1))):=by
 have h1:=cI b s hi;rw[aF,<-v7,Hj];have a:b^(k+j)=b^k*b^j:=LC _ _ _;have e2:b^(k+j)*(s+b*c')=b^(k+j)*(l.getD (k+j) 0+m*y.getD j 0+c):=by rw[e]
 have d:b^k*(m*(ai b (y.take j)+b^j*y.getD j 0))=b^k*(m*ai b (y.take j))+b^(k+j)*(m*y.getD j 0):=by
  rw[a,Lr,Lr,<-Ls m,HA m (b^j),Ls (b^j),<-Ls (b^k) (b^j)]
 rw[d]
 generalize b^(k+j)=P at *
 generalize ai b (l.set (k+j) s)=S at *
 generalize b^k*(m*ai b (y.take j))=Y at *
 simp only[Lr,<-Ls] at e2 ⊢
 omega
theorem tL {b:Nat}{l y:List Nat}{k m c X:Nat}(hi:k+y.length<l.length)(inv:ai b l+b^(k+y.length)*c=X+b^k*(m*ai b (y.take y.length)))(h0:l.getD (k+y.length) 0=0) :
  ai b (l.set (k+y.length) c)=X+b^k*(m*ai b y):=by
 have h1:=cI b c hi;rw[yz] at inv
 rw[h0] at h1
 omega
theorem vd {b:Nat}{x:List Nat}{i X Y:Nat}(h:X=ai b (x.take i)*Y):X+b^i*(x.getD i 0*Y)=ai b (x.take (i+1))*Y:=by
 rw[aF,LS,h,Ls]
theorem Dk {b:Nat}{l:List Nat}{i d r a q X:Nat}(hi:i<l.length)(inv:X=d*(b^(i+1)*ai b (l.drop (i+1)))+(b^(i+1)*r+ai b (l.take (i+1))))(e:r*b+l.getD i 0=d*q+a) :
  X=d*(b^i*ai b ((l.set i q).drop i))+(b^i*a+ai b ((l.set i q).take i)):=by
 have e1:(l.set i q).take i=l.take i:=by rw[List.take_set_of_le (eb _)]
 have e2:ai b ((l.set i q).drop i)=q+b*ai b (l.drop (i+1)):=by
  rw[fT b (by simpa using hi),bC hi,if_pos rfl,List.drop_set_of_lt oM]
 rw[e1,e2,inv,aN b hi,Hj];have h:b^i*(r*b+l.getD i 0)=b^i*(d*q+a):=by rw[e]
 have f:d*(b^i*(q+b*ai b (l.drop (i+1))))=b^i*(d*q)+d*(b^i*b*ai b (l.drop (i+1))):=by
  rw[Lr,Lr,<-Ls (b^i) b,Nat.mul_left_comm d (b^i) q]
 have c:b^i*b*r=b^i*(r*b):=by rw[Ls,HA b r]
 rw[f,c]
 simp only[Lr] at h
 omega
theorem uP {b:Nat}{u v:List Nat}{j i G c c' a bo' t s X:Nat}(hi:j+i<u.length)(inv:ai b u+b^j*(G*ai b (v.take i))=X+b^(j+i)*(c+a))(e1:t+b*c'=G*v.getD i 0+c)(e2:s+t+a=u.getD (j+i) 0+b*bo') :
  ai b (u.set (j+i) s)+b^j*(G*ai b (v.take (i+1)))=X+b^(j+(i+1))*(c'+bo'):=by
 have h1:=cI b s hi;rw[aF,<-v7,Hj];have d:b^(j+i)=b^j*b^i:=LC _ _ _
 have h:b^j*(G*(ai b (v.take i)+b^i*v.getD i 0))=b^j*(G*ai b (v.take i))+b^(j+i)*(G*v.getD i 0):=by
  rw[d,Lr,Lr,<-Ls G,HA G (b^i),Ls (b^i),<-Ls (b^j) (b^i)]
 rw[h];have e:b^(j+i)*(t+b*c')=b^(j+i)*(G*v.getD i 0+c):=by rw[e1]
 have f:b^(j+i)*(s+t+a)=b^(j+i)*(u.getD (j+i) 0+b*bo'):=by rw[e2]
 generalize b^(j+i)=P at *
 generalize ai b (u.set (j+i) s)=S at *
 generalize b^j*(G*ai b (v.take i))=Y at *
 simp only[Lr,<-Ls] at e f inv ⊢
 omega
theorem xt {b:Nat}{u v:List Nat}{j G c a bo' s X:Nat}(hi:j+v.length<u.length)(inv:ai b u+b^j*(G*ai b (v.take v.length))=X+b^(j+v.length)*(c+a))(e2:s+c+a=u.getD (j+v.length) 0+b*bo') :
  ai b (u.set (j+v.length) s)+b^j*(G*ai b v)=X+b^(j+v.length+1)*bo':=by
 have h1:=cI b s hi;rw[yz] at inv
 rw[Hj];have d:b^(j+v.length)*(s+c+a)=b^(j+v.length)*(u.getD (j+v.length) 0+b*bo'):=by rw[e2]
 generalize b^(j+v.length)=P at *
 generalize ai b (u.set (j+v.length) s)=S at *
 generalize b^j*(G*ai b v)=Y at *
 simp only[Lr,<-Ls] at d inv ⊢
 omega
theorem t6 {b:Nat}{u v:List Nat}{j i c c' s X:Nat}(hi:j+i<u.length)(inv:ai b u+b^(j+i)*c=X+b^j*ai b (v.take i))(e:s+b*c'=u.getD (j+i) 0+v.getD i 0+c) :
  ai b (u.set (j+i) s)+b^(j+(i+1))*c'=X+b^j*ai b (v.take (i+1)):=by
 have:=mt (b:=b) (l:=u) (y:=v) (k:=j) (j:=i) (m:=1) (c:=c) (c':=c') (s:=s) (X:=X) hi (by rw[LW];exact inv) (by rw[LW];exact e);rw[LW] at this
 exact this
theorem A3 {b:Nat}{u v:List Nat}{j c c' s X:Nat}(hi:j+v.length<u.length)(inv:ai b u+b^(j+v.length)*c=X+b^j*ai b (v.take v.length))(e:s+b*c'=u.getD (j+v.length) 0+c) :
  ai b (u.set (j+v.length) s)+b^(j+v.length+1)*c'=X+b^j*ai b v:=by
 have h1:=cI b s hi;rw[yz] at inv
 rw[Hj];have a:b^(j+v.length)*(s+b*c')=b^(j+v.length)*(u.getD (j+v.length) 0+c):=by rw[e]
 generalize b^(j+v.length)=P at *
 generalize ai b (u.set (j+v.length) s)=S at *
 generalize b^j*ai b v=Y at *
 simp only[Lr,<-Ls] at a inv ⊢
 omega
def Above (u u0:List Nat)(k:Nat):Prop:=u.length=u0.length/\∀ i,k<=i->u.getD i 0=u0.getD i 0
theorem Above.refl (u:List Nat)(k:Nat):Above u u k:=⟨rfl,fun _ _=>rfl⟩
theorem Above.set {u a:List Nat}{k i x:Nat}(h:Above u a k)(hi:i<k)(c:i<u.length):Above (u.set i x) a k:=⟨by rw[List.length_set];exact h.1,fun j b=>by rw[bC c,if_neg oM];exact h.2 j b⟩
theorem fr {b:Nat}(f:0<b){u a:List Nat}{k:Nat}(h:Above u a k)(d:Dg b u)(c:Dg b a)(hk:k<=u.length)(h0:ai b a<b^k):ai b u<b^k:=by
 have e:=bP b hk;have h1:=bM (d.take k);rw[Lu,Lv hk] at h1
 have hz:ai b (u.drop k)=0:=ij b (fun i=>by
  rw[bE,h.2 _ oM];exact (iO b (l:=a) (k:=k) (m:=0) (by rw[<-h.1];exact hk) f c h0).2 _ oM)
 rw[hz] at e
 omega
theorem fR {b n j R v c G f:Nat}(F:2<=b)(hn:2<=n)(l:b^(n-1)<=v)(d:v<b^n)(hR:R<b^(j+1)*v)(B:c<b^(j+n+1))(e:c+b^j*(G*v)=R+b^(j+n+1)*f)(y:f<=1)
    (H:R/(b^j*v)<=G/\G<=R/(b^j*v)+1) :
    (f=0->G=R/(b^j*v)/\c=R-b^j*(G*v)/\c<b^j*v/\b^j*(G*v)<=R)/\(f=1->G=R/(b^j*v)+1/\c+b^j*v=(R-b^j*((G-1)*v))+b^(j+n+1)/\R-b^j*((G-1)*v)<b^j*v/\b^j*((G-1)*v)<=R):=by
  have u:0<b^j:=LK oM;have i:0<v:=e4 (LK oM) l;have C:0<b^j*v:=Nat.mul_pos u i;have eq:∀ g,b^j*(g*v)=g*(b^j*v):=fun g=>by rw[<-Ls,HA (b^j) g,Ls]
  have o:=LX R (b^j*v);have z:=z2 R C;rw[HA] at o
  rw[eq] at e
  have p:b^j*v<b^(j+n+1):=by
    have h1:b^j*v<b^j*b^n:=LO d u;rw[<-LC] at h1
    have D:b^(j+n)<=b^(j+n+1):=LA oM oM
    omega
  have x:R<b^(j+n+1):=by
    have h1:b^(j+1)*v<b^(j+1)*b^n:=LO d (LK oM);rw[<-LC,show j+1+n=j+n+1 by omega] at h1
    omega
  generalize b^(j+n+1)=T at *
  generalize hWe:b^j*v=W at *
  generalize hQ:R/W=Q at *
  refine ⟨fun h=>?_,fun h=>?_⟩
  . subst h
    rw[eq]
    have a:G=Q:=by
      rcases dS Q G with h1|h1
      . exfalso
        have:G=Q+1:=by omega
        subst this;rw[LS] at e
        omega
      . omega
    subst a
    omega
  . subst h
    have a:G=Q+1:=by
      rcases dS Q G with h1|h1
      . omega
      . exfalso
        have:G=Q:=by omega
        subst this
        omega
    subst a;rw[eq,Nat.add_sub_cancel];rw[LS] at e
    omega
theorem nZ {b n j G:Nat}{u v:List Nat}(M:2<=b)(hn:2<=n)(J:v.length=n)(h:Dg b v)(p:Dg b u)(O:j+n<u.length)(C:v.getD (n-1) 0≠0)(hR:ai b u<b^(j+1)*ai b v)
  (K:G*(v.getD (n-1) 0*b+v.getD (n-2) 0)<=u.getD (j+n) 0*b*b+u.getD (j+n-1) 0*b+u.getD (j+n-2) 0)
  (z:G+1=b\/u.getD (j+n) 0*b*b+u.getD (j+n-1) 0*b+u.getD (j+n-2) 0<(G+1)*(v.getD (n-1) 0*b+v.getD (n-2) 0))(o:G<b) :
  ai b u/(b^j*ai b v)<=G/\G<=ai b u/(b^j*ai b v)+1:=by
 have d:=bM h;rw[J] at d
 have D:0<b^(j+n-2):=LK oM
 have x:ai b u<b^(j+n-2+3):=by
  have h1:b^(j+1)*ai b v<b^(j+1)*b^n:=LO d (LK oM);rw[<-LC,show j+1+n=j+n-2+3 by omega] at h1
  omega
 have e:∀ {l:List Nat} {k:Nat},k+3<=l.length->ai b ((l.drop k).take 3)=l.getD (k+2) 0*b*b+l.getD (k+1) 0*b+l.getD k 0:=fun {l k} hk=>by
  rw[aF,aF,aF,bE,bE,bE]
  simp[ai,Hj]
  rw[HA b (l[k+1]?.getD 0),HA (b*b) (l[k+2]?.getD 0),Ls]
  omega
 have two:∀ {l:List Nat} {k:Nat},k+2<=l.length->ai b ((l.drop k).take 2)=l.getD (k+1) 0*b+l.getD k 0:=fun {l k} hk=>by
  rw[aF,aF,bE,bE]
  simp[ai]
  rw[HA b (l[k+1]?.getD 0)]
  omega
 have H:=(iO b (l:=u) (k:=j+n-2) (m:=3) oM oM p x).1;have F:=(iO b (l:=v) (k:=n-2) (m:=2) oM oM h (by rw[show n-2+2=n by omega];exact d)).1;rw[e oM,show j+n-2+2=j+n by omega,show j+n-2+1=j+n-1 by omega] at H
 rw[two oM,show n-2+1=n-1 by omega] at F
 have a:b^(j+n-2)=b^j*b^(n-2):=by rw[<-LC];congr 1;omega
 have y:0<b^(n-2):=LK oM;have f:=LX (ai b u) (b^(j+n-2));have I:=z2 (ai b u) D;have i:=LX (ai b v) (b^(n-2));have B:=z2 (ai b v) y;rw[H] at f
 rw[F] at i
 have c:b^(n-1)<=ai b v:=by
  have:=aN b (l:=v) (k:=n-1) oM;rw[show n-1+1=v.length by omega,yz] at this
  have L:b^(n-1)*1<=b^(n-1)*v.getD (n-1) 0:=LD _ oM
  omega
 generalize hU:u.getD (j+n) 0*b*b+u.getD (j+n-1) 0*b+u.getD (j+n-2) 0=U at *
 generalize hV:v.getD (n-1) 0*b+v.getD (n-2) 0=V at *
 generalize ai b u%b^(j+n-2)=mu at *
 generalize ai b v%b^(n-2)=mv at *
 refine xU (b:=b) (P:=b^(j+n-2)) (U:=U) (V:=V) D ?_ ?_ ?_ ?_ ?_ ?_ K z o
 ·rw[HA];omega
 ·rw[LS,LW,HA U];omega
 ·rw[a,HA V,Ls]
  exact LD _ oM
 ·rw[a,HA (V+1),Ls,Lr,LP]
  exact LO oM (LK oM)
 ·rw[a,HA b (b^j*b^(n-2)),Ls]
  refine LD _ ?_;rw[<-Hj,show (n-2).succ=n-1 by omega];exact c
 ·rw[Hj] at hR
  rw[<-Ls,HA b (b^j)];exact hR
def aU (s:ByteArray)(i:Nat):Nat:=(s.data.toList.getD i 0).toNat
theorem cP (s:ByteArray)(i:Nat):aU s i<256:=UInt8.toNat_lt _
def wv (s:ByteArray):Nat:=aU s 0+aU s 1*256+aU s 2*65536+aU s 3*16777216+aU s 4*4294967296+aU s 5*1099511627776+aU s 6*281474976710656+aU s 7*72057594037927936
theorem Ff (s:ByteArray):wv s<18446744073709551616:=by
 have h0:=cP s 0;have h1:=cP s 1;have b:=cP s 2;have c:=cP s 3;have e:=cP s 4;have a:=cP s 5;have d:=cP s 6;have f:=cP s 7
 unfold wv;omega
section ops
variable {P:Program}{Γ:cl}{o:Oper}
theorem dW {tx:TypeId}{x i:Operand}{k:IntKind}{s:ByteArray}{n:Nat}{j:Int}(d:o.op=.index tx x i)(c:ev Γ x=.string s)(hi:ev Γ i=.int k j)(e:P.underlying tx=some .string)(b:j=(n:Int))(hn:n<s.size)(w:World) :
  (execOp (ev Γ) o).run P w=.ok (.value (.int .u8 (aU s n:Nat))) w:=by
 unfold execOp;simp only[d];rw[c,hi,b]
 have h0:(0:Int)<=(n:Int):=Int.natCast_nonneg n;have a:n<s.data.size:=hn
 have h1:s[n]?=some (s.data.toList.getD n 0):=by
  simp[hn,a,ByteArray.getElem_eq_getElem_data]
 simp[Instr.index,asIntOf,run_underlying e,h1,aU,Result.andThen]
theorem pO {tx:TypeId}{x i:Operand}{k:IntKind}{s:ByteArray}{n:Nat}{j:Int}(c:o.op=.slice tx x (some i) none none)(b:ev Γ x=.string s)(hi:ev Γ i=.int k j)(d:P.underlying tx=some .string)(a:j=(n:Int))(hn:n<=s.size)(w:World) :
  (execOp (ev Γ) o).run P w=.ok (.value (.string (s.extract n s.size))) w:=by
 unfold execOp;simp only[c]
 subst a;have h0:(n:Int)<=(s.size:Int):=by omega
 simp[Instr.sliceAt,b,hi,Instr.slice,run_underlying d,Instr.sliceBounds,Instr.sliceBound,asIntOf,Result.andThen,h0,hn]
theorem ie {t u:TypeId}{x y:Operand}{ky:IntKind}{a n:Nat}(d:o.op=.binOp .shl t x y u)(c:ev Γ x=.int .u64 (a:Int))(b:ev Γ y=.int ky (n:Int))(w:World) :
    (execOp (ev Γ) o).run P w=.ok (.value (.int .u64 ((a*2^n%18446744073709551616:Nat):Int))) w:=by
  unfold execOp;simp only[d];rw[c,b]
  have hz:¬((n:Int)<0):=by omega
  have e:IntKind.wrap .u64 ((a:Int)*2^(min n IntKind.u64.bits))=((a*2^n%18446744073709551616:Nat):Int):=by
    have e1:(a:Int)*2^(min n IntKind.u64.bits)=((a*2^(min n 64):Nat):Int):=by
      rw[show IntKind.u64.bits=64 from rfl];push_cast;rfl
    rw[e1,BG]
    rcases dS n 64 with h|h
    . rw[Lv oM]
    . rw[LY h]
      have e2:(2:Nat)^n=18446744073709551616*2^(n-64):=by
        rw[show (18446744073709551616:Nat)=2^64 from rfl,<-LC];congr 1;omega
      have f:a*2^n%18446744073709551616=0:=by rw[e2,<-Ls,HA a,Ls,Nat.mul_mod_right]
      rw[f,show (2:Nat)^64=18446744073709551616 from rfl,LN]
  simp[binOp,eqGuard,Op.shift,Result.andThen,hz,e]
theorem gL {t u:TypeId}{x y:Operand}{ky:IntKind}{a n:Nat}(d:o.op=.binOp .shr t x y u)(c:ev Γ x=.int .u64 (a:Int))(b:ev Γ y=.int ky (n:Int))(ha:a<18446744073709551616)(w:World) :
  (execOp (ev Γ) o).run P w=.ok (.value (.int .u64 ((a/2^n:Nat):Int))) w:=by
 unfold execOp;simp only[d];rw[c,b]
 have hz:¬((n:Int)<0):=by omega
 have f:(0:Int)<=2^(min n IntKind.u64.bits):=Gx kD
 have e:(a:Int)/2^(min n IntKind.u64.bits)=((a/2^n:Nat):Int):=by
  have e1:(a:Int)/2^(min n IntKind.u64.bits)=((a/2^(min n 64):Nat):Int):=by
   rw[show IntKind.u64.bits=64 from rfl];push_cast;rfl
  rw[e1]
  rcases dS n 64 with h|h
  ·rw[Lv oM]
  ·have h1:(2:Nat)^64<=2^n:=LA oM h
   rw[LY h,G3 oM,G3 oM]
 simp[binOp,eqGuard,Op.shift,Result.andThen,hz,D2 _ f,e]
theorem sU {t u:TypeId}{x y:Operand}{a:Nat}{m:Int}(p:Nat)(f:o.op=.binOp .and t x y u)(d:ev Γ x=.int .u64 (a:Int))(c:ev Γ y=.int .u64 m)(ha:a<18446744073709551616)(b:p<=64/\m=((2^p-1:Nat):Int))(w:World) :
  (execOp (ev Γ) o).run P w=.ok (.value (.int .u64 ((a%2^p:Nat):Int))) w:=by
 unfold execOp;simp only[f];rw[d,c,b.2]
 have h:(2^p-1:Nat)<2^64:=by
  have:(2:Nat)^p<=2^64:=LA oM b.1;have:=Lz p
  omega
 have e:bits .and .u64 (a:Int) ((2^p-1:Nat):Int)=((a%2^p:Nat):Int):=by
  unfold bits
  have h1:(BitVec.ofInt 64 (a:Int) &&& BitVec.ofInt 64 ((2^p-1:Nat):Int)).toNat=a%2^p:=by
   rw[BitVec.toNat_and,<-Nat.and_two_pow_sub_one_eq_mod]
   congr 1
   ·simp[BitVec.toNat_ofInt];omega
   ·rw[BitVec.toNat_ofInt,<-Int.natCast_emod,z6,z1 h]
  show IntKind.wrap .u64 (((BitVec.ofInt 64 (a:Int) &&& BitVec.ofInt 64 ((2^p-1:Nat):Int)).toNat:Nat):Int)=_
  rw[h1,BG];have:a%2^p<=a:=Nat.mod_le _ _;rw[z1 oM]
 simp[binOp,eqGuard,Result.andThen,intBits_and,e]
end ops
theorem xg (a b:Nat):IntKind.wrap .u64 ((a:Int)+(b:Int))=(((a+b)%18446744073709551616:Nat):Int):=by rw[IntKind.wrap_u64];omega
theorem kN (a b:Nat)(h:b<=18446744073709551616):IntKind.wrap .u64 ((a:Int)-(b:Int))=(((a+(18446744073709551616-b))%18446744073709551616:Nat):Int):=by rw[IntKind.wrap_u64];omega
theorem jF (a b:Nat):IntKind.wrap .u64 ((a:Int)*(b:Int))=((a*b%18446744073709551616:Nat):Int):=by
 rw[<-Int.natCast_mul,BG]
theorem jg (a b:Nat)(h:a*b<18446744073709551616):IntKind.wrap .u64 ((a:Int)*(b:Int))=((a*b:Nat):Int):=by rw[jF,z1 h]
theorem fA (a b:Nat)(h:b<=a)(ha:a<18446744073709551616):IntKind.wrap .u64 ((a:Int)-(b:Int))=((a-b:Nat):Int):=by rw[IntKind.wrap_u64];omega
theorem eA (a b:Nat)(h:a+b<18446744073709551616):IntKind.wrap .u64 ((a:Int)+(b:Int))=((a+b:Nat):Int):=by rw[IntKind.wrap_u64];omega
theorem jN {s:ByteArray}(h:s=⟨#[]⟩):(s.toList == (⟨#[]⟩:ByteArray).toList)=true:=by rw[h,Lib.toList_data];rfl
theorem ng {s:ByteArray}(h:s.size≠0):s.data.toList≠[]:=fun e=>h (by
 have:s.data.size=s.data.toList.length:=by simp
 show s.data.size=0
 rw[this,e];rfl)
theorem jf {s:ByteArray}(h:s.size≠0):(s.toList == (⟨#[]⟩:ByteArray).toList)=false:=by
 rw[Lib.toList_data,Lib.toList_data];have:=ng h;cases e:s.data.toList with
 | nil=>exact absurd e this
 | cons a l=>rfl
theorem I6 {s:ByteArray}(h:s=⟨#[]⟩):(!(s.toList == (⟨#[]⟩:ByteArray).toList))=false:=by rw[jN h];rfl
theorem IA {s:ByteArray}(h:s.size≠0):(!(s.toList == (⟨#[]⟩:ByteArray).toList))=true:=by rw[jf h];rfl
theorem qE (s:ByteArray)(k i:Nat):aU (s.extract k s.size) i=aU s (k+i):=by
 unfold aU
 rw[Lib.extract_to_end]
 simp only[LM,vi]
def kf (s t:ByteArray):Bool:=s.toList == t.toList
def lU (s t:ByteArray):Bool:=!(s.toList == t.toList)
end Go.Proofs.YthfkmhgnndmblaaGreatDoor
