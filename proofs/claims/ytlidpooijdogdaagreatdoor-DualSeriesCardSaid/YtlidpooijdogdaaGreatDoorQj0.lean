/- Laws of this claim, part 1. -/
import Derived.Below
import Derived.WalkKit
import Derived.Lib.Hide
import Derived.Deep.Draws
import Derived.Orders
import Derived.OrdersHeld
import Derived.KernelRfl
import Derived.Laws.MakeOwn
import Derived.Maps.AppendAt
import Derived.Test.YtlidpooijdogdaaGreatDoorProg
import Derived.Lib.IndexBytes
import Derived.Lib.Builder
import Derived.Lib.UnsafeStr
import Derived.Test.YtlidpooijdogdaaGreatDoorShelf
import Derived.Shelf.Spec.BitsCarry
import Derived.Lib.BitFns
import Derived.Laws.CopyRow
import Derived.Shelf.Strings.Builder1
import Derived.Shelf.Strings.Builder2
import Derived.Lib.TrailingZeros
import Derived.Laws.Bits64b
import Derived.WideMake
import Derived.ArgAppend
import Derived.Deep.Upon
import Derived.Shelf.SortM.Walk0sIn
import Derived.DeepKeys5
import Derived.StringKeys
import Derived.Shelf.SlIter.Nil
import Derived.Shelf.SortM.Plain
import Derived.Shelf.SortM.SortNone
import Derived.RangeFuncBox
import Derived.OwnWalkIn
import Derived.TacticsInMore
import Derived.LoopNIn
import Derived.LoopIn
import Derived.Sort.KeysCollected
set_option maxRecDepth 100000
set_option maxHeartbeats 4000000
namespace Go.Proofs.YtlidpooijdogdaaGreatDoor
open _root_.Array renaming all_eq_true_iff_forall_mem -> la, any_eq_true -> pa, getD -> e4, getElem?_append_left -> tf, getElem?_append_right -> Ab, getElem?_eq_getElem -> ep, getElem?_eq_none -> dS, getElem?_eq_some_iff -> hC, getElem?_extract -> Am, getElem?_push_lt -> en, getElem?_push_size -> er, getElem?_replicate -> Af, getElem?_setIfInBounds_ne -> hP, getElem?_setIfInBounds_self_of_lt -> As, getElem_mem -> po, mapM_eq_mapM_toList -> v8, replicate -> s5, setIfInBounds_comm -> e6
open Bool renaming and_eq_true -> i2, false_eq_true -> ri, not_true -> sy, or_eq_true -> o2
open Int renaming fdiv_eq_ediv_of_nonneg -> D1, pow_nonneg -> Ga, tdiv -> D2, toNat_natCast -> z7
open List renaming all_cons -> u9, all_eq_true -> oi, any_eq_true -> sx, cons_append -> Ll, drop_eq_getElem_cons -> Lt, drop_sublist -> zY, drop_zero -> yy, eq_nil_of_length_eq_zero -> y7, eraseIdx_sublist -> A7, ext_getElem? -> tz, flatMap_cons -> wj, getD_cons_succ -> yZ, getD_eq_getElem?_getD -> LI, getElem?_append_left -> vi, getElem?_append_right -> v6, getElem?_drop -> vl, getElem?_eq_none -> ta, getElem?_set_ne -> ub, getElem?_set_self -> ua, getElem?_take_of_lt -> vj, getElem_eraseIdx -> AS, getElem_inj -> uA, getElem_map -> um, getElem_mem -> e5, getElem_set_ne -> Bs, getElem_set_self -> B2, length_append -> y5, length_cons -> tv, length_eraseIdx_of_lt -> A0, length_take -> Lp, lookup_cons -> hO, mapM_cons -> v7, map_cons -> Ag, map_set -> tw, mem_append -> fo, mem_cons -> gs, mem_iff_getElem -> ul, mem_map -> gg, mem_of_mem_drop -> zy, mem_of_mem_eraseIdx -> A6, mem_of_mem_take -> LA, mem_range -> o0, mem_singleton -> sA, nodup_cons -> g3, pairwise_iff_getElem -> A9, perm_middle -> gq, range -> ov, range' -> s0, range'_succ -> s3, range_eq_range' -> s9, replicate -> zZ, replicate_succ -> z1, set_cons_succ -> y8, take_add_one -> Lo, take_append_drop -> LC, take_append_of_le_length -> yz, take_length -> yY, take_of_length_le -> LO
open Nat renaming add_assoc -> wi, add_comm -> y4, add_mul -> LN, add_mul_div_left -> LD, add_zero -> yh, div_add_mod -> LR, div_div_eq_div_mul -> LH, div_eq_of_lt -> Hi, div_le_self -> F2, div_lt_of_lt_mul -> Hj, div_lt_self -> LM, eq_zero_or_pos -> Aw, le_of_ble_eq_true -> D0, le_refl -> ea, le_trans -> eb, log2_eq_iff -> Lu, lt_of_le_of_lt -> Ft, lt_of_lt_of_le -> ek, lt_or_ge -> cD, min_eq_left -> Lq, min_eq_right -> LS, mod_eq_of_lt -> z2, mod_lt -> z6, mul_add -> Lm, mul_assoc -> Ln, mul_comm -> H1, mul_le_mul_left -> Lz, mul_le_mul_right -> zh, mul_lt_mul_of_pos_left -> LK, mul_mod_left -> LJ, mul_one -> LL, mul_zero -> Ls, one_mul -> LP, or_lt_two_pow -> Gb, pow_add -> Ly, pow_le_pow_right -> Lw, pow_mul -> LB, pow_pos -> LF, pow_succ -> HA, pow_succ' -> Lx, strongRecOn -> g4, sub_self -> ti, succ_mul -> y3, two_pow_pos -> Lv, zero_add -> y9, zero_mul -> y6
open Option renaming isSome_iff_exists -> i3, map_eq_none_iff -> Dw, map_eq_some_iff -> tj, map_none -> z8, map_some -> tq
abbrev Z9:=Option Addr
theorem kD {p : Prop} (h : p := by decide) : p := h
theorem oM {p : Prop} (h : p := by omega) : p := h
theorem kR {p : Prop} (h : p := by kernel_rfl) : p := h
theorem aM {p : Prop} (h : p := by assumption) : p := h
theorem cX {p : Prop} (h : p := by first | assumption | omega) : p := h
theorem sM {p : Prop} (h : p := by first | omega | (simp; done) | (simp; omega)) : p := h
theorem oT {p : Prop} [Decidable p] (h : decide p = true) : p := of_decide_eq_true h
theorem oF {p : Prop} [Decidable p] (h : decide p = false) : ¬p := of_decide_eq_false h
theorem dT {p : Prop} [Decidable p] (h : p) : decide p = true /\ p := ⟨decide_eq_true h, h⟩
theorem dF {p : Prop} [Decidable p] (h : ¬p) : decide p = false /\ ¬p := ⟨decide_eq_false h, h⟩
open Go.RowKit
abbrev pB (b:Nat):Value:=.pointer (some ⟨b,0,none⟩)
abbrev qP (b o:Nat):Value:=.pointer (some ⟨b,o,none⟩)
abbrev qT:Value:=.bool true
abbrev qF:Value:=.bool false
abbrev qS (A:Z9)(n c:Nat):Value:=.slice A n c
abbrev sZ:Value:=.slice none 0 0
abbrev eS:Value:=.string ⟨#[]⟩
abbrev sB (b:Nat):Z9:=some ⟨b,0,none⟩
abbrev iV (n:Int):Value:=.int .i64 n
abbrev uV (n:Int):Value:=.int .u64 n
abbrev a6:List Value:=[qF,uV 0,eS,uV 0,eS]
abbrev a7:List Value:=[iV 0,iV 0,qF,uV 0,eS,uV 0,eS,eS,sZ]
abbrev a8:Value:=.agg #[qF,uV 0,eS,uV 0,eS]
abbrev ca:List Value:=[qF,sZ,sZ]
abbrev cA:List ByteArray:=[⟨#[120]⟩,⟨#[121]⟩,⟨#[122]⟩]
abbrev uW (n:Int):Value:=.int .u32 n
abbrev nV (n:Nat):Value:=.int .i64 (n:Int)
abbrev mV (n:Nat):Value:=.int .u64 (n:Int)
abbrev mW (n:Nat):Value:=.int .u32 (n:Int)
def Ext (w w':World):Prop:=Below w.heap.size w w'
theorem Ext.refl (w:World):Ext w w:=Below.refl _ _
theorem Ext.trans {a b c:World}(h:Ext a b)(k:Ext b c):Ext a c:=Below.trans h (Below.mono k h.size)
theorem Ext.alloc {a w:World}(h:Ext a w)(o:Obj):Ext a (w.alloc o):=Below.alloc h h.size o
theorem Ext.drew {a w:World}(h:Ext a w):Ext a w.drew:=Below.drew h
theorem Ext.size {a w:World}(h:Ext a w):a.heap.size<=w.heap.size:=Below.size h
theorem Ext.cell {a w:World}(h:Ext a w){p:Addr}(c:p.block<a.heap.size):w.cell? p=a.cell? p:=Below.cell h c
theorem Ext.some {a w:World}(h:Ext a w){p:Addr}{v:Value}(c:a.cell? p=.some v):w.cell? p=.some v:=by
 rcases cD p.block a.heap.size with hl|hl
 ·rw[h.cell hl];exact c
 ·unfold World.cell? at c
  rw[dS hl] at c
  cases c
def af (z:Int):Bool:=decide (z<0)
def ab (z:Int):Nat:=z.natAbs
def qd (q:Rat):Nat:=if q.den=1 then 0 else q.den
def bA (neg:Bool)(a:Nat):Int:=if neg then -(a:Int) else a
theorem jN (neg:Bool)(a:Nat):af (bA neg a)=(neg && decide (0<a)):=by cases neg<;>simp[af,bA]<;>omega
theorem fu (neg:Bool)(a:Nat):ab (bA neg a)=a:=by cases neg<;>simp[ab,bA]
theorem m9 (z:Int):bA (af z) (ab z)=z:=by unfold bA af ab;by_cases h:z<0<;>simp[h]<;>omega
theorem lh (z:Int):bA (!af z) (ab z) = -z:=by unfold bA af ab;by_cases h:z<0<;>simp[h]<;>omega
theorem bp {z:Int}(h:af z=true):z<0:=by simpa [af] using h
theorem bc {z:Int}(h:af z=false):0<=z:=by simpa [af] using h
abbrev Hp:=Array Obj
def bg:Obj:=.cells #[] 0 (0,0)
structure G (w:World) (h:Hp):Prop where
  size:w.heap.size=h.size
  blk:∀ b:Nat,h[b]?=w.heap[b]?\/h[b]?=some bg
structure Gr (h h':Hp):Prop where
  size:h.size<=h'.size
  blk:∀ b:Nat,b<h.size->h'[b]?=h[b]?
structure Up (w:World) (h:Hp) (w':World) (h':Hp):Prop where
  ext:Ext w w'
  gr:Gr h h'
  g:G w' h'
theorem Gr.refl (h:Hp):Gr h h:=⟨ea _,fun _ _=>rfl⟩
theorem Gr.trans {a b c:Hp}(h:Gr a b)(k:Gr b c):Gr a c :=
 ⟨eb h.size k.size,fun x d=>(k.blk x (ek d h.size)).trans (h.blk x d)⟩
theorem Gr.push (h:Hp)(o:Obj):Gr h (h.push o) :=
 ⟨by simp,fun b a=>by rw[en a];exact (ep a).symm⟩
theorem Up.refl {w:World}{h:Hp}(g:G w h):Up w h w h:=⟨Ext.refl _,Gr.refl _,g⟩
theorem Up.trans {w w1 w2:World}{h h1 c:Hp}(a:Up w h w1 h1)(b:Up w1 h1 w2 c):Up w h w2 c:=⟨a.ext.trans b.ext,a.gr.trans b.gr,b.g⟩
theorem G.drew {w:World}{h:Hp}(g:G w h):G w.drew h:=⟨g.size,g.blk⟩
theorem Up.drew {w w1:World}{h h1:Hp}(a:Up w h w1 h1):Up w h w1.drew h1:=⟨a.ext.drew,a.gr,a.g.drew⟩
theorem heap_alloc (w:World)(o:Obj):(w.alloc o).heap=w.heap.push o:=rfl
theorem Up.allocAny {w:World}{h:Hp}(g:G w h)(o o':Obj)(a:o'=o\/o'=bg):Up w h (w.alloc o) (h.push o'):=by
 refine ⟨(Ext.refl _).alloc _,Gr.push _ _,⟨by rw[heap_alloc];simp[g.size],fun b=>?_⟩⟩;rw[heap_alloc];have e:=g.size
 rcases Nat.lt_trichotomy b h.size with hb|hb|hb
 ·rw[en hb,en oM]
  have:=g.blk b
  rwa [ep hb,ep oM] at this
 ·subst hb
  rw[er];have:(w.heap.push o)[h.size]?=some o:=by rw[<-e];exact er
  rw[this]
  rcases a with rfl|rfl
  ·exact .inl rfl
  ·exact .inr rfl
 ·left
  rw[dS (by simp;omega),dS (by simp;omega)]
structure Mo (M:List Nat) (w w':World):Prop where
  os:w'.os=w.os
  tape:w'.tape=w.tape
  output:w'.output=w.output
  size:w.heap.size<=w'.heap.size
  blk:∀ b,b<w.heap.size->b ∉ M->w'.heap[b]?=w.heap[b]?
theorem Mo.refl (M:List Nat)(w:World):Mo M w w:=⟨rfl,rfl,rfl,ea _,fun _ _ _=>rfl⟩
theorem Mo.trans {M:List Nat}{a b c:World}(h:Mo M a b)(k:Mo M b c):Mo M a c :=
 ⟨k.os.trans h.os,k.tape.trans h.tape,k.output.trans h.output,eb h.size k.size,fun x d e=>(k.blk x (ek d h.size) e).trans (h.blk x d e)⟩
theorem Ext.mo {a b:World}(h:Ext a b)(M:List Nat):Mo M a b:=⟨h.os,h.tape,h.output,h.size,fun x c _=>Below.block h x c⟩
theorem Mo.ext {a b:World}(h:Mo [] a b):Ext a b:=⟨h.os,h.tape,h.output,h.size,fun x c=>h.blk x c (by simp)⟩
structure UpM (M:List Nat) (w:World) (h:Hp) (w':World) (h':Hp):Prop where
  mo:Mo M w w'
  gr:Gr h h'
  g:G w' h'
theorem Up.m {w w':World}{h a:Hp}(u:Up w h w' a)(M:List Nat):UpM M w h w' a:=⟨u.ext.mo M,u.gr,u.g⟩
theorem UpM.refl {M:List Nat}{w:World}{h:Hp}(g:G w h):UpM M w h w h:=⟨Mo.refl _ _,Gr.refl _,g⟩
theorem UpM.trans {M:List Nat}{w w1 w2:World}{h h1 c:Hp}(a:UpM M w h w1 h1)(b:UpM M w1 h1 w2 c):UpM M w h w2 c:=⟨a.mo.trans b.mo,a.gr.trans b.gr,b.g⟩
structure Ms where
  l:List Nat
  z:Option (Nat × List Nat)
def Tl (M:Ms)(w w':World):Prop:=∀ K bs,M.z=some (K,bs)->w.heap.size<=w'.heap.size/\∀ b,b<K->b ∉ bs->w'.heap[b]?=w.heap[b]?
theorem Tl.refl (M:Ms)(w:World):Tl M w w:=fun _ _ _=>⟨ea _,fun _ _ _=>rfl⟩
def Rl (M:Ms)(k0 i:Nat)(w w':World):Prop:=(i<k0->Mo M.l w w')/\(k0<=i->Tl M w w')
theorem Rl.refl (M:Ms)(k0 i:Nat)(w:World):Rl M k0 i w w:=⟨fun _=>Mo.refl _ _,fun _=>Tl.refl _ _⟩
theorem Rl.mo {M:Ms}{k0 i:Nat}{w w':World}(h:i<k0)(m:Mo M.l w w'):Rl M k0 i w w':=⟨fun _=>m,fun hk=>absurd hk oM⟩
theorem Rl.tl {M:Ms}{k0 i:Nat}{w w':World}(h:k0<=i)(m:Tl M w w'):Rl M k0 i w w':=⟨fun hk=>absurd hk oM,fun _=>m⟩
section region
variable (M:Ms)(P:Program)(ops:Array Oper)(Q:Exit->Act->World->Prop)(k0:Nat)
def ry:Nat->Array Bool->Act->World->Prop
  | 0,L,a,w=>Region.ready .any ops L=[]/\Q .normal a w
  | n + 1,L,a,w=>(Region.ready .any ops L=[]->Q .normal a w) /\
      ∀ i∈Region.ready .any ops L,wpOp P ops Q i (fun a' w'=>Rl M k0 i w w'/\ry n (L.setIfInBounds i true) a' w') a w
theorem lz:∀ (n:Nat) (L:Array Bool) (a:Act) (w:World),ry M P ops Q k0 n L a w->wpAny P .any ops Q n L a w
 | 0,_,_,_,h=>h
 | n+1,_,_,_,h=>⟨h.1,fun i hi=>wpOp_mono (fun a' w' h'=>lz n _ a' w' h'.2) (h.2 i hi)⟩
def rem (L:Array Bool):Nat:=L.toList.count false
def A (L:Array Bool)(a:Act)(w:World):Prop:=ry M P ops Q k0 (rem L) L a w
variable {M P ops Q k0}
theorem H5 {L:Array Bool}{i:Nat}(h:L.getD i true=false):∃ hi:i<L.size,L[i]=false:=by
 rcases cD i L.size with hi|hi
 ·exact ⟨hi,by simpa [e4,hi] using h⟩
 ·simp[e4,Nat.not_lt.2 hi] at h
theorem CU {L:Array Bool}{i:Nat}(h:L.getD i true=false):rem L=rem (L.setIfInBounds i true)+1:=by
 obtain ⟨hi,e⟩:=H5 h
 unfold rem
 rw[Array.toList_setIfInBounds,List.count_set (by simpa using hi)];have a:L.toList[i]'(by simpa using hi)=false:=by simpa using e
 have c:0<L.toList.count false:=List.count_pos_iff.2 (by rw[<-a];exact e5 _);rw[a,if_pos (by rfl),if_neg kD]
 omega
theorem fS {L:Array Bool}{i:Nat}(h:i∈Region.ready .any ops L):rem L=rem (L.setIfInBounds i true)+1:=CU (mem_ready.1 h).1
theorem A.intro {L:Array Bool}{a:Act}{w:World}(h0:Region.ready .any ops L=[]->Q .normal a w)
    (h1:∀ i∈Region.ready .any ops L,wpOp P ops Q i (fun a' w'=>Rl M k0 i w w'/\A M P ops Q k0 (L.setIfInBounds i true) a' w') a w):A M P ops Q k0 L a w:=by
  unfold A
  cases hn:rem L with
  | zero =>
    have hr:Region.ready .any ops L=[]:=by
      cases hr:Region.ready .any ops L with
      | nil=>rfl
      | cons i l =>
        have:=fS (ops:=ops) (L:=L) (i:=i) (by rw[hr];simp)
        omega
    exact ⟨hr,h0 hr⟩
  | succ n =>
    refine ⟨h0,fun i hi=>?_⟩;have e:=fS hi;have c:=h1 i hi
    unfold A at c
    have d:rem (L.setIfInBounds i true)=n:=by omega
    rw[d] at c
    exact c
theorem A.done {L:Array Bool}{a:Act}{w:World}(hr:(Region.ready .any ops L).isEmpty=true)(h:Q .normal a w):A M P ops Q k0 L a w:=by
 have c:Region.ready .any ops L=[]:=by simpa using hr
 exact A.intro (fun _=>h) (fun i hi=>by rw[c] at hi;cases hi)
theorem mM {i:Nat}{D:Oper}{v:Value}{S:World->Prop}(hi:ops[i]?=some D)(B:∀ (j:Nat) (o:Oper) cs b,ops[j]?=some o->o.op≠.select cs b)
    (hQ:∀ c a w,Q (.panic c) (a.put D.dst v) w->Q (.panic c) a w)(J:∀ w w',S w->Mo M.l w w'->S w') :
    ∀ (n:Nat) (L:Array Bool) (a:Act) (w:World),
      (∀ j f,ops[j]?=some f->j≠i->L.getD j true=false->(∀ e∈f.after,Region.binds .any e=true->e.on≠i)->D.apart ops f=true) ->
      ((∀ w,S w)\/(∀ w w',S w->Tl M w w'->S w')\/∀ j f,ops[j]?=some f->k0<=j->j≠i->∃ e∈f.after,Region.binds .any e=true/\e.on=i) ->
      i∈Region.ready .any ops L->YieldsIf P ops S D v a->S w ->
      ry M P ops Q k0 n (L.setIfInBounds i true) (a.put D.dst v) w->(i<k0)->ry M P ops Q k0 (n+1) L a w:=by
  intro n
  induction n with
  | zero =>
    intro L a w _ _ hr O F H _;refine ⟨fun h=>(by rw[h] at hr;cases hr),fun j V=>?_⟩
    by_cases hji:j=i
    . subst hji;exact O.wpOp hi F ⟨Rl.refl _ _ _ _,H⟩
    . have:=ready_mono V hji
      rw[H.1] at this
      cases this
  | succ n ih =>
    intro L a w d p hr O F H hk;refine ⟨fun h=>(by rw[h] at hr;cases hr),fun j V=>?_⟩
    by_cases hji:j=i
    . subst hji;exact O.wpOp hi F ⟨Rl.refl _ _ _ _,H⟩
    . have h1:=H.2 j (ready_mono V hji)
      obtain ⟨z,f,x,I⟩:=mem_ready.1 V
      have C:∀ e∈f.after,Region.binds .any e=true->e.on≠i:=fun e he W heq=>by
        have h1:=I e he W;have h0:=(mem_ready.1 hr).1;rw[heq] at h1
        obtain ⟨u,h0'⟩:=H5 h0
        simp[e4,u,h0'] at h1
      have h2:=wpOp_putIf x (d j f x hji z C) (fun cs b=>B i D cs b hi) (fun cs b=>B j f cs b x) hQ O h1
      have y:∀ k ok,ops[k]?=some ok->k≠i->(L.setIfInBounds j true).getD k true=false ->
          (∀ e∈ok.after,Region.binds .any e=true->e.on≠i)->D.apart ops ok=true:=fun k ok hk Z K X=>by
        refine d k ok hk Z ?_ X
        by_cases hjk:j=k
        . subst hjk;exact z
        . rw[getD_set_ne true hjk] at K;exact K
      have Y:∀ w',Rl M k0 j w w'->S w':=fun w' hx=>by
        rcases p with ht|ht|ht
        . exact ht w'
        . rcases cD j k0 with u|u
          . exact J _ _ F (hx.1 u)
          . exact ht _ _ F (hx.2 u)
        . rcases cD j k0 with u|u
          . exact J _ _ F (hx.1 u)
          . obtain ⟨e,he,W,ho⟩:=ht j f x u hji
            exact absurd ho (C e he W)
      refine wpOp_mono (fun a' w' U=>⟨U.2.1,ih (L.setIfInBounds j true) a' w' y p (ready_mono hr (Ne.symm hji)) U.1 (Y w' U.2.1) ?_ hk⟩) h2;rw[e6 _ _ hji];exact U.2.2
structure Al where
  i:Nat
  t:Nat
  o:Obj
structure AlOk (P:Program) (ops:Array Oper) (k0:Nat) (x:Al):Prop where
  ex:∃ o,ops[x.i]?=some o/\o.dst=some x.t/\o.guard=none/\o.after = #[]/\(∀ (ρ:Operand->Value) (w:World),(execOp ρ o).run P w=.ok (.value (.pointer (some ⟨w.heap.size,0,none⟩))) (w.alloc x.o))
  lt:x.i<k0
abbrev SA:=Al × Nat
def ej (L:Array Bool)(S:List SA):Array Bool:=S.foldr (fun s L=>L.setIfInBounds s.1.i true) L
def addA (a:Act)(S:List SA):Act:=S.foldr (fun s a=>a.put (some s.1.t) (.pointer (some ⟨s.2,0,none⟩))) a
def Blk (h0:Hp)(w:World)(h:Hp)(s:SA):Prop:=w.heap[s.2]?=some s.1.o/\h[s.2]?=some bg/\h0.size<=s.2
theorem Blk.up {h0:Hp}{w w':World}{h f:Hp}{s:SA}(b:Blk h0 w h s)(u:UpM M.l w h w' f)(hM:∀ b∈M.l,b<h0.size):Blk h0 w' f s:=by
 obtain ⟨c,e,i⟩:=b
 have a:s.2<w.heap.size:=by
  rcases cD s.2 w.heap.size with a|a
  ·exact a
  ·rw[dS a] at c;cases c
 have d:s.2<h.size:=by
  rcases cD s.2 h.size with a|a
  ·exact a
  ·rw[dS a] at e;cases e
 exact ⟨(u.mo.blk _ a (fun j=>by have:=hM _ j;omega)).trans c,(u.gr.blk _ d).trans e,i⟩
theorem Blk.lt {h0:Hp}{w:World}{h:Hp}{s:SA}(b:Blk h0 w h s):s.2<w.heap.size:=by
 rcases cD s.2 w.heap.size with hl|hl
 ·exact hl
 ·have:=b.1;rw[dS hl] at this;cases this
variable (M P ops Q k0) in
def E (h0:Hp)(AL:List Al)(L:Array Bool)(a:Act)(w:World)(h:Hp):Prop :=
  ∀ w' h',Up w h w' h'->∀ (S:List SA) (T:List Al),(S.map (·.1)++T).Perm AL->(∀ s∈S,Blk h0 w' h' s)->(S.map (·.2)).Nodup ->
    A M P ops Q k0 (ej L S) (addA a S) w'
theorem l6 (L:Array Bool)(S:List SA)(i:Nat)(hi:∀ s∈S,s.1.i≠i):ej (L.setIfInBounds i true) S=(ej L S).setIfInBounds i true:=by
  induction S with
  | nil=>rfl
  | cons s S ih =>
    have h1:s.1.i≠i:=hi s (by simp)
    show (ej (L.setIfInBounds i true) S).setIfInBounds s.1.i true=((ej L S).setIfInBounds s.1.i true).setIfInBounds i true
    rw[ih (fun t a=>hi t (by simp[a])),e6 _ _ (Ne.symm h1)]
theorem lM (a:Act)(S:List SA)(d:Option Tmp)(v:Value)(c:∀ s∈S,d≠some s.1.t):addA (a.put d v) S=(addA a S).put d v:=by
  induction S with
  | nil=>rfl
  | cons s S ih =>
    have h1:d≠some s.1.t:=c s (by simp)
    show (addA (a.put d v) S).put (some s.1.t) _=((addA a S).put (some s.1.t) _).put d v
    rw[ih (fun t h=>c t (by simp[h]))];exact Act.put_comm _ _ _ (fun x f e=>h1 (f.trans e.symm))
theorem gT {L:Array Bool}{S:List SA}{j:Nat}(h:(ej L S).getD j true=false):L.getD j true=false:=by
  induction S with
  | nil=>exact h
  | cons s S ih =>
    apply ih
    have a:((ej L S).setIfInBounds s.1.i true).getD j true=false:=h
    by_cases e:s.1.i=j
    . subst e
      obtain ⟨d,c⟩:=H5 a
      simp at c
    . rwa [getD_set_ne true e] at a
theorem ja {L:Array Bool}{S:List SA}{j:Nat}(d:Bool)(a:∀ s∈S,s.1.i≠j):(ej L S).getD j d=L.getD j d:=by
  induction S with
  | nil=>rfl
  | cons s S ih =>
    show ((ej L S).setIfInBounds s.1.i true).getD j d=_
    rw[getD_set_ne d (a s (by simp))];exact ih (fun t c=>a t (by simp[c]))
theorem kl {L:Array Bool}{S:List SA}{j:Nat}(h:L.getD j false=true):(ej L S).getD j false=true:=by
 induction S with
 | nil=>exact h
 | cons s S ih=>exact getD_set_true (listed:=ej L S) ih
theorem rQ {L:Array Bool}{S:List SA}{i:Nat}(hi:∀ s∈S,s.1.i≠i)(h:i∈Region.ready .any ops L):i∈Region.ready .any ops (ej L S):=by
 rw[mem_ready] at *
 obtain ⟨h0,o,f,a⟩:=h;exact ⟨by rw[ja true hi];exact h0,o,f,fun e d c=>kl (a e d c)⟩
theorem n5 {o:Oper}(i:∀ cs b,o.op≠.select cs b)(a:Act)(S:List SA)(h:∀ s∈S,s.1.t ∉ o.looksAt ops) :
    execOp (addA a S).eval o=execOp a.eval o/\Region.wanted o (yielded ops (addA a S).tmps)=Region.wanted o (yielded ops a.tmps):=by
  induction S with
  | nil=>exact ⟨rfl,rfl⟩
  | cons s S ih =>
    obtain ⟨i1,e⟩:=ih (fun t f=>h t (by simp[f]));have hn:∀ d,some s.1.t=some d->d ∉ o.looksAt ops:=fun d c=>by injection c with c;subst c;exact h s (by simp)
    exact ⟨(execOp_put (ops:=ops) o i _ _ _ hn).trans i1,(wanted_put (ops:=ops) o _ _ _ hn).trans e⟩
theorem iI {S:List SA}{T AL:List Al}(c:(S.map (·.1)++T).Perm AL){s:SA}(a:s∈S):s.1∈AL :=
 c.mem_iff.1 (fo.2 (.inl (gg.2 ⟨s,a,rfl⟩)))
def OpR (P:Program)(ops:Array Oper)(o:Oper)(a:Act)(w:World)(R:Value->World->Prop):Prop :=
  Region.wanted o (yielded ops a.tmps)=true /\
  ((∃ v w',(execOp a.eval o).run P w=.ok (.value v) w'/\R v w')\/(∃ w',(execOp a.eval o).run P w=.ok .skip w'/\R undef w') \/
   (∃ f args,(execOp a.eval o).run P w=.ok (.enter f args) w/\Calls P f args w (fun e w'=>∃ v,e=.returned v/\R v w')))
theorem OpR.wpOp {i:Nat}{o:Oper}{a:Act}{w:World}{R:Value->World->Prop}{K:Act->World->Prop}(hi:ops[i]?=some o)(h:OpR P ops o a w R)
  (c:∀ v w',R v w'->K (a.put o.dst v) w'):wpOp P ops Q i K a w:=by
 obtain ⟨d,h⟩:=h
 unfold Go.wpOp
 simp only[hi,d,if_true]
 left
 unfold Oper.wp
 rcases h with ⟨v,w',hr,hR⟩|⟨w',hr,hR⟩|⟨f,args,hr,hc⟩
 ·rw[hr];exact c _ _ hR
 ·rw[hr];exact c _ _ hR
 ·rw[hr]
  refine Calls.mono hc fun e w' j=>?_
  obtain ⟨v,rfl,hR⟩:=j;exact c _ _ hR
theorem OpR.addA {o:Oper}{a:Act}{w:World}{R:Value->World->Prop}(h:OpR P ops o a w R)(d:∀ cs b,o.op≠.select cs b)(S:List SA)(f:∀ s∈S,s.1.t ∉ o.looksAt ops) :
  OpR P ops o (addA a S) w R:=by
 obtain ⟨c,e⟩:=n5 (ops:=ops) d a S f
 unfold OpR at *
 rw[c,e];exact h
theorem EA {x:Al}(ok:AlOk P ops k0 x){a:Act}{w:World}{K:Act->World->Prop}(h:K (a.put (some x.t) (.pointer (some ⟨w.heap.size,0,none⟩))) (w.alloc x.o)):wpOp P ops Q x.i K a w:=by
 obtain ⟨o,h1,d,e,_,c⟩:=ok.ex
 unfold Go.wpOp
 simp only[h1]
 rw[if_pos (by simp[Region.wanted,e])]
 left
 unfold Oper.wp
 rw[c]
 show K (a.put o.dst _) _
 rw[d];exact h
theorem qJ {x:Al}(ok:AlOk P ops k0 x){L:Array Bool}(h:L.getD x.i true=false):x.i∈Region.ready .any ops L:=by
 obtain ⟨o,h1,_,_,c,_⟩:=ok.ex;exact mem_ready.2 ⟨h,o,h1,fun e a=>by rw[c] at a;simp at a⟩
theorem oU {h0:Hp}{AL:List Al}{L:Array Bool}{a:Act}{w':World}{e:Hp}{S:List SA}{T:List Al}{x:Al}
  (h:∀ x∈AL,AlOk P ops k0 x)(hM:∀ b∈M.l,b<h0.size)(g:G w' e)(j:h0.size<=e.size)(z:(S.map (·.1)++T).Perm AL)(p:∀ s∈S,Blk h0 w' e s)(hn:(S.map (·.2)).Nodup)(y:x∈T)
  (C:∀ (w1:World) (h1:Hp) (S1:List SA) (d:List Al),Up w' e w1 h1->(S1.map (·.1)++d).Perm AL->(∀ s∈S1,Blk h0 w1 h1 s)->(S1.map (·.2)).Nodup->d.length<T.length->A M P ops Q k0 (ej L S1) (addA a S1) w1) :
  wpOp P ops Q x.i (fun F w1=>Rl M k0 x.i w' w1/\A M P ops Q k0 ((ej L S).setIfInBounds x.i true) F w1) (addA a S) w':=by
 have c:x∈AL:=z.mem_iff.1 (fo.2 (.inr y))
 obtain ⟨d,hT⟩:∃ d,T.Perm (x::d):=by
  obtain ⟨B,l2,rfl⟩:=List.append_of_mem y;exact ⟨B++l2,gq⟩
 have u:Up w' e (w'.alloc x.o) (e.push bg):=Up.allocAny g _ _ (.inr rfl);refine EA (h x c) ⟨Rl.mo (h x c).lt (u.m M.l).mo,?_⟩;refine C (w'.alloc x.o) (e.push bg) ((x,w'.heap.size)::S) d u ?_ ?_ ?_ ?_
 ·refine List.Perm.trans ?_ z
  show (x::(S.map (·.1)++d)).Perm _
  refine List.Perm.trans gq.symm ?_;exact List.Perm.append_left _ hT.symm
 ·intro s f
  rcases gs.1 f with rfl|f
  ·refine ⟨?_,?_,?_⟩
   ·rw[heap_alloc];exact er
   ·rw[g.size];exact er
   ·show h0.size<=w'.heap.size;rw[g.size];exact j
  ·exact (p s f).up (u.m M.l) hM
 ·show (w'.heap.size::S.map (·.2)).Nodup
  refine g3.2 ⟨fun D=>?_,hn⟩;obtain ⟨s,f,H⟩:=gg.1 D;have:=(p s f).lt
  omega
 ·have:=hT.length_eq
  simp at this
  omega
theorem iL {AL:List Al}{L:Array Bool}{S:List SA}{T:List Al}{x:Al}(f:(S.map (·.1)++T).Perm AL)(h:x∈AL)(hr:x.i∈Region.ready .any ops (ej L S)):x∈T:=by
  rcases fo.1 (f.mem_iff.2 h) with hm|hm
  . obtain ⟨s,d,a⟩:=gg.1 hm
    have h1:=(mem_ready.1 hr).1
    exfalso
    rw[<-a] at h1
    clear hr f hm a
    induction S with
    | nil=>cases d
    | cons t S ih =>
      have c:((ej L S).setIfInBounds t.1.i true).getD s.1.i true=false:=h1
      by_cases e:t.1.i=s.1.i
      . rw[e] at c
        obtain ⟨j,a⟩:=H5 c
        simp at a
      . rw[getD_set_ne true e] at c
        rcases gs.1 d with rfl|hs'
        . exact e rfl
        . exact ih hs' c
  . exact hm
end region
section laws
variable {M:Ms}{P:Program}{ops:Array Oper}{Q:Exit->Act->World->Prop}{k0:Nat}
theorem vL (L:Array Bool)(S:List SA):(ej L S).size=L.size:=by
 induction S with
 | nil=>rfl
 | cons s S ih=>show ((ej L S).setIfInBounds s.1.i true).size=_;simp[ih]
theorem E.take0 {h0:Hp}{AL:List Al}{L:Array Bool}{a:Act}{w:World}{h:Hp}{i:Nat}{o:Oper}{v:Value}{S:World->Prop}
  (hi:ops[i]?=some o)(hk:i<k0)(p:Region.noSelect ops=true)(hf:Region.free .any ops L i=true)(hr:i∈Region.ready .any ops L)
  (I:∀ x∈AL,x.i≠i/\x.t ∉ o.looksAt ops/\o.dst≠some x.t)(hQ:∀ c a w,¬Q (.panic c) a w)
  (D:∀ w w',S w->Mo M.l w w'->S w')(Z:∀ w',Mo M.l w w'->S w')(U:YieldsIf P ops S o v a)
  (y:(∀ w,S w)\/(∀ w w',S w->Tl M w w'->S w')\/∀ j C,ops[j]?=some C->k0<=j->j≠i->∃ e∈C.after,Region.binds .any e=true/\e.on=i)
  (H:E M P ops Q k0 h0 AL (L.setIfInBounds i true) (a.put o.dst v) w h):E M P ops Q k0 h0 AL L a w h:=by
 intro w' W u z T O V hn;have d:∀ s∈z,s.1.i≠i/\s.1.t ∉ o.looksAt ops/\o.dst≠some s.1.t:=fun s f=>I _ (iI O f)
 have K:=H w' W u z T O V hn;rw[l6 L z i (fun s f=>(d s f).1),lM a z o.dst v (fun s f=>(d s f).2.2)] at K
 have B:=rQ (fun s f=>(d s f).1) hr;obtain ⟨e1,Y⟩:=n5 (ops:=ops) (Region.noSelect_spec p i o · · hi) a z (fun s f=>(d s f).2.1)
 unfold A at *
 rw[fS B]
 exact mM hi (Region.noSelect_spec p) (fun c a w X=>absurd X (hQ _ _ _)) D _ _ _ _
  (fun j C hj J F=>Region.free_spec hi hf j C hj J (gT F)) y B (U.of_same e1 Y) (Z _ (u.m M.l).mo) K hk
theorem E.event0 {h0:Hp}{AL:List Al}{L:Array Bool}{a:Act}{w:World}{h:Hp}{i:Nat}{o:Oper}
    (hi:ops[i]?=some o)(hk:i<k0)(K:Region.noSelect ops=true)(hL:L.size=ops.size)(hun:L.getD i true=false)
    (W:∀ j Y,ops[j]?=some Y->L.getD j true=false->j≠i->(∀ x∈AL,x.i≠j)->∃ e∈Y.after,Region.binds .any e=true/\L.getD e.on false=false/\∀ x∈AL,x.i≠e.on)
    (I:∀ e∈o.after,Region.binds .any e=true->L.getD e.on false=true\/∃ x∈AL,x.i=e.on)
    (hal:∀ x∈AL,x.i≠i/\x.t ∉ o.looksAt ops/\o.dst≠some x.t)(B:∀ x∈AL,AlOk P ops k0 x)(hM:∀ b∈M.l,b<h0.size)(g:G w h)(hsz:h0.size<=h.size)
    (H:∀ w' p,Up w h w' p->OpR P ops o a w' (fun v y=>∃ z,UpM M.l w' p y z/\E M P ops Q k0 h0 AL (L.setIfInBounds i true) (a.put o.dst v) y z)):E M P ops Q k0 h0 AL L a w h:=by
  have key:∀ (m:Nat) (T:List Al),T.length=m->∀ w' p,Up w h w' p->∀ (S:List SA),(S.map (·.1)++T).Perm AL->(∀ s∈S,Blk h0 w' p s)->(S.map (·.2)).Nodup ->
      A M P ops Q k0 (ej L S) (addA a S) w':=by
    intro m
    induction m using g4 with
    | _ m ih =>
      intro T hT w' p u S D X hn;have f:∀ s∈S,s.1.i≠i/\s.1.t ∉ o.looksAt ops/\o.dst≠some s.1.t:=fun s c=>hal _ (iI D c)
      refine A.intro (fun V=>?_) (fun j hj=>?_)
      . exfalso
        by_cases hd:∃ e∈o.after,Region.binds .any e=true/\(ej L S).getD e.on false=false
        . obtain ⟨e,C,d,hf⟩:=hd
          rcases I e C d with h1|⟨x,F,hxe⟩
          . rw[kl h1] at hf;cases hf
          . have O:x.i<(ej L S).size:=by
              obtain ⟨o',ho',_⟩:=(B x F).ex;rw[vL,hL];exact (hC.1 ho').1
            have:x.i∈Region.ready .any ops (ej L S):=qJ (B x F) (by rw[<-hxe] at hf;simp[e4,O] at hf ⊢;exact hf);rw[V] at this
            cases this
        . have:i∈Region.ready .any ops (ej L S):=mem_ready.2 ⟨by rw[ja true (fun s c=>(f s c).1)];exact hun,o,hi,fun e C d=>by
            cases hv:(ej L S).getD e.on false
            . exact absurd ⟨e,C,d,hv⟩ hd
            . rfl⟩
          rw[V] at this
          cases this
      . by_cases hji:j=i
        . subst hji
          refine OpR.wpOp hi ((H w' p u).addA (Region.noSelect_spec K j o · · hi) S (fun s c=>(f s c).2.1)) ?_;rintro v y ⟨z,Z,H2⟩;refine ⟨Rl.mo hk Z.mo,?_⟩;rw[<-l6 L S j (fun s c=>(f s c).1),<-lM a S o.dst v (fun s c=>(f s c).2.2)];exact H2 y z (Up.refl Z.g) S T D (fun s c=>(X s c).up Z hM) hn
        . obtain ⟨J,Y,hoj,U⟩:=mem_ready.1 hj
          have F:∃ x∈AL,x.i=j:=by
            refine Classical.byContradiction fun hno=>?_
            obtain ⟨e,C,d,hf,hne⟩:=W j Y hoj (gT J) hji (fun x F C=>hno ⟨x,F,C⟩);have:=U e C d;rw[ja false (fun s c=>hne _ (iI D c)),hf] at this
            cases this
          obtain ⟨x,hxA,rfl⟩:=F;have hxT:=iL D hxA hj;exact oU B hM u.g (eb hsz u.gr.size) D X hn hxT (fun w1 h1 S1 T1 u1 hp1 hb1 hn1 O=>ih T1.length oM T1 rfl w1 h1 (u.trans u1) S1 hp1 hb1 hn1)
  exact fun w' p u S T D X hn=>key _ T rfl w' p u S D X hn
theorem E.fin0 {h0:Hp}{AL:List Al}{L:Array Bool}{a:Act}{w:World}{h:Hp}(hL:L.size=ops.size)
    (V:∀ j F,ops[j]?=some F->L.getD j true=false->(∃ x∈AL,x.i=j)\/∀ x∈AL,∃ e∈F.after,Region.binds .any e=true/\e.on=x.i)
    (B:∀ x∈AL,L.getD x.i true=false)(C:∀ x∈AL,AlOk P ops k0 x)(hM:∀ b∈M.l,b<h0.size)(Z:h0.size<=h.size)(X:(AL.map (·.i)).Nodup)
    (H:∀ w' c,Up w h w' c->∀ S:List SA,(S.map (·.1)).Perm AL->(∀ s∈S,Blk h0 w' c s)->(S.map (·.2)).Nodup->A M P ops Q k0 (ej L S) (addA a S) w'):E M P ops Q k0 h0 AL L a w h:=by
  have key:∀ (m:Nat) (T:List Al),T.length=m->∀ w' c,Up w h w' c->∀ (S:List SA),(S.map (·.1)++T).Perm AL->(∀ s∈S,Blk h0 w' c s)->(S.map (·.2)).Nodup ->
      A M P ops Q k0 (ej L S) (addA a S) w':=by
    intro m
    induction m using g4 with
    | _ m ih =>
      intro T hT w' c u S p D hn;cases T with
      | nil=>exact H w' c u S (by simpa using p) D hn
      | cons t T' =>
        have o:t∈AL:=p.mem_iff.1 (fo.2 (.inr (by simp)));have d:((S.map (·.1)++t::T').map (·.i)).Nodup:=(p.map (·.i)).nodup_iff.2 X
        have O:∀ s∈S,s.1.i≠t.i:=fun s hs he=>by
          rw[List.map_append,List.nodup_append] at d
          exact d.2.2 s.1.i (gg.2 ⟨s.1,gg.2 ⟨s,hs,rfl⟩,rfl⟩) t.i (gg.2 ⟨t,by simp,rfl⟩) he
        have f:t.i∈Region.ready .any ops (ej L S):=qJ (C t o) (by rw[ja true O];exact B t o);refine A.intro (fun h0'=>by rw[h0'] at f;cases f) (fun j hj=>?_);obtain ⟨y,F,J,z⟩:=mem_ready.1 hj
        rcases V j F J (gT y) with ⟨x,hxA,rfl⟩|hw
        . have I:=iL p hxA hj
          exact oU C hM u.g (eb Z u.gr.size) p D hn I (fun w1 h1 S1 T1 u1 U K W hlt=>ih T1.length oM T1 rfl w1 h1 (u.trans u1) S1 U K W)
        . obtain ⟨e,he,Y,hon⟩:=hw t o
          have:=z e he Y;rw[hon] at this
          obtain ⟨hl,hv⟩:=H5 (mem_ready.1 f).1
          simp[e4,hl,hv] at this
  exact fun w' c u S T p D hn=>key _ T rfl w' c u S p D hn
end laws
abbrev cl:=List (Nat × Value)
def gl (Γ:cl):List Deferred:=match Γ.lookup 1000000 with|some (.int _ D)=>[{ target:=.collected D.toNat,args:=#[] }]|_=>[]
structure Kn (n:Nat) (a:Act) (Γ:cl):Prop where
  df:a.defers=gl Γ
  sz:a.tmps.size=n
  nb:n<=1000000
  has:∀ t v,t≠1000000->Γ.lookup t=some v->a.tmps[t]?=some v
def ev (Γ:cl):Operand->Value
  | .tmp t=>(Γ.lookup t).getD undef
  | .const v=>v
  | .global g=>.pointer (some ⟨g,0,none⟩)
  | .func f=>.func (.func f) #[] #[]
def am (ops:Array Oper)(i:Nat):Oper:=ops.getD i default
def iC (Γ:cl):Operand->Bool
  | .tmp t=>t != 1000000 && (Γ.lookup t).isSome
  | _=>true
def aY (Γ:cl)(o:Oper):Bool:=o.op.operands.all (iC Γ)
def bh (ops:Array Oper)(Γ:cl)(o:Oper):Option Bool :=
  match o.guard with
  | none=>some true
  | some (g,want)=>match ((ops[g]?).bind (·.dst)).bind (fun t=>if t=1000000 then none else Γ.lookup t) with
    | some (.bool b)=>some (b == want)
    | some (.tuple _)=>some false
    | _=>none
theorem Kn.put {n:Nat}{a:Act}{Γ:cl}(k:Kn n a Γ){t:Nat}(f:t<n)(v:Value):Kn n (a.put (some t) v) ((t,v)::Γ):=by
 have h:=k.nb;refine ⟨?_,by simpa [Act.put] using k.sz,k.nb,fun s u i c=>?_⟩
 ·have e:((1000000:Nat) == t)=false:=by simp;omega
  show a.defers=_
  rw[k.df];unfold gl;rw[hO,e]
 rw[hO] at c
 by_cases e:s=t
 ·subst e
  simp at c
  subst c
  simp[Act.put,k.sz,f]
 ·have d:(s == t)=false:=by simp[e]
  rw[d] at c
  simp only[Act.put]
  rw[hP (Ne.symm e)];exact k.has s u i c
theorem Kn.eval {n:Nat}{a:Act}{Γ:cl}(k:Kn n a Γ){x:Operand}(c:iC Γ x=true):a.eval x=ev Γ x:=by
  cases x with
  | tmp t =>
    have c:(t != 1000000 && (Γ.lookup t).isSome)=true:=c;rw[i2] at c
    obtain ⟨v,hv⟩:=i3.1 c.2;have:=k.has t v (by simpa using c.1) hv
    simp[Act.eval,ev,hv,this]
  | _=>rfl
theorem Kn.exec {n:Nat}{a:Act}{Γ:cl}(k:Kn n a Γ){o:Oper}(d:∀ cs b,o.op≠.select cs b)(hk:aY Γ o=true):execOp a.eval o=execOp (ev Γ) o :=
 execOp_congr o d (fun x c=>k.eval ((la.1 hk) x c))
theorem Kn.want {n:Nat}{a:Act}{Γ:cl}(k:Kn n a Γ){ops:Array Oper}{o:Oper}{b:Bool}(h:bh ops Γ o=some b):Region.wanted o (yielded ops a.tmps)=b:=by
  unfold bh at h
  unfold Region.wanted
  split at h
  . rename_i d;simp only[d];simpa using h
  . rename_i g want d
    simp only[d]
    cases c:(ops[g]?).bind (·.dst) with
    | none=>rw[c] at h;simp at h
    | some t =>
      rw[c] at h
      simp only[Option.bind_some] at h
      by_cases ht0:t=1000000
      . rw[if_pos ht0] at h;simp at h
      rw[if_neg ht0] at h
      cases hv:Γ.lookup t with
      | none=>rw[hv] at h;simp at h
      | some u =>
        rw[hv] at h
        have e:=k.has t u ht0 hv;cases u with
        | bool x=>simp at h;subst h;simp[yielded,c,e]
        | tuple x=>simp at h;subst h;simp[yielded,c,e]
        | _=>simp at h
theorem Kn.mono {n:Nat}{a:Act}{Γ Γ':cl}(k:Kn n a Γ)(h:∀ t v,Γ'.lookup t=some v->Γ.lookup t=some v)(d:gl Γ'=gl Γ):Kn n a Γ':=⟨k.df.trans d.symm,k.sz,k.nb,fun t v c hv=>k.has t v c (h t v hv)⟩
def jU (Γ:cl):List Nat->cl
  | []=>[]
  | t::ts=>match Γ.lookup t with|some v=>(t,v)::jU Γ ts|none=>jU Γ ts
theorem fP (Γ:cl):∀ (ts:List Nat) (t:Nat) (v:Value),(jU Γ ts).lookup t=some v->Γ.lookup t=some v
  | [],_,_,h=>by simp[jU] at h
  | s :: ts,t,v,h=>by
    unfold jU at h
    split at h
    . rename_i u c
      rw[hO] at h
      by_cases e:t=s
      . subst e;simp at h;subst h;exact c
      . have a:(t == s)=false:=by simp[e]
        rw[a] at h
        exact fP Γ ts t v h
    . exact fP Γ ts t v h
abbrev Po:=Act->World->Prop
def iP (N R:Po)(X:Nat->Po):Exit->Act->World->Prop
  | .normal,a,w=>N a w
  | .ret,a,w=>R a w
  | .exit i,a,w=>X i a w
  | _,_,_=>False
def CG (P:Program)(n:Nat)(N R:Po)(X:Nat->Po)(c:Code)(Γ:cl)(w:World):Prop:=∀ a,Kn n a Γ->c.wp P (iP N R X) a w
def EG (M:Ms)(P:Program)(n:Nat)(N R:Po)(X:Nat->Po)(ops:Array Oper)(k0:Nat)(h0:Hp)(AL:List Al)(L:Array Bool)(Γ:cl)(w:World)(h:Hp):Prop :=
  (∀ x∈AL,AlOk P ops k0 x)->(∀ b∈M.l,b<h0.size)->G w h->h0.size<=h.size->∀ a,Kn n a Γ->E M P ops (iP N R X) k0 h0 AL L a w h
def AG (M:Ms)(P:Program)(n:Nat)(N R:Po)(X:Nat->Po)(ops:Array Oper)(k0:Nat)(L:Array Bool)(Γ:cl)(w:World):Prop :=
  ∀ a,Kn n a Γ->A M P ops (iP N R X) k0 L a w
section steps
variable {M:Ms}{P:Program}{n:Nat}{N R:Po}{X:Nat->Po}{ops:Array Oper}{k0:Nat}{h0:Hp}{AL:List Al}{L:Array Bool}{Γ:cl}{w:World}{h:Hp}
def tO (ops:Array Oper)(AL:List Al)(i:Nat)(o:Oper):Bool:=AL.all fun x=>x.i != i && !(o.looksAt ops).contains x.t && o.dst != some x.t
theorem jr {i:Nat}{o:Oper}(c:tO ops AL i o=true):∀ x∈AL,x.i≠i/\x.t ∉ o.looksAt ops/\o.dst≠some x.t:=by
 intro x a;have:=(oi.1 c) x a
 simp only[i2,bne_iff_ne,ne_eq,Bool.not_eq_true',List.contains_eq_mem,decide_eq_false_iff_not] at this
 exact ⟨this.1.1,this.1.2,this.2⟩
def dY (n:Nat)(ops:Array Oper)(k0:Nat)(AL:List Al)(L:Array Bool)(i t:Nat):Bool :=
  let o:=am ops i
  decide (i<ops.size) && decide (i<k0) && Region.noSelect ops && Region.free .any ops L i && (Region.ready .any ops L).contains i && tO ops AL i o && (o.dst == some t) && decide (t<n)
structure TakeOk (n:Nat) (ops:Array Oper) (k0:Nat) (AL:List Al) (L:Array Bool) (i t:Nat):Prop where
  get:ops[i]?=some (am ops i)
  lt:i<k0
  sel:Region.noSelect ops=true
  free:Region.free .any ops L i=true
  ready:i∈Region.ready .any ops L
  al:∀ x∈AL,x.i≠i/\x.t ∉ (am ops i).looksAt ops/\(am ops i).dst≠some x.t
  dst:(am ops i).dst=some t
  tn:t<n
theorem bG {i:Nat}(h:i<ops.size):ops[i]?=some (am ops i):=by
 unfold am;simp[h]
theorem dX {i t:Nat}(h:dY n ops k0 AL L i t=true):TakeOk n ops k0 AL L i t:=by
 unfold dY at h
 simp only[i2,decide_eq_true_eq,beq_iff_eq] at h
 obtain ⟨⟨⟨⟨⟨⟨⟨h1,d⟩,f⟩,l⟩,c⟩,e⟩,j⟩,a⟩:=h;exact ⟨bG h1,d,f,l,by simpa using c,jr e,j,a⟩
theorem Rg.pure (i t:Nat)(v:Value)(d:(dY n ops k0 AL L i t && aY Γ (am ops i))=true)(p:bh ops Γ (am ops i)=some true)
  (hr:∀ w,(execOp (ev Γ) (am ops i)).run P w=.ok (.value v) w)
  (k:EG M P n N R X ops k0 h0 AL (L.setIfInBounds i true) ((t,v)::Γ) w h):EG M P n N R X ops k0 h0 AL L Γ w h:=by
 rw[i2] at d
 obtain ⟨d,j⟩:=d;have c:=dX d;intro l hM g e a f;have o:=f.exec (Region.noSelect_spec c.sel i _ · · c.get) j;refine E.take0 (v:=v) (S:=fun _=>True) c.get c.lt c.sel c.free c.ready c.al (fun _ _ _ u=>u) (fun _ _ _ _=>trivial) (fun _ _=>trivial) (.inl ⟨f.want p,fun w _=>by rw[o];exact hr w⟩) (.inl fun _=>trivial) ?_;rw[c.dst];exact k l hM g e _ (f.put c.tn v)
theorem Rg.skip (i t:Nat)(l:dY n ops k0 AL L i t=true)(j:bh ops Γ (am ops i)=some false)
  (k:EG M P n N R X ops k0 h0 AL (L.setIfInBounds i true) ((t,undef)::Γ) w h):EG M P n N R X ops k0 h0 AL L Γ w h:=by
 have c:=dX l;intro e hM g d a f;refine E.take0 (v:=undef) (S:=fun _=>True) c.get c.lt c.sel c.free c.ready c.al (fun _ _ _ o=>o) (fun _ _ _ _=>trivial) (fun _ _=>trivial) (.inr ⟨f.want j,rfl⟩) (.inl fun _=>trivial) ?_;rw[c.dst];exact k e hM g d _ (f.put c.tn undef)
def i8 (ops:Array Oper)(k0 i:Nat):Bool:=(ov ops.size).all fun j=>decide (j<k0) || (am ops j).after.any fun e=>Region.binds .any e && e.on == i
theorem jJ {i:Nat}(h:i8 ops k0 i=true):∀ j c,ops[j]?=some c->k0<=j->j≠i->∃ e∈c.after,Region.binds .any e=true/\e.on=i:=by
 intro j c d hk _;have a:=(hC.1 d).1;have e:c=am ops j:=by have:=bG (ops:=ops) a;rw[d] at this;injection this
 have:=(oi.1 h) j (o0.2 a)
 simp only[o2,decide_eq_true_eq,pa,i2,beq_iff_eq] at this
 rcases this with h1|⟨x,hx,h2⟩
 ·omega
 ·rw[e];exact ⟨_,po hx,h2⟩
theorem Rg.load (i t:Nat)(v:Value)(d:(dY n ops k0 AL L i t && aY Γ (am ops i) && i8 ops k0 i)=true)(y:bh ops Γ (am ops i)=some true)
  (hr:∀ w',Mo M.l w w'->(execOp (ev Γ) (am ops i)).run P w'=.ok (.value v) w')
  (k:EG M P n N R X ops k0 h0 AL (L.setIfInBounds i true) ((t,v)::Γ) w h):EG M P n N R X ops k0 h0 AL L Γ w h:=by
 rw[i2,i2] at d
 obtain ⟨⟨d,u⟩,p⟩:=d;have c:=dX d;intro f hM g j a e;have B:=e.exec (Region.noSelect_spec c.sel i _ · · c.get) u;refine E.take0 (v:=v) (S:=fun w'=>Mo M.l w w') c.get c.lt c.sel c.free c.ready c.al (fun _ _ _ z=>z) (fun _ _ h1 x=>h1.trans x) (fun _ o=>o) (.inl ⟨e.want y,fun w' o=>by rw[B];exact hr w' o⟩) (.inr (.inr (jJ p))) ?_;rw[c.dst];exact k f hM g j _ (e.put c.tn v)
theorem Rg.loadZ (i t:Nat)(v:Value){bs:List Nat}(hz:M.z=some (h0.size,bs))(j:(dY n ops k0 AL L i t && aY Γ (am ops i))=true)(y:bh ops Γ (am ops i)=some true)
  (hr:∀ w',(∀ b,b<h0.size->b ∉ bs->b ∉ M.l->w'.heap[b]?=w.heap[b]?)->(execOp (ev Γ) (am ops i)).run P w'=.ok (.value v) w')
  (k:EG M P n N R X ops k0 h0 AL (L.setIfInBounds i true) ((t,v)::Γ) w h):EG M P n N R X ops k0 h0 AL L Γ w h:=by
 rw[i2] at j
 obtain ⟨j,u⟩:=j;have c:=dX j;intro p hM g f a o;have x:h0.size<=w.heap.size:=by rw[g.size];exact f
 have C:=o.exec (Region.noSelect_spec c.sel i _ · · c.get) u;refine E.take0 (v:=v) (S:=fun w'=>h0.size<=w'.heap.size/\∀ b,b<h0.size->b ∉ bs->b ∉ M.l->w'.heap[b]?=w.heap[b]?) c.get c.lt c.sel c.free c.ready c.al (fun _ _ _ B=>B) ?_ ?_ (.inl ⟨o.want y,fun w' D=>by rw[C];exact hr w' D.2⟩) (.inr (.inl ?_)) ?_
 ·intro w1 w2 s m
  exact ⟨eb s.1 m.size,fun b d h1 e=>(m.blk b (ek d s.1) e).trans (s.2 b d h1 e)⟩
 ·intro w' m
  exact ⟨eb x m.size,fun b d h1 e=>m.blk b (ek d x) e⟩
 ·intro w1 w2 s m
  have:=m h0.size bs hz;exact ⟨eb s.1 this.1,fun b d h1 e=>(this.2 b d h1).trans (s.2 b d h1 e)⟩
 ·rw[c.dst]
  exact k p hM g f _ (o.put c.tn v)
def n0 (n:Nat)(ops:Array Oper)(k0:Nat)(AL:List Al)(L:Array Bool)(i t:Nat):Bool :=
  let o:=am ops i
  decide (i<ops.size) && decide (i<k0) && Region.noSelect ops && (L.size == ops.size) && (L.getD i true == false) &&
  ((ov ops.size).all fun j=>L.getD j true || j == i || AL.any (·.i == j) || (am ops j).after.any fun e=>Region.binds .any e && (L.getD e.on false == false) && AL.all (·.i != e.on)) &&
  (o.after.all fun e=>!Region.binds .any e || L.getD e.on false || AL.any (·.i == e.on)) &&
  tO ops AL i o && (o.dst == some t) && decide (t<n)
theorem Rg.event (i t:Nat)(C:(n0 n ops k0 AL L i t && aY Γ (am ops i))=true)(hw:bh ops Γ (am ops i)=some true)
  (H:∀ w' D,Up w h w' D ->
   (∃ v c d,(execOp (ev Γ) (am ops i)).run P w'=.ok (.value v) c/\UpM M.l w' D c d/\EG M P n N R X ops k0 h0 AL (L.setIfInBounds i true) ((t,v)::Γ) c d) \/
   (∃ f args,(execOp (ev Γ) (am ops i)).run P w'=.ok (.enter f args) w'/\Calls P f args w' (fun e c=>∃ v d,e=.returned v/\UpM M.l w' D c d/\EG M P n N R X ops k0 h0 AL (L.setIfInBounds i true) ((t,v)::Γ) c d))) :
  EG M P n N R X ops k0 h0 AL L Γ w h:=by
 rw[i2] at C
 obtain ⟨C,W⟩:=C
 unfold n0 at C
 simp only[i2,decide_eq_true_eq,beq_iff_eq] at C
 obtain ⟨⟨⟨⟨⟨⟨⟨⟨⟨h1,h2⟩,Y⟩,h4⟩,h5⟩,h6⟩,h7⟩,h8⟩,Z⟩,F⟩:=C;have o:=bG (ops:=ops) h1;intro B hM g I a K;have e1:=K.exec (Region.noSelect_spec Y i _ · · o) W;refine E.event0 o h2 Y h4 h5 ?_ ?_ (jr h8) B hM g I ?_
 ·intro j oj hj Q U S
  have J:=(hC.1 hj).1;have e:oj=am ops j:=by have:=bG (ops:=ops) J;rw[hj] at this;injection this
  have:=(oi.1 h6) j (o0.2 J)
  simp only[o2,Q,ri,false_or,beq_iff_eq,U,sx,pa,i2] at this
  rcases this with ⟨x,hx,hxe⟩|⟨x,hx,⟨O,hL⟩,hno⟩
  ·exact absurd hxe (S x hx)
  ·rw[e]
   refine ⟨_,po hx,O,hL,fun y hy=>?_⟩;have:=(oi.1 hno) y hy
   simpa using this
 ·intro e V O
  have:=(la.1 h7) e V
  simp only[o2,O,sy,ri,false_or,sx,beq_iff_eq] at this
  exact this
 ·intro w' D u
  refine ⟨K.want hw,?_⟩;rw[e1];have p:=eb I u.gr.size
  rcases H w' D u with ⟨v,c,d,hr,z,k⟩|⟨f,args,hr,hcall⟩
  ·exact .inl ⟨v,c,hr,d,z,by rw[Z];exact k B hM z.g (eb p z.gr.size) _ (K.put F v)⟩
  ·exact .inr (.inr ⟨f,args,hr,hcall.mono fun e c ⟨v,d,V,z,k⟩=>⟨v,V,d,z,by rw[Z];exact k B hM z.g (eb p z.gr.size) _ (K.put F v)⟩⟩)
theorem Rg.call (i t f:Nat)(args:Array Value)(d:(n0 n ops k0 AL L i t && aY Γ (am ops i))=true)(c:bh ops Γ (am ops i)=some true)
 (hr:∀ w',(execOp (ev Γ) (am ops i)).run P w'=.ok (.enter f args) w')
 (H:∀ w' a,Up w h w' a->Calls P f args w' (fun e w''=>∃ v h'',e=.returned v/\UpM M.l w' a w'' h''/\EG M P n N R X ops k0 h0 AL (L.setIfInBounds i true) ((t,v)::Γ) w'' h'')) :
 EG M P n N R X ops k0 h0 AL L Γ w h:=Rg.event i t d c (fun w' a u=>.inr ⟨f,args,hr w',H w' a u⟩)
def gI (ops:Array Oper)(AL:List Al)(L:Array Bool):Bool :=
  (L.size == ops.size) && ((ov ops.size).all fun j=>L.getD j true || AL.any (·.i == j) || AL.all fun x=>(am ops j).after.any fun e=>Region.binds .any e && e.on == x.i) && AL.all (fun x=>L.getD x.i true == false)
theorem Rg.fin (f:gI ops AL L=true)(l:(AL.map (·.i)).Nodup)
  (H:∀ a,Kn n a Γ->∀ w' h',Up w h w' h'->∀ S:List SA,(S.map (·.1)).Perm AL->(∀ s∈S,Blk h0 w' h' s)->(S.map (·.2)).Nodup->A M P ops (iP N R X) k0 (ej L S) (addA a S) w') :
  EG M P n N R X ops k0 h0 AL L Γ w h:=by
 unfold gI at f
 simp only[i2,beq_iff_eq] at f
 obtain ⟨⟨h1,F⟩,D⟩:=f;intro o hM _ p a J;refine E.fin0 h1 ?_ ?_ o hM p l (H a J)
 ·intro j I z d
  have c:=(hC.1 z).1;have e:I=am ops j:=by have:=bG (ops:=ops) c;rw[z] at this;injection this
  have:=(oi.1 F) j (o0.2 c)
  simp only[o2,d,ri,false_or,sx,beq_iff_eq] at this
  rcases this with h4|h4
  ·exact .inl h4
  ·refine .inr fun x u=>?_
   have:=(oi.1 h4) x u
   simp only[pa,i2,beq_iff_eq] at this
   obtain ⟨y,B,C⟩:=this;rw[e];exact ⟨_,po B,C⟩
 ·intro x u
  have:=(oi.1 D) x u
  simpa using this
theorem Rg.fin0 (e:gI ops [] L=true)(H:∀ w' c,Up w h w' c->AG M P n N R X ops k0 L Γ w'):EG M P n N R X ops k0 h0 [] L Γ w h:=by
 refine Rg.fin e (by simp) ?_;intro a d w' c u S f _ _;have:S=[]:=by simpa using f.length_eq
 subst this;exact H w' c u a d
theorem Rg.fin1 {x:Al}(d:(gI ops [x] L && decide (x.t<n))=true) 
    (H:∀ w' c b,Up w h w' c->Blk h0 w' c (x,b)->AG M P n N R X ops k0 (L.setIfInBounds x.i true) ((x.t,.pointer (some ⟨b,0,none⟩))::Γ) w'):EG M P n N R X ops k0 h0 [x] L Γ w h:=by
  rw[i2,decide_eq_true_eq] at d
  refine Rg.fin d.1 (by simp) ?_;intro a j w' c u S e l _;have f:=e.length_eq
  match S,f with
  | [s],_ =>
    have:s.1=x:=by simpa using e
    obtain ⟨y,b⟩:=s
    simp at this
    subst this;exact H w' c b u (l _ (by simp)) _ (j.put d.2 _)
theorem Rg.fin2 {x y:Al}(C:(gI ops [x,y] L && decide (x.t<n) && decide (y.t<n) && (x.t != y.t) && (x.i != y.i))=true) 
    (H:∀ w' o b c,Up w h w' o->Blk h0 w' o (x,b)->Blk h0 w' o (y,c)->b≠c->AG M P n N R X ops k0 ((L.setIfInBounds y.i true).setIfInBounds x.i true) ((x.t,.pointer (some ⟨b,0,none⟩))::(y.t,.pointer (some ⟨c,0,none⟩))::Γ) w'):EG M P n N R X ops k0 h0 [x,y] L Γ w h:=by
  simp only[i2,decide_eq_true_eq,bne_iff_ne,ne_eq] at C
  obtain ⟨⟨⟨⟨C,h1⟩,I⟩,U⟩,D⟩:=C;refine Rg.fin C (by simp[D]) ?_;intro a K w' o u S Q B hn;have V:=Q.length_eq
  match S,V with
  | [s, t],_ =>
    obtain ⟨f,b⟩:=s;obtain ⟨j,c⟩:=t;have z:b≠c:=by simpa using hn
    have W:f=x/\j=y\/f=y/\j=x:=by
      have l:[f,j].Perm [x,y]:=by simpa using Q
      have J:f∈[x,y]:=l.mem_iff.1 (by simp);have m2:x∈[f,j]:=l.mem_iff.2 (by simp);have O:y∈[f,j]:=l.mem_iff.2 (by simp);have p:x≠y:=fun e=>D (by rw[e])
      simp at J m2 O
      rcases J with rfl|rfl
      . rcases O with e|e
        . exact absurd e.symm p
        . exact .inl ⟨rfl,e.symm⟩
      . rcases m2 with e|e
        . exact absurd e p
        . exact .inr ⟨rfl,e.symm⟩
    rcases W with ⟨rfl,rfl⟩|⟨rfl,rfl⟩
    . exact H w' o b c u (B _ (by simp)) (B _ (by simp)) z _ ((K.put I _).put h1 _)
    . have Z:ej L [(f,b),(j,c)]=(L.setIfInBounds f.i true).setIfInBounds j.i true:=e6 _ _ D
      have Y:addA a [(f,b),(j,c)]=(a.put (some f.t) (.pointer (some ⟨b,0,none⟩))).put (some j.t) (.pointer (some ⟨c,0,none⟩)) :=
        Act.put_comm (x:=some j.t) (y:=some f.t) a _ _ (fun d hd F=>U (Option.some.inj (hd.trans F.symm)))
      rw[Z,Y];exact H w' o c b u (B _ (by simp)) (B _ (by simp)) (Ne.symm z) _ ((K.put I _).put h1 _)
def il (ops:Array Oper)(k0:Nat)(L:Array Bool)(i:Nat):Bool :=
  decide (i<ops.size) && decide (k0<=i) && Region.noSelect ops && (Region.ready .any ops L == [i])
theorem A.one {a:Act}{i:Nat}(c:il ops k0 L i=true){Q:Exit->Act->World->Prop}{o:Oper}(e:ops[i]?=some o){R':Value->World->Prop}(h:OpR P ops o a w R')(l:∀ v w',R' v w'->Tl M w w')
  (f:∀ v w',R' v w'->A M P ops Q k0 (L.setIfInBounds i true) (a.put o.dst v) w'):A M P ops Q k0 L a w:=by
 unfold il at c
 simp only[i2,decide_eq_true_eq,beq_iff_eq] at c
 refine A.intro (fun h0=>by rw[c.2] at h0;cases h0) (fun j d=>?_);rw[c.2,sA] at d
 subst d;exact OpR.wpOp e h (fun v w' hr=>⟨Rl.tl c.1.1.2 (l v w' hr),f v w' hr⟩)
theorem lU {i:Nat}(a:il ops k0 L i=true):ops[i]?=some (am ops i)/\Region.noSelect ops=true:=by
 unfold il at a
 simp only[i2,decide_eq_true_eq,beq_iff_eq] at a
 exact ⟨bG a.1.1.1,a.1.2⟩
theorem T.val (i t:Nat)(v:Value)(w':World)(d:(il ops k0 L i && aY Γ (am ops i) && ((am ops i).dst == some t) && decide (t<n))=true)(o:bh ops Γ (am ops i)=some true)
  (hr:(execOp (ev Γ) (am ops i)).run P w=.ok (.value v) w')(k:AG M P n N R X ops k0 (L.setIfInBounds i true) ((t,v)::Γ) w')(j:Tl M w w':=by exact Tl.refl _ _):AG M P n N R X ops k0 L Γ w:=by
 simp only[i2,decide_eq_true_eq,beq_iff_eq] at d
 obtain ⟨⟨⟨h1,l⟩,h⟩,x⟩:=d;obtain ⟨f,p⟩:=lU h1;intro a c;refine A.one h1 f (R':=fun u w1=>u=v/\w1=w') ⟨c.want o,.inl ⟨v,w',?_,rfl,rfl⟩⟩ (fun _ _ e=>e.2▸j) ?_
 ·rw[c.exec (Region.noSelect_spec p i _ · · f) l];exact hr
 ·rintro _ _ ⟨rfl,rfl⟩
  rw[h];exact k _ (c.put x _)
theorem T.store (i:Nat)(w':World)(f:(il ops k0 L i && aY Γ (am ops i) && ((am ops i).dst == none))=true)(j:bh ops Γ (am ops i)=some true)
  (hr:(execOp (ev Γ) (am ops i)).run P w=.ok .skip w')(p:Tl M w w')(k:AG M P n N R X ops k0 (L.setIfInBounds i true) Γ w'):AG M P n N R X ops k0 L Γ w:=by
 simp only[i2,beq_iff_eq] at f
 obtain ⟨⟨h1,h⟩,l⟩:=f;obtain ⟨d,o⟩:=lU h1;intro a c;refine A.one h1 d (R':=fun u w1=>u=undef/\w1=w') ⟨c.want j,.inr (.inl ⟨w',?_,rfl,rfl⟩)⟩ (fun _ _ e=>e.2▸p) ?_
 ·rw[c.exec (Region.noSelect_spec o i _ · · d) h];exact hr
 ·rintro _ _ ⟨rfl,rfl⟩
  rw[l];exact k _ c
theorem T.done (c:(Region.ready .any ops L).isEmpty=true)(k:∀ a,Kn n a Γ->N a w):AG M P n N R X ops k0 L Γ w :=
 fun a d=>A.done c (k a d)
theorem T.next {y:Code}{N' R':Po}{X':Nat->Po}(d:(Region.ready .any ops L).isEmpty=true)(k:CG P n N' R' X' y Γ w):AG M P n (fun a w=>y.wp P (iP N' R' X') a w) R X ops k0 L Γ w :=
 fun a c=>A.done d (k a c)
end steps
section code
variable {P:Program}{n:Nat}{N R:Po}{X:Nat->Po}{Γ:cl}{w:World}
def lc (ops:Array Oper):Bool:=(ov ops.size).all fun i=>(am ops i).after.all fun e=>!Region.binds .any e || decide (e.on<i)
theorem oS {M:Ms}{ops:Array Oper}{Q:Exit->Act->World->Prop}{k0:Nat}(p:lc ops=true):∀ (m k:Nat) (L:Array Bool) (a:Act) (w:World),k+m=ops.size->L.size=ops.size ->
    (∀ j,j<ops.size->L.getD j true=decide (j<k))->A M P ops Q k0 L a w->wpOps P ops Q (s0 k m) a w:=by
  intro m
  induction m with
  | zero =>
    intro k L a w hk x c f
    have hz:Region.ready .any ops L=[]:=by
      cases hr:Region.ready .any ops L with
      | nil=>rfl
      | cons i l =>
        have H:i∈Region.ready .any ops L:=by rw[hr];simp
        obtain ⟨h0,o,C,_⟩:=mem_ready.1 H;have hi:=(hC.1 C).1;rw[c i hi] at h0
        simp at h0
        omega
    show Q .normal a w
    unfold A at f
    cases hn:rem L with
    | zero=>rw[hn] at f;exact f.2
    | succ n=>rw[hn] at f;exact f.1 hz
  | succ m ih =>
    intro k L a w hk x c f;have h:k<ops.size:=by omega
    have d:k∈Region.ready .any ops L:=by
      refine mem_ready.2 ⟨by rw[c k h];simp,am ops k,bG h,fun e J B=>?_⟩;have h1:=(oi.1 p) k (o0.2 h);have y:=(la.1 h1) e J
      simp only[B,sy,Bool.false_or,decide_eq_true_eq] at y
      have u:=c e.on oM;rw[show decide (e.on<k)=true by simp[y]] at u
      have D:e.on<L.size:=by omega
      simp[e4,D] at u ⊢
      exact u
    rw[s3,wpOps_cons]
    unfold A at f
    rw[fS d] at f
    refine wpOp_mono (fun I w' F=>?_) (f.2 k d);refine ih (k+1) (L.setIfInBounds k true) I w' oM (by simpa using x) ?_ F.2;intro j z
    by_cases e:k=j
    . subst e
      simp[e4,x,z]
    . rw[getD_set_ne true e,c j z]
      congr 1
      simp only[eq_iff_iff]
      omega
theorem jm (m:Nat):rem (s5 m false)=m:=by unfold rem;simp
theorem mC {m j:Nat}(a:j<m):(s5 m false).getD j true=false:=by simp[e4,a]
theorem CG.region {id:Nat}{ops:Array Oper}{d:Bool}(M:Ms)(k0:Nat)(AL:List Al)(y:P.follows .mixedOrders=true)(c:lc ops=true){h:Hp}(g:G w h)(f:∀ x∈AL,AlOk P ops k0 x)(hM:∀ b∈M.l,b<h.size)
    (H:EG M P n N R X ops k0 h AL (s5 ops.size false) Γ w h):CG P n N R X (.region id ops d) Γ w:=by
  intro a p;have i:∀ w' e,Up w h w' e->A M P ops (iP N R X) k0 (s5 ops.size false) a w':=fun w' e u=>H f hM g (ea _) a p w' e u [] AL (List.Perm.refl _) (fun _ o=>by cases o) (by simp)
  cases d with
  | true =>
    refine wp_region_any y ?_;have h1:=i w.drew h (Up.drew (Up.refl g))
    unfold A at h1
    rw[jm] at h1
    exact lz _ _ _ _ _ _ _ _ _ h1
  | false =>
    refine wp_region ?_;rw[s9];exact oS c _ 0 _ a w oM (by simp) (fun j z=>by rw[mC z];simp) (i w h (Up.refl g))
theorem CG.seq {x y:Code}(H:CG P n (fun a w=>y.wp P (iP N R X) a w) R X x Γ w):CG P n N R X (.seq x y) Γ w:=by
 intro a c;refine wp_seq (wp_mono (H a c) ?_);intro e a w d;cases e<;>exact d
theorem CG.cond {c:Operand}{x y:Code}(t:Bool)(h:iC Γ c=true)(hv:ev Γ c=.bool t)(f:t=true->CG P n N R X x Γ w)(hf:t=false->CG P n N R X y Γ w):CG P n N R X (.cond c x y) Γ w :=
 fun a d=>wp_cond_split (by rw[d.eval h];exact hv) (fun e=>f e a d) (fun e=>hf e a d)
theorem CG.condT {c:Operand}{x y:Code}(d:iC Γ c=true)(hv:ev Γ c=.bool true)(a:CG P n N R X x Γ w):CG P n N R X (.cond c x y) Γ w:=CG.cond true d hv (fun _=>a) (fun e=>by cases e)
theorem CG.condF {c:Operand}{x y:Code}(d:iC Γ c=true)(hv:ev Γ c=.bool false)(a:CG P n N R X y Γ w):CG P n N R X (.cond c x y) Γ w:=CG.cond false d hv (fun e=>by cases e) (fun _=>a)
theorem CG.skip (H:∀ a,Kn n a Γ->N a w):CG P n N R X .skip Γ w:=fun a c=>wp_skip (H a c)
theorem CG.skipN {y:Code}{N' R':Po}{X':Nat->Po}(H:CG P n N' R' X' y Γ w):CG P n (fun a w=>y.wp P (iP N' R' X') a w) R X .skip Γ w:=fun a c=>wp_skip (H a c)
theorem CG.ret (H:∀ a,Kn n a Γ->R a w):CG P n N R X .ret Γ w:=fun a c=>wp_ret (H a c)
theorem CG.exit {id:Nat}(H:∀ a,Kn n a Γ->X id a w):CG P n N R X (.exit id) Γ w:=fun a c=>wp_exit (H a c)
theorem CG.block {id:Nat}{c:Code}(H:CG P n N R (fun i=>if i=id then N else X i) c Γ w):CG P n N R X (.block id c) Γ w:=by
 intro a h;refine wp_block (wp_mono (H a h) ?_);intro e a w f;cases e<;>try exact f
 rename_i i
 simp only[iP] at f
 simp only[Exit.inBlock,iP]
 split
 ·rename_i d;rw[if_pos d] at f;exact f
 ·rename_i d;rw[if_neg d] at f;exact f
theorem CG.to {c:Code}(Γ':cl)(e:jU Γ (Γ'.map (·.1))=Γ')(f:gl Γ'=gl Γ)(H:CG P n N R X c Γ' w):CG P n N R X c Γ w :=
 fun a d=>H a (d.mono (fun t v hv=>fP Γ (Γ'.map (·.1)) t v (by rw[e];exact hv)) f)
theorem Kn.to {a:Act}(k:Kn n a Γ)(Γ':cl)(c:jU Γ (Γ'.map (·.1))=Γ')(d:gl Γ'=gl Γ:=by kernel_rfl):Kn n a Γ' :=
 k.mono (fun t v hv=>fP Γ (Γ'.map (·.1)) t v (by rw[c];exact hv)) d
theorem CG.loop {c:Code}(I:Nat->cl->World->Prop)(m:Nat)(h0:I m Γ w)
    (u:∀ m Γ w,I m Γ w->CG P n (fun a w'=>∃ C j,C<m/\I C j w'/\Kn n a j) R X c Γ w):CG P n N R X (.loop c) Γ w:=by
  intro a F
  suffices key:∀ m a w Γ,I m Γ w->Kn n a Γ->∀ (b:Frame) (k:List Item) (cs:List Frame),∃ e D w',iP N R X e D w'/\Arrives P (lone (b.at a (.code c::.inLoop c::k)) cs w) b k cs e D w' by
    intro b k cs;obtain ⟨e,D,w',o,d⟩:=key m a w Γ h0 F b k cs;exact ⟨e,D,w',o,.of_steps (.one step_loop) d⟩
  intro m
  induction m using g4 with
  | _ m ih =>
    intro a w Γ L F b k cs;obtain ⟨e,f,i,o,d⟩:=u m Γ w L a F b (.inLoop c::k) cs;cases e with
    | normal =>
      obtain ⟨C,j,K,J,H⟩:=o;obtain ⟨B,z,y,p,h⟩:=ih C K f i j J H b k cs;exact ⟨B,z,y,p,.of_steps (Steps.trans d (.one step_inLoop)) h⟩
    | exit id=>exact ⟨.exit id,f,i,o,.pass (x:=.inLoop c) rfl (fun _ _=>.inl (by simp)) d⟩
    | goto l=>exact o.elim
    | ret=>exact ⟨.ret,f,i,o,.pass (x:=.inLoop c) rfl (fun _ _=>.inl (by simp)) d⟩
    | panic ch=>exact o.elim
    | outgrown=>exact o.elim
def envOf (l:List Value):cl:=go 0 l
where go:Nat->List Value->cl
  | _,[]=>[]
  | k,v::l=>(k,v)::go (k+1) l
theorem pK:∀ (l:List Value) (k t:Nat) (v:Value),(envOf.go k l).lookup t=some v->k<=t/\l[t-k]?=some v
  | [],_,_,_,h=>by simp[envOf.go] at h
  | u :: l,k,t,v,h=>by
    rw[envOf.go,hO] at h
    by_cases e:t=k
    . subst e;simp at h;subst h;exact ⟨ea _,by simp⟩
    . have c:(t == k)=false:=by simp[e]
      rw[c] at h
      obtain ⟨h1,a⟩:=pK l (k+1) t v h;refine ⟨by omega,?_⟩;obtain ⟨d,hd⟩:∃ d,t-k=d+1:=⟨t-k-1,by omega⟩;rw[hd];have:t-(k+1)=d:=by omega
      rw[this] at a
      simpa using a
theorem j0 {l:List Value}{t:Nat}{v:Value}(h:(envOf l).lookup t=some v):l[t]?=some v:=by
 have:=pK l 0 t v h
 simpa using this.2
def nC (P:Program)(fn:Func)(Ro:Ending->World->Prop):Po:=fun a w=>a.defers=[]/\∃ v,(results fn a.tmps).run P w=.ok v w/\Ro (.returned v) w
theorem enter {f:FuncId}{j:Func}{c:Code}{args:Array Value}{o:Ending->World->Prop}(hf:P.funcs[f]?=some j)(x:j.body=some c)(hn:j.ntmps=n)(y:args.size<=n)(u:n<=1000000)
    (Γ0:cl)(h:Γ0=envOf args.toList)(H:CG P n (nC P j o) (nC P j o) (fun _ _ _=>False) c Γ0 w):Calls P f args w o:=by
  refine calls_of_wp hf x (wp_mono (H _ ⟨?_,?_,u,?_⟩) ?_)
  . show []=gl Γ0
    unfold gl
    cases e:Γ0.lookup 1000000 with
    | none=>rfl
    | some v =>
      rw[h] at e
      have h1:=j0 e;rw[ta (by simp;omega)] at h1
      cases h1
  . simp;omega
  . intro t v _ hv
    rw[h] at hv
    have h1:=j0 hv
    have p:t<args.size:=by
      rcases cD t args.size with hl|hl
      . exact hl
      . rw[ta (by simpa using hl)] at h1;cases h1
    rw[tf p]
    simpa using h1
  . intro e a w d
    cases e with
    | normal=>exact d
    | ret=>exact d
    | exit i=>exact d.elim
    | goto l=>exact d.elim
    | panic ch=>exact d.elim
    | outgrown=>exact d.elim
def LG (P:Program)(n:Nat)(N R:Po)(X:Nat->Po)(ops:Array Oper)(k:Nat)(Γ:cl)(w:World):Prop :=
  ∀ a,Kn n a Γ->wpOps P ops (iP N R X) (s0 k (ops.size-k)) a w
theorem CG.listed {id:Nat}{ops:Array Oper}(H:LG P n N R X ops 0 Γ w):CG P n N R X (.region id ops false) Γ w :=
 fun a c=>wp_region (by rw[s9];exact H a c)
section listed
variable {ops:Array Oper}{k:Nat}
def g6 (ops:Array Oper)(Γ:cl)(k:Nat):Bool:=decide (k<ops.size) && Region.noSelect ops && aY Γ (am ops k)
theorem LG.op (c:g6 ops Γ k=true)(f:bh ops Γ (am ops k)=some true){R':Value->World->Prop}
  (h:∀ a,Kn n a Γ->OpR P ops (am ops k) a w R')(e:∀ a v w',Kn n a Γ->R' v w'->wpOps P ops (iP N R X) (s0 (k+1) (ops.size-(k+1))) (a.put (am ops k).dst v) w'):LG P n N R X ops k Γ w:=by
 unfold g6 at c
 simp only[i2,decide_eq_true_eq] at c
 intro a d;obtain ⟨m,hm⟩:∃ m,ops.size-k=m+1:=⟨ops.size-k-1,by omega⟩;rw[hm,s3,wpOps_cons];refine OpR.wpOp (bG c.1.1) (h a d) (fun v w' hr=>?_);have:=e a v w' d hr;rw[show ops.size-(k+1)=m by omega] at this
 exact this
theorem LG.val (t:Nat)(v:Value)(w':World)(f:(g6 ops Γ k && ((am ops k).dst == some t) && decide (t<n))=true)(e:bh ops Γ (am ops k)=some true)
  (hr:(execOp (ev Γ) (am ops k)).run P w=.ok (.value v) w')(H:LG P n N R X ops (k+1) ((t,v)::Γ) w'):LG P n N R X ops k Γ w:=by
 simp only[i2,decide_eq_true_eq,beq_iff_eq] at f
 obtain ⟨⟨h1,i⟩,h⟩:=f;have c:=h1
 unfold g6 at c
 simp only[i2,decide_eq_true_eq] at c
 refine LG.op h1 e (R':=fun u w1=>u=v/\w1=w') (fun a d=>⟨d.want e,.inl ⟨v,w',?_,rfl,rfl⟩⟩) ?_
 ·rw[d.exec (Region.noSelect_spec c.1.2 k _ · · (bG c.1.1)) c.2];exact hr
 ·rintro a _ _ d ⟨rfl,rfl⟩
  rw[i];exact H _ (d.put h _)
theorem LG.out (t:Nat)(d:(decide (k<ops.size) && ((am ops k).dst == some t) && decide (t<n))=true)(f:bh ops Γ (am ops k)=some false)
  (H:LG P n N R X ops (k+1) ((t,undef)::Γ) w):LG P n N R X ops k Γ w:=by
 simp only[i2,decide_eq_true_eq,beq_iff_eq] at d
 obtain ⟨⟨h1,e⟩,h⟩:=d;intro a c;obtain ⟨m,hm⟩:∃ m,ops.size-k=m+1:=⟨ops.size-k-1,by omega⟩;rw[hm,s3,wpOps_cons]
 unfold wpOp
 simp only[bG h1,c.want f,ri,if_false]
 have:=H _ (c.put h undef);rw[show ops.size-(k+1)=m by omega] at this
 rw[e];exact this
theorem LG.store (w':World)(f:(g6 ops Γ k && ((am ops k).dst == none))=true)(e:bh ops Γ (am ops k)=some true)
  (hr:(execOp (ev Γ) (am ops k)).run P w=.ok .skip w')(H:LG P n N R X ops (k+1) Γ w'):LG P n N R X ops k Γ w:=by
 simp only[i2,beq_iff_eq] at f
 obtain ⟨h1,h⟩:=f;have c:=h1
 unfold g6 at c
 simp only[i2,decide_eq_true_eq] at c
 refine LG.op h1 e (R':=fun u w1=>w1=w') (fun a d=>⟨d.want e,.inr (.inl ⟨w',?_,rfl⟩)⟩) ?_
 ·rw[d.exec (Region.noSelect_spec c.1.2 k _ · · (bG c.1.1)) c.2];exact hr
 ·rintro a _ _ d rfl
  rw[h];exact H _ d
theorem LG.call (t f:Nat)(args:Array Value)(j:(g6 ops Γ k && ((am ops k).dst == some t) && decide (t<n))=true)(i:bh ops Γ (am ops k)=some true)
  (hr:(execOp (ev Γ) (am ops k)).run P w=.ok (.enter f args) w)(H:Calls P f args w (fun e w'=>∃ v,e=.returned v/\LG P n N R X ops (k+1) ((t,v)::Γ) w')):LG P n N R X ops k Γ w:=by
 simp only[i2,decide_eq_true_eq,beq_iff_eq] at j
 obtain ⟨⟨h1,o⟩,l⟩:=j;have c:=h1
 unfold g6 at c
 simp only[i2,decide_eq_true_eq] at c
 refine LG.op h1 i (R':=fun v w'=>LG P n N R X ops (k+1) ((t,v)::Γ) w') (fun a d=>⟨d.want i,.inr (.inr ⟨f,args,?_,H⟩)⟩) ?_
 ·rw[d.exec (Region.noSelect_spec c.1.2 k _ · · (bG c.1.1)) c.2];exact hr
 ·rintro a v w' d h
  rw[o];exact h _ (d.put l _)
theorem LG.done (c:(k == ops.size)=true)(H:∀ a,Kn n a Γ->N a w):LG P n N R X ops k Γ w:=by
 simp only[beq_iff_eq] at c
 subst c;intro a d;rw[ti];exact H a d
theorem LG.next {y:Code}{N' R':Po}{X':Nat->Po}(c:(k == ops.size)=true)(H:CG P n N' R' X' y Γ w):LG P n (fun a w=>y.wp P (iP N' R' X') a w) R X ops k Γ w:=LG.done c H
end listed
theorem ar {ops:Array Oper}{k0:Nat}:∀ x∈([]:List Al),AlOk P ops k0 x:=fun _ h=>by cases h
theorem bO {ops:Array Oper}{k0:Nat}{x:Al}{l:List Al}(h:AlOk P ops k0 x)(k:∀ y∈l,AlOk P ops k0 y):∀ y∈x::l,AlOk P ops k0 y:=fun y a=>by
 rcases gs.1 a with rfl|a
 ·exact h
 ·exact k y a
def ER (ops:Array Oper)(k0:Nat)(x:Al):Bool:=decide (x.i<ops.size) && ((am ops x.i).dst == some x.t) && (am ops x.i).guard.isNone && (am ops x.i).after.isEmpty && decide (x.i<k0)
theorem fD {ops:Array Oper}{k0:Nat}{x:Al}(a:ER ops k0 x=true)(hr:∀ (ρ:Operand->Value) (w:World),(execOp ρ (am ops x.i)).run P w=.ok (.value (.pointer (some ⟨w.heap.size,0,none⟩))) (w.alloc x.o)):AlOk P ops k0 x:=by
 unfold ER at a
 simp only[i2,decide_eq_true_eq,beq_iff_eq,Option.isNone_iff_eq_none,Array.isEmpty_iff] at a
 exact ⟨⟨_,bG a.1.1.1.1,a.1.1.1.2,a.1.1.2,a.1.2,hr⟩,a.2⟩
end code
def bX {α:Type}(P:Program):Sem α->List Value->Option (α × List Addr)
  | .pure a,_=>some (a,[])
  | .load _ a k,v::vs=>(bX P (k v) vs).map fun r=>(r.1,a::r.2)
  | .program k,vs=>bX P (k P) vs
  | .mark _ k,vs=>bX P k vs
  | _,_=>none
theorem cP {α:Type}{P:Program}{w:World}:∀ (s:Sem α) (vs:List Value) (r:α) (l:List Addr),bX P s vs=some (r,l) ->
    (∀ (i:Nat) a v,l[i]?=some a->vs[i]?=some v->w.cell? a=some v)->s.run P w=.ok r w:=by
  intro s
  induction s with
  | pure a=>intro vs r l h _;simp[bX] at h;simp[Sem.run,h.1]
  | load m a k ih =>
    intro vs r l h c;cases vs with
    | nil=>simp[bX] at h
    | cons v vs =>
      simp only[bX,tj] at h
      obtain ⟨⟨f,j⟩,h1,d⟩:=h
      injection d with e1 e2
      subst e1;subst e2;have h0:=c 0 a v (by simp) (by simp)
      simp only[Sem.run,h0]
      exact ih v vs _ _ h1 (fun i e v' ha hv=>c (i+1) e v' (by simpa using ha) (by simpa using hv))
  | program k ih=>intro vs r l h c;exact ih P vs r l h c
  | mark m k ih=>intro vs r l h c;exact ih vs r l h c
  | _=>intro vs r l h _;simp[bX] at h
def dO {α:Type}(P:Program):Sem α->Option (α × List (Addr × Value))
  | .pure a=>some (a,[])
  | .store _ _ (.agg _) _=>none
  | .store _ _ (.tuple _) _=>none
  | .store _ a v k=>(dO P k).map fun r=>(r.1,(a,v)::r.2)
  | .program k=>dO P (k P)
  | .mark _ k=>dO P k
  | _=>none
structure Put (b:Nat) (w w':World):Prop where
  os:w'.os=w.os
  tape:w'.tape=w.tape
  output:w'.output=w.output
  size:w'.heap.size=w.heap.size
  blk:∀ c,c≠b->w'.heap[c]?=w.heap[c]?
theorem Put.tl {b:Nat}{w w':World}(p:Put b w w'){M:Ms}(hz:∀ K bs,M.z=some (K,bs)->K<=b\/b∈bs):Tl M w w':=fun K bs e=>⟨Nat.le_of_eq p.size.symm,fun c a hn=>p.blk c (fun h=>by
 rcases hz K bs e with h1|h1
 ·omega
 ·exact hn (h▸h1))⟩
theorem Put.refl (b:Nat)(w:World):Put b w w:=⟨rfl,rfl,rfl,rfl,fun _ _=>rfl⟩
theorem Put.trans {b:Nat}{w1 w2 w3:World}(p:Put b w1 w2)(q:Put b w2 w3):Put b w1 w3 :=
 ⟨q.os.trans p.os,q.tape.trans p.tape,q.output.trans p.output,q.size.trans p.size,fun c a=>(q.blk c a).trans (p.blk c a)⟩
theorem Put.set (w:World)(p:Addr)(v:Value):Put p.block w (w.setCell p v) :=
 ⟨rfl,rfl,rfl,by simp,fun c a=>Below.heap_setCell _ _ _ _ a⟩
def Own (w:World)(b:Nat)(t:TypeId)(vs:List Value):Prop:=w.heap[b]?=some (.cells vs.toArray t (0,0))
theorem Own.cell {w:World}{b:Nat}{t:TypeId}{vs:List Value}(h:Own w b t vs)(i:Nat):w.cell? ⟨b,i,none⟩=vs[i]?:=by
 unfold World.cell?;rw[show w.heap[b]?=_ from h];simp
theorem Own.frozen {w:World}{b:Nat}{t:TypeId}{vs:List Value}(h:Own w b t vs)(i:Nat):w.frozen? ⟨b,i,none⟩=false:=by
 unfold World.frozen?;rw[show w.heap[b]?=_ from h];simp
theorem Own.set {w:World}{b:Nat}{t:TypeId}{vs:List Value}(h:Own w b t vs)(i:Nat)(v:Value):Own (w.setCell ⟨b,i,none⟩ v) b t (vs.set i v):=by
 unfold Own World.setCell
 simp only[Array.getElem?_modify,if_true,show w.heap[b]?=_ from h,tq]
 simp
theorem Own.lt {w:World}{b:Nat}{t:TypeId}{vs:List Value}(h:Own w b t vs):b<w.heap.size:=by
 rcases cD b w.heap.size with hl|hl
 ·exact hl
 ·unfold Own at h;rw[dS hl] at h;cases h
theorem Own.ext {w w':World}{b:Nat}{t:TypeId}{vs:List Value}(h:Own w b t vs)(x:Ext w w'):Own w' b t vs:=(Below.block x b h.lt).trans h
def bW (vs:List Value)(o:Nat):List Value->List Value
  | []=>vs
  | c::cs=>bW (vs.set o c) (o+1) cs
def np (b o:Nat):List Value->List (Addr × Value)
  | []=>[]
  | c::cs=>(⟨b,o,none⟩,c)::np b (o+1) cs
theorem fy {α:Type}{P:Program}{b:Nat}{t:TypeId}:∀ (s:Sem α) (r:α) (o:Nat) (cs vs:List Value) (w:World),dO P s=some (r,np b o cs)->Own w b t vs->o+cs.length<=vs.length ->
    ∃ w',s.run P w=.ok r w'/\Put b w w'/\Own w' b t (bW vs o cs):=by
  intro s
  induction s with
  | pure a =>
    intro r o cs vs w h d _
    simp only[dO,Option.some.injEq,Prod.mk.injEq] at h
    obtain ⟨h1,i⟩:=h;cases cs with
    | nil=>exact ⟨w,by simp[Sem.run,h1],Put.refl _ _,d⟩
    | cons c cs=>simp[np] at i
  | store m a v k ih =>
    intro r o cs vs w h d f
    have u:∃ e,dO P k=some e/\(e.1,(a,v)::e.2)=(r,np b o cs)/\(∀ l,v≠.agg l)/\∀ l,v≠.tuple l:=by
      cases v<;>simp only[dO,tj] at h<;>first|(obtain ⟨e,h1,i⟩:=h;exact ⟨e,h1,i,by simp,by simp⟩)|cases h
    obtain ⟨⟨e,D⟩,h1,i,p,z⟩:=u
    injection i with e1 e2
    cases cs with
    | nil=>simp[np] at e2
    | cons c cs =>
      simp only[np,List.cons.injEq,Prod.mk.injEq] at e2
      obtain ⟨⟨x,ev⟩,B⟩:=e2;subst x;subst ev;subst B;subst e1
      simp only[tv] at f
      have y:w.cell? ⟨b,o,none⟩=some (vs[o]'oM):=by rw[d.cell,List.getElem?_eq_getElem]
      obtain ⟨w',hr,C,j⟩:=ih _ (o+1) cs (vs.set o v) (w.setCell ⟨b,o,none⟩ v) h1 (d.set o v) (by simp;omega);refine ⟨w',?_,(Put.set w ⟨b,o,none⟩ v).trans C,j⟩
      have:(Sem.store m ⟨b,o,none⟩ v k).run P w=k.run P (w.setCell ⟨b,o,none⟩ v):=by
        cases v<;>first|(simp only[Sem.run,y,d.frozen];rfl)|exact absurd rfl (p _)|exact absurd rfl (z _)
      rw[this];exact hr
  | program k ih=>intro r o cs vs w h d f;exact ih P r o cs vs w h d f
  | mark m k ih=>intro r o cs vs w h d f;exact ih r o cs vs w h d f
  | _=>intro r o cs vs w h _ _;simp[dO] at h
structure Bx where
  b:Nat
  t:TypeId
  vs:List Value
  deriving Inhabited
structure St (w0:World) (h0:Hp) (w:World) (h:Hp) (B:List Bx):Prop where
  up:Up w0 h0 w h
  own:∀ x∈B,Own w x.b x.t x.vs
  jk:∀ x∈B,h[x.b]?=some bg
  lo:∀ x∈B,h0.size<=x.b
  nd:(B.map (·.b)).Nodup
theorem aR {h:Hp}{b:Nat}{o:Obj}(e:h[b]?=some o):b<h.size:=by
 rcases cD b h.size with hl|hl
 ·exact hl
 ·rw[dS hl] at e;cases e
section st
variable {w0:World}{h0:Hp}{w:World}{h:Hp}{B:List Bx}
theorem St.start (g:G w h):St w h w h []:=⟨Up.refl g,fun _ a=>(by cases a),fun _ a=>(by cases a),fun _ a=>(by cases a),by simp⟩
theorem St.step (s:St w0 h0 w h B){w':World}{c:Hp}(u:Up w h w' c):St w0 h0 w' c B :=
 ⟨s.up.trans u,fun x a=>(s.own x a).ext u.ext,fun x a=>(u.gr.blk _ (aR (s.jk x a))).trans (s.jk x a),s.lo,s.nd⟩
theorem St.g (s:St w0 h0 w h B):G w h:=s.up.g
theorem St.sz (s:St w0 h0 w h B):h0.size<=h.size:=s.up.gr.size
theorem St.new {wr:World}{hr:Hp}{f:List Bx}{x:Al}{b:Nat}(l:St w0 h0 wr hr f)(s:St w0 h0 w h B)(hB:∀ y∈B,y.b<hr.size\/y.b≠b)(k:Blk hr w h (x,b))(t:TypeId)(vs:List Value)(e:x.o=.cells vs.toArray t (0,0)) :
  St w0 h0 w h (⟨b,t,vs⟩::B):=by
 obtain ⟨i,k2,c⟩:=k;refine ⟨s.up,?_,?_,?_,?_⟩
 ·intro y a
  rcases gs.1 a with rfl|a
  ·show w.heap[b]?=_
   rw[<-e];exact i
  ·exact s.own y a
 ·intro y a
  rcases gs.1 a with rfl|a
  ·exact k2
  ·exact s.jk y a
 ·intro y a
  rcases gs.1 a with rfl|a
  ·exact eb l.sz c
  ·exact s.lo y a
 ·refine g3.2 ⟨fun p=>?_,s.nd⟩
  obtain ⟨y,a,d⟩:=gg.1 p
  rcases hB y a with hl|hl
  ·have j:y.b=b:=d
   have u:hr.size<=b:=c
   omega
  ·exact hl d
theorem St.new1 {wr:World}{hr:Hp}{x:Al}{b:Nat}(a:St w0 h0 wr hr B)(s:St w0 h0 w h B)(k:Blk hr w h (x,b))(t:TypeId)(vs:List Value)(d:x.o=.cells vs.toArray t (0,0)) :
 St w0 h0 w h (⟨b,t,vs⟩::B):=St.new a s (fun y c=>.inl (aR (a.jk y c))) k t vs d
theorem St.new2 {wr:World}{hr:Hp}{x y:Al}{b c:Nat}(f:St w0 h0 wr hr B)(s:St w0 h0 w h B)(k:Blk hr w h (x,b))(k2:Blk hr w h (y,c))(i:b≠c)(t:TypeId)(vs:List Value)(j:x.o=.cells vs.toArray t (0,0))(d:TypeId)(a:List Value)(e:y.o=.cells a.toArray d (0,0)) :
  St w0 h0 w h (⟨b,t,vs⟩::⟨c,d,a⟩::B) :=
 St.new f (St.new1 f s k2 d a e) (fun z hz=>by
  rcases gs.1 hz with rfl|hz
  ·exact .inr (Ne.symm i)
  ·exact .inl (aR (f.jk z hz))) k t vs j
def aw (B:List Bx)(j:Nat):Bx:=B.getD j default
def ib (B:List Bx)(j o:Nat)(cs:List Value):List Bx:=B.set j { aw B j with vs:=bW (aw B j).vs o cs }
theorem bx {j:Nat}(h:j<B.length):aw B j∈B:=by
 unfold aw
 have:B.getD j default=B[j]:=by simp[h]
 rw[this];exact e5 h
theorem Up.put {b:Nat}{w':World}(u:Up w0 h0 w h)(p:Put b w w')(d:h[b]?=some bg)(f:h0.size<=b)(a:w0.heap.size=h0.size):Up w0 h0 w' h:=by
 refine ⟨⟨p.os.trans u.ext.os,p.tape.trans u.ext.tape,p.output.trans u.ext.output,by rw[p.size];exact u.ext.size,fun c i=>?_⟩,u.gr,⟨by rw[p.size];exact u.g.size,fun c=>?_⟩⟩
 ·rw[p.blk c oM]
  exact Below.block u.ext c i
 ·by_cases e:c=b
  ·subst e;exact .inr d
  ·rw[p.blk c e];exact u.g.blk c
theorem St.put (s:St w0 h0 w h B)(I:G w0 h0){j o:Nat}{cs:List Value}{w':World}(l:j<B.length)(p:Put (aw B j).b w w')(H:Own w' (aw B j).b (aw B j).t (bW (aw B j).vs o cs)):St w0 h0 w' h (ib B j o cs):=by
  have F:=bx l
  have a:(ib B j o cs).map (·.b)=B.map (·.b):=by
    unfold ib
    rw[tw]
    apply tz
    intro i
    by_cases e:j=i
    . subst e
      rw[ua (by simpa using l)]
      simp[aw,l]
    . rw[ub e]
  refine ⟨s.up.put p (s.jk _ F) (s.lo _ F) I.size,?_,?_,?_,by rw[a];exact s.nd⟩
  . intro x f
    obtain ⟨i,hi,c⟩:=ul.1 f;have d:i<B.length:=by simpa [ib] using hi
    by_cases e:j=i
    . subst e
      have:x={ aw B j with vs:=bW (aw B j).vs o cs }:=by rw[<-c];simp[ib]
      subst this;exact H
    . have z:x=B[i]:=by rw[<-c];simp[ib,e]
      subst z
      have C:B[i].b≠(aw B j).b:=by
        intro D
        have h1:(B.map (·.b))[i]'(by simpa using d)=(B.map (·.b))[j]'(by simpa using l):=by
          simp only[um]
          rw[D]
          simp[aw,l]
        exact e ((uA s.nd).1 h1).symm
      show w'.heap[B[i].b]?=_
      rw[p.blk _ C];exact s.own _ (e5 d)
  . intro x f
    have:x.b∈(ib B j o cs).map (·.b):=gg.2 ⟨x,f,rfl⟩;rw[a] at this
    obtain ⟨y,u,c⟩:=gg.1 this;rw[<-c];exact s.jk y u
  . intro x f
    have:x.b∈(ib B j o cs).map (·.b):=gg.2 ⟨x,f,rfl⟩;rw[a] at this
    obtain ⟨y,u,c⟩:=gg.1 this;rw[<-c];exact s.lo y u
def lg (b o:Nat):Nat->List Addr
  | 0=>[]
  | n+1=>⟨b,o,none⟩::lg b (o+1) n
theorem fk (b:Nat):∀ (n o i:Nat) (a:Addr),(lg b o n)[i]?=some a->a=⟨b,o+i,none⟩
  | 0,_,_,_,h=>by simp[lg] at h
  | n+1,o,0,a,h=>by simp[lg] at h;rw[<-h];rfl
  | n+1,o,i+1,a,h=>by
    have:=fk b n (o+1) i a (by simpa [lg] using h);rw[this];congr 1;omega
def dM (B:List Bx):List (Nat × Nat × Nat)->List Value
  | []=>[]
  | p::ps=>((aw B p.1).vs.drop p.2.1).take p.2.2++dM B ps
def cG (B:List Bx):List (Nat × Nat × Nat)->List Addr
  | []=>[]
  | p::ps=>lg (aw B p.1).b p.2.1 p.2.2++cG B ps
def db (B:List Bx)(ps:List (Nat × Nat × Nat)):Bool:=ps.all fun p=>decide (p.1<B.length) && decide (p.2.1+p.2.2<=(aw B p.1).vs.length)
theorem jc (b o n:Nat):(lg b o n).length=n:=by
 induction n generalizing o with
 | zero=>rfl
 | succ n ih=>simp[lg,ih]
theorem eF (d:∀ x∈B,Own w x.b x.t x.vs):∀ (ps:List (Nat × Nat × Nat)),db B ps=true->∀ (i:Nat) a v,(cG B ps)[i]?=some a->(dM B ps)[i]?=some v->w.cell? a=some v
  | [],_,i,a,v,h,_=>by simp[cG] at h
  | p :: ps,hok,i,a,v,ha,hv=>by
    unfold db at hok
    rw[u9,i2] at hok
    obtain ⟨h1,e⟩:=hok
    simp only[i2,decide_eq_true_eq] at h1
    have c:(((aw B p.1).vs.drop p.2.1).take p.2.2).length=p.2.2:=by simp;omega
    unfold cG at ha
    unfold dM at hv
    rcases cD i p.2.2 with hl|hl
    . rw[vi (by rw[jc];exact hl)] at ha
      rw[vi (by rw[c];exact hl)] at hv
      rw[fk _ _ _ _ _ ha,(d _ (bx h1.1)).cell];rw[vj hl,vl] at hv
      exact hv
    . rw[v6 (by rw[jc];exact hl),jc] at ha
      rw[v6 (by rw[c];exact hl),c] at hv
      exact eF d ps e _ a v ha hv
theorem Own.mo {w w':World}{b:Nat}{t:TypeId}{vs:List Value}{M:List Nat}(h:Own w b t vs)(x:Mo M w w')(a:b ∉ M):Own w' b t vs:=(x.blk b h.lt a).trans h
theorem gX {M:List Nat}{d:List (Nat × Nat × Nat)}(hM:∀ p∈d,(aw B p.1).b ∉ M)(e:∀ x∈B,x.b ∉ M->Own w x.b x.t x.vs):∀ (ps:List (Nat × Nat × Nat)),(∀ p∈ps,p∈d)->db B ps=true->∀ (i:Nat) a v,(cG B ps)[i]?=some a->(dM B ps)[i]?=some v->w.cell? a=some v
  | [],_,_,i,a,v,h,_=>by simp[cG] at h
  | p :: ps,hsub,hok,i,a,v,ha,hv=>by
    unfold db at hok
    rw[u9,i2] at hok
    obtain ⟨h1,f⟩:=hok
    simp only[i2,decide_eq_true_eq] at h1
    have c:(((aw B p.1).vs.drop p.2.1).take p.2.2).length=p.2.2:=by simp;omega
    unfold cG at ha
    unfold dM at hv
    rcases cD i p.2.2 with hl|hl
    . rw[vi (by rw[jc];exact hl)] at ha
      rw[vi (by rw[c];exact hl)] at hv
      rw[fk _ _ _ _ _ ha,(e _ (bx h1.1) (hM p (hsub p (by simp)))).cell];rw[vj hl,vl] at hv
      exact hv
    . rw[v6 (by rw[jc];exact hl),jc] at ha
      rw[v6 (by rw[c];exact hl),c] at hv
      exact gX hM e ps (fun q j=>hsub q (by simp[j])) f _ a v ha hv
end st
section own
variable {M:Ms}{P:Program}{n:Nat}{N R:Po}{X:Nat->Po}{ops:Array Oper}{k0:Nat}{hr:Hp}{AL:List Al}{L:Array Bool}{Γ:cl}{w:World}{h:Hp}{w0:World}{h0:Hp}{B:List Bx}
theorem Rg.own (i t:Nat)(ps:List (Nat × Nat × Nat))(v:Value)(s:St w0 h0 w h B)(j:(dY n ops k0 AL L i t && aY Γ (am ops i) && i8 ops k0 i)=true)(c:bh ops Γ (am ops i)=some true)
  (hM:∀ p∈ps,(aw B p.1).b ∉ M.l)(o:db B ps=true)(f:bX P (execOp (ev Γ) (am ops i)) (dM B ps)=some (.value v,cG B ps))
  (k:EG M P n N R X ops k0 hr AL (L.setIfInBounds i true) ((t,v)::Γ) w h):EG M P n N R X ops k0 hr AL L Γ w h :=
 Rg.load i t v j c (fun w' d=>cP _ _ _ _ f (gX hM (fun x e a=>(s.own x e).mo d a) ps (fun _ h=>h) o)) k
theorem T.put (i j o:Nat)(cs:List Value)(s:St w0 h0 w h B)(x:G w0 h0)(p:(il ops k0 L i && aY Γ (am ops i) && ((am ops i).dst == none))=true)(l:bh ops Γ (am ops i)=some true)
  (f:(decide (j<B.length) && decide (o+cs.length<=(aw B j).vs.length))=true)(u:dO P (execOp (ev Γ) (am ops i))=some (.skip,np (aw B j).b o cs))
  (k:∀ w',Put (aw B j).b w w'->St w0 h0 w' h (ib B j o cs)->AG M P n N R X ops k0 (L.setIfInBounds i true) Γ w')(hz:∀ K bs,M.z=some (K,bs)->K<=(aw B j).b\/(aw B j).b∈bs:=by intro _ _ e;cases e):AG M P n N R X ops k0 L Γ w:=by
 simp only[i2,decide_eq_true_eq] at f
 obtain ⟨w',c,a,d⟩:=fy _ _ _ _ _ w u (s.own _ (bx f.1)) f.2;exact T.store i w' p l c (a.tl hz) (k w' a (s.put x f.1 a d))
theorem LG.own {k:Nat}(t:Nat)(ps:List (Nat × Nat × Nat))(v:Value)(s:St w0 h0 w h B)(d:(g6 ops Γ k && ((am ops k).dst == some t) && decide (t<n))=true)(a:bh ops Γ (am ops k)=some true)
  (e:db B ps=true)(c:bX P (execOp (ev Γ) (am ops k)) (dM B ps)=some (.value v,cG B ps))
  (H:LG P n N R X ops (k+1) ((t,v)::Γ) w):LG P n N R X ops k Γ w :=
 LG.val t v w d a (cP _ _ _ _ c (eF s.own ps e)) H
theorem LG.put {k:Nat}(j o:Nat)(cs:List Value)(s:St w0 h0 w h B)(p:G w0 h0)(i:(g6 ops Γ k && ((am ops k).dst == none))=true)(f:bh ops Γ (am ops k)=some true)
  (e:(decide (j<B.length) && decide (o+cs.length<=(aw B j).vs.length))=true)(l:dO P (execOp (ev Γ) (am ops k))=some (.skip,np (aw B j).b o cs))
  (H:∀ w',Put (aw B j).b w w'->St w0 h0 w' h (ib B j o cs)->LG P n N R X ops (k+1) Γ w'):LG P n N R X ops k Γ w:=by
 simp only[i2,decide_eq_true_eq] at e
 obtain ⟨w',c,a,d⟩:=fy _ _ _ _ _ w l (s.own _ (bx e.1)) e.2;exact LG.store w' i f c (H w' a (s.put p e.1 a d))
theorem LG.var {k:Nat}(t:Nat)(ty:TypeId)(vs:List Value)(s:St w0 h0 w h B)(c:(g6 ops Γ k && ((am ops k).dst == some t) && decide (t<n))=true)(a:bh ops Γ (am ops k)=some true)
  (hr:(execOp (ev Γ) (am ops k)).run P w=.ok (.value (.pointer (some ⟨w.heap.size,0,none⟩))) (w.alloc (.cells vs.toArray ty (0,0))))
  (H:∀ b w' h',h.size<=b->Up w h w' h'->St w0 h0 w' h' (⟨b,ty,vs⟩::B)->LG P n N R X ops (k+1) ((t,.pointer (some ⟨b,0,none⟩))::Γ) w'):LG P n N R X ops k Γ w:=by
 have u:Up w h (w.alloc (.cells vs.toArray ty (0,0))) (h.push bg):=Up.allocAny s.g _ _ (.inr rfl);refine LG.val t _ _ c a hr (H _ _ _ (by rw[s.g.size];exact ea _) u (St.new1 (x:=⟨0,0,.cells vs.toArray ty (0,0)⟩) s (s.step u) ⟨?_,?_,?_⟩ ty vs rfl))
 ·rw[heap_alloc];exact er
 ·rw[s.g.size];exact er
 ·show h.size<=w.heap.size;rw[s.g.size];exact ea _
def oA (fn:Func)(Γ:cl):Sem Value:=do
  let vs <-fn.results.mapM fun
    | .tmp t=>Pure.pure (ev Γ (.tmp t))
    | .cell a t=>do loadVar t (<-asAddr (ev Γ (.tmp a)))
  Pure.pure (if h:vs.size=1 then vs[0] else .tuple vs)
def IZ (fn:Func)(Γ:cl):Bool:=fn.results.all fun|.tmp t=>iC Γ (.tmp t)|.cell a _=>iC Γ (.tmp a)
def nt (fn:Func)(Γ:cl):Bool:=(gl Γ).isEmpty && IZ fn Γ
theorem oX {a:Func}{Γ:cl}(h:nt a Γ=true):gl Γ=[]:=by
 unfold nt at h;rw[i2] at h;exact List.isEmpty_iff.1 h.1
theorem qE {α β:Type}(l:List α)(f g:α->Sem β)(h:∀ x∈l,f x=g x):l.mapM f=l.mapM g:=by
 induction l with
 | nil=>rfl
 | cons a l ih=>rw[v7,v7,h a (by simp),ih (fun x c=>h x (by simp[c]))]
theorem pt {c:Func}{a:Act}(d:Kn n a Γ)(hk:IZ c Γ=true):results c a.tmps=oA c Γ:=by
 unfold results oA
 have e:∀ x∈c.results.toList,((match x with|.tmp t=>Pure.pure (a.tmps.getD t undef)|.cell ad t=>(do loadVar t (<-asAddr (a.tmps.getD ad undef)))):Sem Value)=((match x with|.tmp t=>Pure.pure (ev Γ (.tmp t))|.cell ad t=>(do loadVar t (<-asAddr (ev Γ (.tmp ad))))):Sem Value):=by
  intro x f;have h1:=(la.1 hk) x (by simpa using f);cases x with
  | tmp t=>have:=d.eval h1;simp only[Act.eval] at this;simp only[this]
  | cell ad t=>have:=d.eval h1;simp only[Act.eval] at this;simp only[this]
 rw[v8,v8]
 congr 2
 exact qE _ _ _ e
theorem iF {c:Func}{a:Act}(d:Kn n a Γ)(hk:nt c Γ=true):results c a.tmps=oA c Γ :=
 pt d (by unfold nt at hk;rw[i2] at hk;exact hk.2)
def Ret (w0:World)(h0:Hp)(Φ:Value->Hp->Prop):Ending->World->Prop:=fun e w'=>∃ v h',e=.returned v/\Up w0 h0 w' h'/\Φ v h'
theorem Kj {d:Func}{Φ:Value->Hp->Prop}(s:St w0 h0 w h B)(ps:List (Nat × Nat × Nat))(v:Value)(hk:(nt d Γ && db B ps)=true)(f:bX P (oA d Γ) (dM B ps)=some (v,cG B ps))(c:Φ v h) :
  ∀ a,Kn n a Γ->nC P d (Ret w0 h0 Φ) a w:=by
 intro a e;rw[i2] at hk
 refine ⟨e.df.trans (oX hk.1),v,?_,v,h,rfl,s.up,c⟩;rw[iF e hk.1];exact cP _ _ _ _ f (eF s.own ps hk.2)
end own
abbrev CV (f:FuncId)(a:Array Value)(w:World)(h:Hp)(x:Value):Prop:=Calls Tryz.prog f a w (Ret w h fun v _=>v=x)
abbrev CR (f:FuncId)(a:Array Value)(w:World)(h:Hp)(Φ:Value->Hp->Prop):Prop:=Calls Tryz.prog f a w (Ret w h Φ)
def dR (h:Hp)(b i:Nat):Option Value :=
  match h[b]? with
  | some (.cells c _ _)=>c[i]?
  | _=>none
structure Gw (h h':Hp):Prop where
  size:h.size<=h'.size
  blk:∀ b:Nat,b<h.size->h'[b]?=h[b]?\/h[b]?=some bg
theorem Gr.gw {h a:Hp}(u:Gr h a):Gw h a:=⟨u.size,fun b c=>.inl (u.blk b c)⟩
theorem B3 {h c:Hp}(u:Gw h c){b i:Nat}{v:Value}(e:dR h b i=some v):dR c b i=some v:=by
  unfold dR at *
  cases a:h[b]? with
  | none=>rw[a] at e;cases e
  | some o =>
    rcases u.blk b (aR a) with h1|h1
    . rw[h1];exact e
    . rw[h1] at e;simp[bg] at e
theorem kV {w:World}{h:Hp}(g:G w h){b i:Nat}{v:Value}(e:dR h b i=some v):w.cell? ⟨b,i,none⟩=some v:=by
 unfold dR at e
 rcases g.blk b with h1|h1
 ·unfold World.cell?
  rw[<-h1];cases a:h[b]? with
  | none=>rw[a] at e;cases e
  | some o=>rw[a] at e;cases o<;>simp at e ⊢ <;> exact e
 ·rw[h1] at e;simp[bg] at e
def Seg (h:Hp)(b o:Nat)(cs:List Value):Prop:=∀ (i:Nat) (v:Value),cs[i]?=some v->dR h b (o+i)=some v
theorem Seg.gw {h a:Hp}{b o:Nat}{cs:List Value}(s:Seg h b o cs)(u:Gw h a):Seg a b o cs:=fun i v hv=>B3 u (s i v hv)
theorem B9 {M:List Nat}{w w':World}{h:Hp}(g:G w h)(x:Mo M w w')(hM:∀ b∈M,h[b]?=some bg){b i:Nat}{v:Value}(e:dR h b i=some v):w'.cell? ⟨b,i,none⟩=some v:=by
 have f:b ∉ M:=fun j=>by
  unfold dR at e
  rw[hM b j] at e
  simp[bg] at e
 have d:=kV g e
 have c:b<w.heap.size:=by
  rcases cD b w.heap.size with c|c
  ·exact c
  ·unfold World.cell? at d;rw[dS c] at d;cases d
 rw[World.cell?_of_block (w:=w) (a:=⟨b,i,none⟩) (x.blk b c f)];exact d
theorem Seg.runM {α:Type}{M:List Nat}{P:Program}{w w':World}{h:Hp}{b o:Nat}{cs:List Value}{s:Sem α}{r:α}(c:Seg h b o cs)(g:G w h)(hM:∀ b∈M,h[b]?=some bg)(x:Mo M w w')(d:bX P s cs=some (r,lg b o cs.length)):s.run P w'=.ok r w' :=
 cP _ _ _ _ d (fun i a v ha hv=>by rw[fk _ _ _ _ _ ha];exact B9 g x hM (c i v hv))
theorem Seg.run {α:Type}{P:Program}{w w':World}{h:Hp}{b o:Nat}{cs:List Value}{s:Sem α}{r:α}(c:Seg h b o cs)(g:G w h)(x:Ext w w')(d:bX P s cs=some (r,lg b o cs.length)):s.run P w'=.ok r w' :=
 cP _ _ _ _ d (fun i a v ha hv=>by rw[fk _ _ _ _ _ ha];exact x.some (kV g (c i v hv)))
theorem Seg.part {h:Hp}{b o:Nat}{cs:List Value}(s:Seg h b o cs)(j n:Nat):Seg h b (o+j) ((cs.drop j).take n):=fun i v hv=>by
 have hi:i<n:=by
  rcases cD i n with hl|hl
  ·exact hl
  ·rw[ta (by simp;omega)] at hv;cases hv
 rw[vj hi,vl] at hv
 rw[wi];exact s (j+i) v hv
def aB (A:Z9):Nat:=match A with|some a=>a.block|none=>0
def aO (A:Z9):Nat:=match A with|some a=>a.off|none=>0
structure SlO {α:Type} (sz:Nat) (f:α->List Value) (d:α) (h:Hp) (A:Z9) (l:List α):Prop where
  ok:0<l.length->A=some ⟨aB A,aO A,none⟩
  el:∀ k,k<l.length->Seg h (aB A) (aO A+k*sz) (f (l.getD k d))
theorem SlO.gw {α:Type}{sz:Nat}{f:α->List Value}{d:α}{h a:Hp}{A:Z9}{l:List α}(s:SlO sz f d h A l)(u:Gw h a):SlO sz f d a A l:=⟨s.ok,fun k hk=>(s.el k hk).gw u⟩
theorem SlO.nil {α:Type}{sz:Nat}{f:α->List Value}{d:α}{h:Hp}{A:Z9}:SlO sz f d h A []:=⟨fun h=>by simp at h,fun k hk=>by simp at hk⟩
def JU {α:Type}(sz:Nat)(f:α->List Value)(d:α)(h:Hp)(v:Value)(l:List α):Prop :=
  ∃ A cap,v=.slice A l.length cap/\l.length<=cap/\SlO sz f d h A l
theorem SlO.of_flat {α:Type}{sz:Nat}{f:α->List Value}{d:α}{h:Hp}{b o:Nat}{l:List α}(hf:∀ x,(f x).length=sz)(s:Seg h b o (l.flatMap f)):SlO sz f d h (some ⟨b,o,none⟩) l:=by
  refine ⟨fun _=>rfl,?_⟩
  induction l generalizing o with
  | nil=>intro k hk;simp at hk
  | cons x l ih =>
    intro k hk;cases k with
    | zero =>
      have:=s.part 0 sz
      simp only[wj,yh,yy] at this
      rw[yz (by rw[hf];exact ea _),<-hf x,yY] at this
      simpa [aB,aO] using this
    | succ k =>
      have a:Seg h b (o+sz) (l.flatMap f):=fun i v hv=>by
        have:=s (sz+i) v (by rw[wj,v6 (by rw[hf];omega),hf];simpa using hv)
        rwa [<-wi] at this
      have:=ih a k (by simpa using hk)
      simp only[aB,aO,yZ] at this ⊢
      rw[y3,y4 (k*sz) sz,<-wi];exact this
theorem Seg.new {h:Hp}(cs:List Value)(ty:TypeId):Seg (h.push (.cells cs.toArray ty (0,0))) h.size 0 cs:=fun i v hv=>by
 unfold dR
 rw[er]
 simpa using hv
theorem bY {α:Type}{f:α->List Value}{sz:Nat}(hf:∀ x,(f x).length=sz)(l:List α):(l.flatMap f).length=l.length*sz:=by
 induction l with
 | nil=>simp
 | cons x l ih=>simp only[wj,y5,ih,hf,tv,y3];omega
theorem fU {α:Type}{f:α->List Value}{sz:Nat}(hf:∀ x,(f x).length=sz)(d:α):∀ (l:List α) (k:Nat),k<l.length->((l.flatMap f).drop (k*sz)).take sz=f (l.getD k d)
  | [],k,h=>by simp at h
  | x::l,0,h=>by
    simp only[wj,y6,yy,List.getD_cons_zero]
    rw[yz (by rw[hf];exact ea _),<-hf x,yY]
  | x::l,k+1,h=>by
    simp only[wj,yZ]
    rw[y3,List.drop_append,hf,show k*sz+sz-sz=k*sz by omega,List.drop_eq_nil_of_le (by rw[hf];omega),List.nil_append];exact fU hf d l k (by simpa using h)
theorem g8 (cs:List Value):∀ (a b:List Value) (o:Nat),bW (a++b) (a.length+o) cs=a++bW b o cs:=by
  induction cs with
  | nil=>intro a b o;rfl
  | cons c cs ih =>
    intro a b o
    show bW ((a++b).set (a.length+o) c) (a.length+o+1) cs=a++bW (b.set o c) (o+1) cs
    rw[List.set_append_right _ _ oM,show a.length+o-a.length=o by omega,wi];exact ih a (b.set o c) (o+1)
theorem kb:∀ (cs a b:List Value),a.length=cs.length->bW (a++b) 0 cs=cs++b:=by
  intro cs
  induction cs with
  | nil=>intro a b h;have:a=[]:=y7 (by simpa using h);subst this;rfl
  | cons c cs ih =>
    intro a b h;cases a with
    | nil=>simp at h
    | cons y a =>
      show bW (c::(a++b)) (0+1) cs=c::(cs++b)
      have:=g8 cs [c] (a++b) 0
      simp only[List.length_singleton,List.singleton_append] at this
      rw[show 0+1=1+0 by omega,this,ih a b (by simpa using h)]
theorem jE {α:Type}{f:α->List Value}{sz:Nat}(hf:∀ x,(f x).length=sz):∀ (l:List α) (k:Nat) (x:α),k<l.length->bW (l.flatMap f) (k*sz) (f x)=(l.set k x).flatMap f
  | [],k,x,h=>by simp at h
  | y::l,0,x,h=>by
    simp only[wj,y6,List.set_cons_zero]
    exact kb _ _ _ (by rw[hf,hf])
  | y::l,k+1,x,h=>by
    simp only[wj,y8]
    rw[y3,y4,<-hf y,g8,hf y,jE hf l k x (by simpa using h)]
section rows
variable {M:Ms}{P:Program}{n:Nat}{N R:Po}{X:Nat->Po}{ops:Array Oper}{k0:Nat}{hr:Hp}{AL:List Al}{L:Array Bool}{Γ:cl}{w:World}{h:Hp}
theorem LG.row {k:Nat}(t:Nat)(ty:TypeId)(m:Nat)(cs:List Value)(g:G w h)(d:(g6 ops Γ k && ((am ops k).dst == some t) && decide (t<n))=true)(c:bh ops Γ (am ops k)=some true)
  (a:(execOp (ev Γ) (am ops k)).run P w=.ok (.value (.slice (some ⟨w.heap.size,0,none⟩) m m)) (w.alloc (.cells cs.toArray ty (0,0))))
  (H:∀ b w' h',Up w h w' h'->Seg h' b 0 cs->LG P n N R X ops (k+1) ((t,.slice (some ⟨b,0,none⟩) m m)::Γ) w'):LG P n N R X ops k Γ w :=
 LG.val t _ _ d c a (H _ _ _ (Up.allocAny g _ _ (.inl rfl)) (by rw[g.size];exact Seg.new cs ty))
theorem Rg.row (i t:Nat)(ty:TypeId)(m:Nat)(cs:List Value)(e:(n0 n ops k0 AL L i t && aY Γ (am ops i))=true)(d:bh ops Γ (am ops i)=some true)
  (a:∀ w,(execOp (ev Γ) (am ops i)).run P w=.ok (.value (.slice (some ⟨w.heap.size,0,none⟩) m m)) (w.alloc (.cells cs.toArray ty (0,0))))
  (H:∀ b w' c,Up w h w' c->Seg c b 0 cs->EG M P n N R X ops k0 hr AL (L.setIfInBounds i true) ((t,.slice (some ⟨b,0,none⟩) m m)::Γ) w' c):EG M P n N R X ops k0 hr AL L Γ w h :=
 Rg.event i t e d (fun w' c u=>.inl ⟨_,_,_,a w',(Up.allocAny u.g _ _ (.inl rfl)).m M.l,H _ _ _ (u.trans (Up.allocAny u.g _ _ (.inl rfl))) (by rw[u.g.size];exact Seg.new cs ty)⟩)
theorem Rg.ownA {w0:World}{h0:Hp}{B:List Bx}{α:Type}(i t j:Nat)(l:List α)(f:α->List Value)(sz:Nat)(d:α)(e:Nat)(v:Value)(s:St w0 h0 w h B)(y:(dY n ops k0 AL L i t && aY Γ (am ops i) && i8 ops k0 i)=true)(p:bh ops Γ (am ops i)=some true)
  (o:(aw B j).b ∉ M.l)(F:decide (j<B.length)=true)(hB:(aw B j).vs=l.flatMap f)(hf:∀ x,(f x).length=sz)(hk:e<l.length)
  (D:bX P (execOp (ev Γ) (am ops i)) (f (l.getD e d))=some (.value v,lg (aw B j).b (0+e*sz) (f (l.getD e d)).length))
  (k:EG M P n N R X ops k0 hr AL (L.setIfInBounds i true) ((t,v)::Γ) w h):EG M P n N R X ops k0 hr AL L Γ w h :=
 Rg.load i t v y p (fun w' C=>cP _ _ _ _ D (fun q a u ha c=>by
  rw[fk _ _ _ _ _ ha,((s.own _ (bx (oT F))).mo C o).cell,hB];rw[<-fU hf d l e hk] at c
  have z:q<sz:=by
   rcases cD q sz with hl|hl
   ·exact hl
   ·rw[ta (by simp;omega)] at c;cases c
  rw[vj z,vl] at c
  rw[y9];exact c)) k
theorem LG.ownA {w0:World}{h0:Hp}{B:List Bx}{α:Type}{k:Nat}(t j:Nat)(l:List α)(f:α->List Value)(sz:Nat)(d:α)(e:Nat)(v:Value)(s:St w0 h0 w h B)(o:(g6 ops Γ k && ((am ops k).dst == some t) && decide (t<n))=true)(i:bh ops Γ (am ops k)=some true)
  (z:decide (j<B.length)=true)(hB:(aw B j).vs=l.flatMap f)(hf:∀ x,(f x).length=sz)(hk:e<l.length)
  (y:bX P (execOp (ev Γ) (am ops k)) (f (l.getD e d))=some (.value v,lg (aw B j).b (0+e*sz) (f (l.getD e d)).length))
  (H:LG P n N R X ops (k+1) ((t,v)::Γ) w):LG P n N R X ops k Γ w :=
 LG.val t v w o i (cP _ _ _ _ y (fun q a u ha c=>by
  rw[fk _ _ _ _ _ ha,(s.own _ (bx (oT z))).cell,hB];rw[<-fU hf d l e hk] at c
  have p:q<sz:=by
   rcases cD q sz with hl|hl
   ·exact hl
   ·rw[ta (by simp;omega)] at c;cases c
  rw[vj p,vl] at c
  rw[y9];exact c)) H
theorem LG.arr {w0:World}{h0:Hp}{B:List Bx}{k:Nat}(t:Nat)(ty:TypeId)(m:Nat)(vs:List Value)(s:St w0 h0 w h B)(d:(g6 ops Γ k && ((am ops k).dst == some t) && decide (t<n))=true)(c:bh ops Γ (am ops k)=some true)
  (a:(execOp (ev Γ) (am ops k)).run P w=.ok (.value (.slice (some ⟨w.heap.size,0,none⟩) m m)) (w.alloc (.cells vs.toArray ty (0,0))))
  (H:∀ b w' h',h.size<=b->Up w h w' h'->St w0 h0 w' h' (⟨b,ty,vs⟩::B)->LG P n N R X ops (k+1) ((t,.slice (some ⟨b,0,none⟩) m m)::Γ) w'):LG P n N R X ops k Γ w:=by
 have u:Up w h (w.alloc (.cells vs.toArray ty (0,0))) (h.push bg):=Up.allocAny s.g _ _ (.inr rfl);refine LG.val t _ _ d c a (H _ _ _ (by rw[s.g.size];exact ea _) u (St.new1 (x:=⟨0,0,.cells vs.toArray ty (0,0)⟩) s (s.step u) ⟨?_,?_,?_⟩ ty vs rfl))
 ·rw[heap_alloc];exact er
 ·rw[s.g.size];exact er
 ·show h.size<=w.heap.size;rw[s.g.size];exact ea _
def iw (B:List Bx)(j:Nat)(vs:List Value):List Bx:=B.set j { aw B j with vs:=vs }
theorem LG.putA {w0:World}{h0:Hp}{B:List Bx}{α:Type}{k:Nat}(j:Nat)(l:List α)(f:α->List Value)(sz e:Nat)(x:α)(s:St w0 h0 w h B)(D:G w0 h0)(y:(g6 ops Γ k && ((am ops k).dst == none))=true)(u:bh ops Γ (am ops k)=some true)
  (C:decide (j<B.length)=true)(hB:(aw B j).vs=l.flatMap f)(hf:∀ x,(f x).length=sz)(hk:e<l.length)
  (z:dO P (execOp (ev Γ) (am ops k))=some (.skip,np (aw B j).b (0+e*sz) (f x)))
  (H:∀ w',Put (aw B j).b w w'->St w0 h0 w' h (iw B j ((l.set e x).flatMap f))->LG P n N R X ops (k+1) Γ w'):LG P n N R X ops k Γ w:=by
 have o:=oT C
 have p:(0+e*sz)+(f x).length<=(aw B j).vs.length:=by
  rw[hB,bY hf,hf,y9,<-y3];exact zh _ hk
 obtain ⟨w',i,a,d⟩:=fy _ _ _ _ _ w z (s.own _ (bx o)) p;have c:=s.put D o a d;refine LG.store w' y u i (H w' a ?_)
 unfold ib at c
 rw[hB,y9,jE hf l e x hk] at c
 exact c
theorem T.putA {w0:World}{h0:Hp}{B:List Bx}{α:Type}(i j:Nat)(l:List α)(f:α->List Value)(sz e:Nat)(x:α)(s:St w0 h0 w h B)(I:G w0 h0)(C:(il ops k0 L i && aY Γ (am ops i) && ((am ops i).dst == none))=true)(y:bh ops Γ (am ops i)=some true)
  (F:decide (j<B.length)=true)(hB:(aw B j).vs=l.flatMap f)(hf:∀ x,(f x).length=sz)(hk:e<l.length)
  (D:dO P (execOp (ev Γ) (am ops i))=some (.skip,np (aw B j).b (0+e*sz) (f x)))
  (H:∀ w',Put (aw B j).b w w'->St w0 h0 w' h (iw B j ((l.set e x).flatMap f))->AG M P n N R X ops k0 (L.setIfInBounds i true) Γ w')(hz:∀ K bs,M.z=some (K,bs)->K<=(aw B j).b\/(aw B j).b∈bs:=by intro _ _ e;cases e):AG M P n N R X ops k0 L Γ w:=by
 have p:=oT F
 have u:(0+e*sz)+(f x).length<=(aw B j).vs.length:=by
  rw[hB,bY hf,hf,y9,<-y3];exact zh _ hk
 obtain ⟨w',o,a,d⟩:=fy _ _ _ _ _ w D (s.own _ (bx p)) u;have c:=s.put I p a d;refine T.store i w' C y o (a.tl hz) (H w' a ?_)
 unfold ib at c
 rw[hB,y9,jE hf l e x hk] at c
 exact c
end rows
theorem pE {a b:Int}(h:a=b):(a == b)=true:=by simpa using h
theorem fh {a b:Int}(h:a≠b):(a == b)=false:=by simpa using h
theorem Ca {a b:Int}(h:a≠b):(a != b)=true:=by simpa using h
theorem Jm {a b:Int}(h:a=b):(a != b)=false:=by simpa using h
theorem St.drop {w0:World}{h0:Hp}{w:World}{h:Hp}{B:List Bx}(s:St w0 h0 w h B)(k:Nat):St w0 h0 w h (B.drop k) :=
 ⟨s.up,fun x a=>s.own x (zy a),fun x a=>s.jk x (zy a),fun x a=>s.lo x (zy a),s.nd.sublist ((zY k B).map (·.b))⟩
theorem aW {a b:Int}(h:(a != b)=false):a=b:=by simpa using h
theorem aK {a b:Int}(h:(a != b)=true):a≠b:=by simpa using h
theorem aj {a b:Int}(h:(a == b)=false):a≠b:=by simpa using h
theorem qD {α:Type}{f:α->List Value}{c:α}{sz:Nat}(hf:(f c).length=sz)(a:0<sz):∀ (m i:Nat),i<m*sz->((zZ m c).flatMap f)[i]?=(f c)[i%sz]?
  | 0,i,h=>by simp at h
  | m + 1,i,h=>by
    rw[z1,wj]
    rcases cD i sz with hl|hl
    . rw[vi oM,z2 hl]
    . rw[v6 oM,hf,qD hf a m (i-sz) (by rw[y3] at h;omega)]
      congr 1
      rw[Nat.mod_eq_sub_mod hl]
theorem vM {α:Type}{f:α->List Value}{d:α}{z:Value}{sz m:Nat}(e:z.cells.toList=f d)(c:z.cells.size=sz)(a:0<sz):madeCells z.cells (m*sz)=((zZ m d).flatMap f).toArray:=by
 have hf:(f d).length=sz:=by rw[<-e];simpa using c
 apply Array.ext_getElem?
 intro i;rw[show ((zZ m d).flatMap f).toArray[i]?=((zZ m d).flatMap f)[i]? from by simp]
 rcases cD i (m*sz) with hl|hl
 ·rw[qD hf a m i hl,<-e]
  have h:i%sz<z.cells.size:=by rw[c];exact z6 _ a
  simp only[madeCells,Array.getElem?_map,Array.getElem?_range,hl,if_true,tq,c,Array.getElem?_toList]
  rw[ep h,getElem!_pos z.cells (i%sz) h]
 ·rw[dS (by rw[size_madeCells];exact hl),ta]
  have:∀ m,((zZ m d).flatMap f).length=m*sz:=by
   intro m
   induction m with
   | zero=>simp
   | succ m ih=>rw[z1,wj,y5,ih,hf,y3];omega
  rw[this];exact hl
section ops
variable {P:Program}{Γ:cl}{o:Oper}
theorem Gy {t e:TypeId}{x ix:Operand}{A:Z9}{len d sz:Nat}{i:Int}(k:Nat)(j:o.op=.indexAddr t x ix)(u:ev Γ x=.slice A len d)(hi:ev Γ ix=.int .i64 i)
    (h:P.underlying t=some (.slice e))(c:(P.info? e).map (·.size)=some sz)(p:A=some ⟨aB A,aO A,none⟩)(hk:i=k)(z:k<len)(w:World) :
    (execOp (ev Γ) o).run P w=.ok (.value (.pointer (some ⟨aB A,aO A+k*sz,none⟩))) w:=by
  subst hk
  unfold execOp
  simp only[j]
  rw[u,hi];have f:P.elem t=e:=by unfold Program.elem;rw[h]
  have h1:=run_indexAt_slice (P:=P) w t ⟨aB A,aO A,none⟩ len d .i64 (k:Int) (by rw[f];exact h);rw[if_pos ⟨by omega,by omega⟩,f] at h1
  have l:(sizeOf e).run P w=.ok sz w:=by
    cases a:P.info? e with
    | none=>rw[a] at c;cases c
    | some i =>
      rw[a] at c
      simp at c
      simp[sizeOf,typeInfo,a,c]
  rw[l] at h1
  have y:((⟨aB A,aO A,none⟩:Addr).add ((k:Int).toNat*sz))=⟨aB A,aO A+k*sz,none⟩:=by
    unfold Addr.add
    simp only[z7]
    split
    . rename_i h0;rw[h0];rfl
    . rfl
  simp only[Result.andThen] at h1
  rw[y] at h1
  rw[<-p] at h1
  rw[Sem.run_bind,h1]
  rfl
theorem Km {t e:TypeId}{x y:Operand}{z:Value}{m sz j:Nat}{α:Type}{f:α->List Value}{l:α}(C:o.op=.makeSlice t x y)(I:ev Γ x=.int .i64 (m:Int))(p:ev Γ y=.int .i64 (m:Int))
    (H:P.underlying t=some (.slice e))(hi:(P.info? e).map (fun i=>(i.zero,i.size,i.bytes))=some (some z,sz,j))(h:z.cells.toList=f l)(d:z.cells.size=sz)(c:0<sz)(J:j*m<=140737488355328)(F:m<9223372036854775808)(w:World) :
    (execOp (ev Γ) o).run P w=.ok (.value (.slice (some ⟨w.heap.size,0,none⟩) m m)) (w.alloc (.cells ((zZ m l).flatMap f).toArray e (0,0))):=by
  cases a:P.info? e with
  | none=>rw[a] at hi;cases hi
  | some inf =>
    rw[a] at hi
    simp only[tq,Option.some.injEq,Prod.mk.injEq] at hi
    obtain ⟨h1,D,B⟩:=hi
    unfold execOp
    simp only[C]
    have u:(inf.bytes:Int)*(m:Int)<=281474976710656:=by
      rw[B];have:((j*m:Nat):Int)<=281474976710656:=by omega
      simpa using this
    rw[I,p,Sem.run_bind,run_make (P:=P) w t e inf z H a h1 .i64 .i64 (m:Int) (m:Int) oM oM u oM]
    simp only[Result.andThen,z7,D]
    rw[vM h d c]
    rfl
theorem Kb {t e:TypeId}{x hi:Operand}{A:Z9}{len c:Nat}{i:Int}(k:Nat)(p:o.op=.slice t x none (some hi) none)(z:ev Γ x=.slice A len c)(h:ev Γ hi=.int .i64 i)
  (y:P.underlying t=some (.slice e))(u:(P.info? e).isSome=true)(hk:i=k)(j:k<=c)(w:World) :
  (execOp (ev Γ) o).run P w=.ok (.value (.slice A k c)) w:=by
 subst hk;obtain ⟨f,d⟩:=i3.1 u
 unfold execOp
 simp only[p,z8,tq]
 rw[z,h];have l:∀ a:Addr,a.add 0=a:=fun a=>by unfold Addr.add;simp
 have B:A.map (fun a=>a.add (0*f.size))=A:=by cases A<;>simp[l]
 simp[Instr.sliceAt,Instr.slice,Instr.sliceBounds,Instr.sliceBound,run_underlying y,asIntOf,sizeOf,typeInfo,d,Result.andThen,j]
 intro _;cases A<;>simp[l]
theorem F5 {t e:TypeId}{x d:Operand}{A:Z9}{len c sz:Nat}{i:Int}(k:Nat)(l:o.op=.slice t x (some d) none none)(u:ev Γ x=.slice A len c)(h:ev Γ d=.int .i64 i)
    (p:P.underlying t=some (.slice e))(f:(P.info? e).map (·.size)=some sz)(hk:i=k)(j:k<=len)(w:World) :
    (execOp (ev Γ) o).run P w=.ok (.value (.slice (if c=k then A else A.map (·.add (k*sz))) (len-k) (c-k))) w:=by
  subst hk;cases a:P.info? e with
  | none=>rw[a] at f;cases f
  | some inf =>
    rw[a] at f
    simp at f
    unfold execOp
    simp only[l,z8,tq]
    rw[u,h]
    simp[Instr.sliceAt,Instr.slice,Instr.sliceBounds,Instr.sliceBound,run_underlying p,asIntOf,sizeOf,typeInfo,a,Result.andThen,j,f]
end ops
def Eb (z:Int):List Value:=[.int .i64 z]
abbrev Si (A:Z9)(l:List Int):Hp->Prop:=fun h_=>SlO 1 Eb 0 h_ A l
structure Gro (h0:Hp) (B:List Nat) (w:World) (h:Hp) (ty:TypeId) (sz:Nat) (v:Value) (n:Nat) (cs:List Value):Prop where
  own:w.ownsRow h0.size ty sz v n cs
  jk:∀ b,v.ownBlock=some b->h[b]?=some bg
  ap:∀ b,v.ownBlock=some b->b ∉ B
section gro
variable {h0:Hp}{B:List Nat}{w:World}{h:Hp}{ty:TypeId}{sz:Nat}{v:Value}{n:Nat}{cs:List Value}
theorem Gro.nil:Gro h0 B w h ty sz (.slice none 0 0) 0 []:=⟨World.ownsRow_nil _ _ _ _,fun b a=>by simp[Value.ownBlock] at a,fun b a=>by simp[Value.ownBlock] at a⟩
theorem eD {base:Nat}(o:w.ownsRow base ty sz v n cs){w':World}(a:∀ b,v.ownBlock=some b->w'.heap[b]?=w.heap[b]?):w'.ownsRow base ty sz v n cs:=by
 rcases o with ⟨h1,h2|⟨g,cap,cur,hv,hb',hg,hn,hm,hs,ht⟩⟩
 ·exact ⟨h1,.inl h2⟩
 ·exact ⟨h1,.inr ⟨g,cap,cur,hv,hb',(a g (by rw[hv];rfl)).trans hg,hn,hm,hs,ht⟩⟩
theorem Gro.lt (r:Gro h0 B w h ty sz v n cs){b:Nat}(a:v.ownBlock=some b):b<h.size:=aR (r.jk b a)
theorem js {base:Nat}(o:w.ownsRow base ty sz v n cs){b:Nat}(a:v.ownBlock=some b):b<w.heap.size:=by
 rcases o with ⟨_,⟨rfl,_⟩|⟨g,cap,cur,rfl,_,hg,_⟩⟩
 ·simp[Value.ownBlock] at a
 ·simp[Value.ownBlock] at a
  subst a
  rcases cD g w.heap.size with hl|hl
  ·exact hl
  ·rw[dS hl] at hg;cases hg
theorem Gro.up (r:Gro h0 B w h ty sz v n cs){w':World}{c:Hp}(u:Up w h w' c):Gro h0 B w' c ty sz v n cs :=
 ⟨eD r.own (fun b a=>Below.block u.ext b (js r.own a)),fun b a=>(u.gr.blk b (r.lt a)).trans (r.jk b a),r.ap⟩
theorem Gro.put (r:Gro h0 B w h ty sz v n cs){w':World}{b:Nat}(p:Put b w w')(a:b∈B):Gro h0 B w' h ty sz v n cs :=
 ⟨eD r.own (fun c d=>p.blk c (fun e=>r.ap c d (e▸a))),r.jk,r.ap⟩
theorem Gro.new (r:Gro h0 B w h ty sz v n cs)(b:Nat)(d:∀ c,v.ownBlock=some c->c≠b):Gro h0 (b::B) w h ty sz v n cs :=
 ⟨r.own,r.jk,fun c a f=>by
  rcases gs.1 f with e|e
  ·exact d c a e
  ·exact r.ap c a e⟩
theorem Gro.sub (r:Gro h0 B w h ty sz v n cs)(a:List Nat)(e:∀ b∈a,b∈B):Gro h0 a w h ty sz v n cs:=⟨r.own,r.jk,fun b c d=>r.ap b c (e b d)⟩
theorem Gro.out (r:Gro h0 B w h ty sz v n cs){a:Hp}{b:Nat}(f:b∈B)(i:∀ c,c≠b->a[c]?=h[c]?):Gro h0 B w a ty sz v n cs :=
 ⟨r.own,fun c d=>(i c (fun e=>r.ap c d (e▸f))).trans (r.jk c d),r.ap⟩
theorem Gro.app (r:Gro h0 B w h ty sz v n cs){w':World}{d:Hp}{row:Option Nat}(f:w.grownBy w' row)(i:Gr h d)(c:∀ b,v.ownBlock=some b->row≠some b):Gro h0 B w' d ty sz v n cs :=
 ⟨eD r.own (fun b a=>f.block b (js r.own a) (fun e=>c b a e.symm)),fun b a=>(i.blk b (r.lt a)).trans (r.jk b a),r.ap⟩
theorem Bg {w0:World}{j:List Bx}{w':World}(s:St w0 h0 w h j)(y:G w0 h0)(r:Gro h0 (j.map (·.b)) w h ty sz v n cs)(c:w.grownBy w' v.ownBlock):∃ l,Gr h l/\St w0 h0 w' l j/\∀ b,h.size<=b->b<w'.heap.size->l[b]?=some bg:=by
  have i:∀ b,v.ownBlock=some b->h0.size<=b:=by
    intro b a
    rcases r.own with ⟨_,⟨rfl,_⟩|⟨g,cap,cur,rfl,hbb,_⟩⟩
    . simp[Value.ownBlock] at a
    . simp[Value.ownBlock] at a;omega
  have u:=s.g.size;have o:=c.size;have d:Gr h (h++s5 (w'.heap.size-h.size) bg):=⟨by simp,fun b a=>tf a⟩;refine ⟨h++s5 (w'.heap.size-h.size) bg,d,⟨⟨⟨c.os.trans s.up.ext.os,c.tape.trans s.up.ext.tape,c.output.trans s.up.ext.output,eb s.up.ext.size o,fun b a=>?_⟩,s.up.gr.trans d,⟨by simp;omega,fun b=>?_⟩⟩,?_,?_,s.lo,s.nd⟩,?_⟩
  . rw[c.block b (ek a s.up.ext.size) (fun e=>by have:=i b e.symm;rw[y.size] at a;omega)]
    exact Below.block s.up.ext b a
  . rcases cD b h.size with a|a
    . rw[tf a]
      by_cases e:v.ownBlock=some b
      . exact .inr (r.jk b e)
      . rw[c.block b oM (fun p=>e p.symm)];exact s.g.blk b
    . by_cases hl:b<w'.heap.size
      . right
        rw[Ab a,Af,if_pos oM]
      . left
        rw[dS (by simp;omega),dS oM]
  . intro x f
    show w'.heap[x.b]?=_
    rw[c.block x.b (s.own x f).lt (fun e=>r.ap x.b e.symm (gg.2 ⟨x,f,rfl⟩))];exact s.own x f
  . intro x f
    rw[d.blk _ (aR (s.jk x f))];exact s.jk x f
  . intro b h1 z
    rw[Ab h1,Af,if_pos oM]
def Apart (v u:Value):Prop:=∀ b,v.ownBlock=some b->u.ownBlock≠some b
theorem Apart.symm {v u:Value}(h:Apart v u):Apart u v:=fun b a hv=>h b hv a
theorem Apart.grown {v v' u:Value}(h:Apart v u)(c:v'.ownBlock=v.ownBlock\/v'.ownBlock=some w.heap.size)(d:∀ b,u.ownBlock=some b->b<w.heap.size):Apart v' u:=fun b hv a=>by
 rcases c with e|e
 ·exact h b (e▸hv) a
 ·rw[e] at hv
  injection hv with hv
  have:=d b a
  omega
theorem Apart.nil {u:Value}:Apart (.slice none 0 0) u:=fun b a=>by simp[Value.ownBlock] at a
end gro
section app
variable {P:Program}{n:Nat}{N R:Po}{X:Nat->Po}{ops:Array Oper}{k0:Nat}{hr:Hp}{AL:List Al}{L:Array Bool}{Γ:cl}{w:World}{h:Hp}{w0:World}{h0:Hp}{B:List Bx}
theorem lj {o:Oper}{x y:Operand}{t e:TypeId}{z:Value}{sz D m m2 c:Nat}{v:Value}{cs news:List Value}{a:Addr}(J:o.op=.call { callee:=.builtin .append,args:=#[x,y],argTypes:=#[t,t] })
    (U:ev Γ x=v)(F:ev Γ y=.slice (some a) m2 c)(S:P.underlying t=some (.slice e))(hi:(P.info? e).map (fun i=>(i.zero,i.size,i.bytes))=some (some z,sz,D))(C:z.cells.size=sz)(l:0<sz)
    (s:St w0 h0 w h B)(r:Gro h0 (B.map (·.b)) w h e sz v m cs)(K:news.length=m2*sz)(f:∀ j u,news[j]?=some u->w.cell? (a.add j)=some u)(h1:∀ u∈news,u.oneCell'=true)
    (V:m+m2<=1099511627776)(H:(m+m2)*D<=140737488355328) :
    ∃ v' w',(execOp (ev Γ) o).run P w=.ok (.value v') w'/\w'.ownsRow h0.size e sz v' (m+m2) (cs++news)/\w.grownBy w' v.ownBlock/\(v'.ownBlock=v.ownBlock\/v'.ownBlock=some w.heap.size):=by
  cases d:P.info? e with
  | none=>rw[d] at hi;cases hi
  | some inf =>
    rw[d] at hi
    simp only[tq,Option.some.injEq,Prod.mk.injEq] at hi
    obtain ⟨i1,Q,M⟩:=hi;obtain ⟨v',w',p,L,I,W,O⟩:=run_append_own_at (P:=P) w h0.size t o.type e inf z sz D S d i1 Q M C l v m cs r.own a m2 c news K f h1 (by unfold maxLen;omega) H (by rw[s.g.size];exact s.sz);refine ⟨v',w',?_,L,I,O⟩
    unfold execOp
    simp only[J,resolve,invoke,builtin,Sem.run_bind,Sem.run_pure,Result.andThen_ok,List.map_toArray,Ag,List.map_nil,U,F,p]
theorem Gro.grown {ty:TypeId}{sz m m2:Nat}{v v':Value}{cs news:List Value}{w':World}{c:Hp}(s:St w0 h0 w h B)(r:Gro h0 (B.map (·.b)) w h ty sz v m cs)(i:w'.ownsRow h0.size ty sz v' (m+m2) (cs++news))(f:v'.ownBlock=v.ownBlock\/v'.ownBlock=some w.heap.size)(y:Gr h c)(u:∀ b,h.size<=b->b<w'.heap.size->c[b]?=some bg) :
  Gro h0 (B.map (·.b)) w' c ty sz v' (m+m2) (cs++news):=by
 have d:∀ b,v'.ownBlock=some b->b<w'.heap.size:=by
  intro b a
  rcases i with ⟨_,⟨rfl,_⟩|⟨g,cap,cur,rfl,_,hg,_⟩⟩
  ·simp[Value.ownBlock] at a
  ·simp[Value.ownBlock] at a
   subst a
   rcases cD g w'.heap.size with hl|hl
   ·exact hl
   ·rw[dS hl] at hg;cases hg
 refine ⟨i,fun b a=>?_,fun b a=>?_⟩
 ·rcases f with e|e
  ·rw[e] at a;rw[y.blk b (r.lt a)];exact r.jk b a
  ·have:b=w.heap.size:=by rw[e] at a;injection a with a;exact a.symm
   exact u b (by rw[this,s.g.size];exact ea _) (d b a)
 ·rcases f with e|e
  ·rw[e] at a;exact r.ap b a
  ·have:b=w.heap.size:=by rw[e] at a;injection a with a;exact a.symm
   intro l;obtain ⟨x,o,p⟩:=gg.1 l;have:=(s.own x o).lt;have j:x.b=b:=p
   omega
theorem jH {b:Nat}{news:List Value}(g:G w h)(a:Seg h b 0 news):∀ j u,news[j]?=some u->w.cell? ((⟨b,0,none⟩:Addr).add j)=some u:=by
 intro j u c;have:=kV g (a j u c)
 unfold Addr.add
 split
 ·rename_i h0;subst h0;exact this
 ·exact this
end app
theorem UpM.put {M:List Nat}{w0 w w':World}{h0 h:Hp}{b:Nat}(u:UpM M w0 h0 w h)(p:Put b w w')(a:b∈M)(g:G w' h):UpM M w0 h0 w' h :=
 ⟨⟨p.os.trans u.mo.os,p.tape.trans u.mo.tape,p.output.trans u.mo.output,by rw[p.size];exact u.mo.size,fun c d hn=>(p.blk c (fun e=>hn (e▸a))).trans (u.mo.blk c d hn)⟩,u.gr,g⟩
theorem St.at_ {w:World}{h:Hp}{rb:Nat}{t:TypeId}{vs:List Value}(g:G w h)(o:Own w rb t vs)(j:h[rb]?=some bg):∃ w0 h0,G w0 h0/\St w0 h0 w h [⟨rb,t,vs⟩]:=by
 have f:=aR j;have e:=g.size;refine ⟨{ w with heap:=w.heap.extract 0 rb },h.extract 0 rb,⟨by simp;omega,fun b=>?_⟩,⟨⟨⟨rfl,rfl,rfl,by simp;omega,fun b c=>?_⟩,⟨by simp;omega,fun b c=>?_⟩,g⟩,?_,?_,?_,by simp⟩⟩
 ·show (h.extract 0 rb)[b]?=(w.heap.extract 0 rb)[b]?\/_
  rw[Am,Am]
  by_cases c:b<rb
  ·rw[if_pos oM,if_pos oM];simpa using g.blk b
  ·rw[if_neg oM,if_neg oM];exact .inl rfl
 ·have d:b<rb:=by have:b<(w.heap.extract 0 rb).size:=c;simp at this;omega
  show w.heap[b]?=(w.heap.extract 0 rb)[b]?
  rw[Am,if_pos oM];simp
 ·have d:b<rb:=by simp at c;omega
  rw[Am,if_pos oM];simp
 ·intro x a;rw[sA] at a;subst a;exact o
 ·intro x a;rw[sA] at a;subst a;exact j
 ·intro x a;rw[sA] at a;subst a;simp;omega
def fd (rb:Nat)(w0:World)(h0:Hp)(Φ:Value->World->Hp->Prop):Ending->World->Prop:=fun e w'=>∃ v h',e=.returned v/\UpM [rb] w0 h0 w' h'/\Φ v w' h'
section
variable {P:Program}{n:Nat}{Γ:cl}{w:World}{h:Hp}{w0 wz:World}{h0 hz:Hp}{B:List Bx}
theorem retM {d:Func}{rb:Nat}{Φ:Value->World->Hp->Prop}(s:St wz hz w h B)(f:UpM [rb] w0 h0 w h)(ps:List (Nat × Nat × Nat))(v:Value)(hk:(nt d Γ && db B ps)=true)(i:bX P (oA d Γ) (dM B ps)=some (v,cG B ps))(c:Φ v w h) :
  ∀ a,Kn n a Γ->nC P d (fd rb w0 h0 Φ) a w:=by
 intro a e;rw[i2] at hk
 refine ⟨e.df.trans (oX hk.1),v,?_,v,h,rfl,f,c⟩;rw[iF e hk.1];exact cP _ _ _ _ i (eF s.own ps hk.2)
theorem St.stepM (s:St w0 h0 w h B)(Q:G w0 h0){j:Nat}{vs:List Value}{w':World}{D:Hp}(C:j<B.length)(u:UpM [(aw B j).b] w h w' D)(M:Own w' (aw B j).b (aw B j).t vs):St w0 h0 w' D (iw B j vs):=by
  have p:=bx C;have O:=s.lo _ p
  have z:(iw B j vs).map (·.b)=B.map (·.b):=by
    unfold iw
    rw[tw]
    apply tz
    intro i
    by_cases e:j=i
    . subst e
      rw[ua (by simpa using C)]
      simp[aw,C]
    . rw[ub e]
  have I:Up w0 h0 w' D:=by
    refine ⟨⟨u.mo.os.trans s.up.ext.os,u.mo.tape.trans s.up.ext.tape,u.mo.output.trans s.up.ext.output,eb s.up.ext.size u.mo.size,fun c F=>?_⟩,s.up.gr.trans u.gr,u.g⟩;rw[u.mo.blk c (ek F s.up.ext.size) (fun p=>by rw[sA] at p;rw[Q.size] at F;omega)];exact Below.block s.up.ext c F
  have a:∀ x∈iw B j vs,∃ y∈B,y.b=x.b:=by
    intro x f;have:x.b∈(iw B j vs).map (·.b):=gg.2 ⟨x,f,rfl⟩;rw[z] at this
    obtain ⟨y,l,d⟩:=gg.1 this;exact ⟨y,l,d⟩
  refine ⟨I,?_,?_,?_,by rw[z];exact s.nd⟩
  . intro x f
    obtain ⟨i,hi,d⟩:=ul.1 f;have o:i<B.length:=by simpa [iw] using hi
    by_cases e:j=i
    . subst e
      have:x={ aw B j with vs:=vs }:=by rw[<-d];simp[iw]
      subst this;exact M
    . have H:x=B[i]:=by rw[<-d];simp[iw,e]
      subst H
      have J:B[i].b≠(aw B j).b:=by
        intro K
        have h1:(B.map (·.b))[i]'(by simpa using o)=(B.map (·.b))[j]'(by simpa using C):=by
          simp only[um]
          rw[K]
          simp[aw,C]
        exact e ((uA s.nd).1 h1).symm
      have L:=s.own _ (e5 o)
      show w'.heap[B[i].b]?=_
      rw[u.mo.blk _ L.lt (fun p=>J (sA.1 p))];exact L
  . intro x f
    obtain ⟨y,l,d⟩:=a x f;rw[<-d,u.gr.blk _ (aR (s.jk y l))];exact s.jk y l
  . intro x f
    obtain ⟨y,l,d⟩:=a x f;rw[<-d];exact s.lo y l
theorem Gro.upM {f:Hp}{d:List Nat}{ty:TypeId}{sz:Nat}{v:Value}{m:Nat}{cs:List Value}(r:Gro f d w h ty sz v m cs){w':World}{i:Hp}{b:Nat}(u:UpM [b] w h w' i)(j:b∈d):Gro f d w' i ty sz v m cs :=
 ⟨eD r.own (fun c a=>u.mo.blk c (js r.own a) (fun e=>by rw[sA] at e;exact r.ap c a (e▸j))),fun c a=>(u.gr.blk c (r.lt a)).trans (r.jk c a),r.ap⟩
theorem gB (s:St w0 h0 w h B){i j:Nat}(hi:decide (i<B.length)=true)(f:decide (j<B.length)=true)(d:(i == j)=false):(aw B i).b≠(aw B j).b:=by
 have c:=oT hi;have a:=oT f;intro e
 have h1:(B.map (·.b))[i]'(by simpa using c)=(B.map (·.b))[j]'(by simpa using a):=by
  simp only[um]
  simpa [aw,c,a] using e
 have:=(uA s.nd).1 h1;subst this
 simp at d
end
section pub
variable {h0:Hp}{B:List Nat}{w:World}{h:Hp}{ty:TypeId}{sz:Nat}{v:Value}{n:Nat}{cs:List Value}
theorem Gro.pub3 {w0:World}{o:List Bx}{A:Z9}{d a:Nat}(s:St w0 h0 w h o)(r:Gro h0 (o.map (·.b)) w h ty sz (.slice A d a) n cs):∃ p,St w0 h0 w p o/\Gw h p/\(∀ c,(Value.slice A d a).ownBlock≠some c->p[c]?=h[c]?)/\d=n/\n<=a/\(0<n->A=some ⟨aB A,0,none⟩/\aO A=0)/\Seg p (aB A) 0 cs:=by
  rcases r.own with ⟨h1,⟨e,rfl⟩|⟨b,cap',cur,e,hbb,hg,hn,hm,hs,ht⟩⟩
  . injection e with e1 e2 e3
    subst e1 e2 e3;have:cs=[]:=y7 (by simpa using h1);subst this;exact ⟨h,s,⟨ea _,fun _ _=>.inl rfl⟩,fun _ _=>rfl,rfl,ea _,fun h=>by omega,fun i v hv=>by simp at hv⟩
  . injection e with e1 e2 e3
    subst e1 e2 e3;have f:=r.jk b rfl;have l:=aR f;have B:∀ x∈o,x.b≠b:=fun x z e=>r.ap b rfl (gg.2 ⟨x,z,e⟩)
    refine ⟨h.setIfInBounds b (.cells cur ty),⟨⟨s.up.ext,⟨by simp;exact s.up.gr.size,fun c y=>?_⟩,⟨by simp;exact s.up.g.size,fun c=>?_⟩⟩,s.own,?_,s.lo,s.nd⟩,⟨by simp,fun c y=>?_⟩,fun c y=>?_,rfl,hn,fun _=>⟨rfl,rfl⟩,?_⟩
    . rw[hP oM];exact s.up.gr.blk c y
    . by_cases e:b=c
      . subst e;left;rw[As l];exact hg.symm
      . rw[hP e];exact s.up.g.blk c
    . intro x z
      rw[hP (Ne.symm (B x z))];exact s.jk x z
    . by_cases e:b=c
      . subst e;exact .inr f
      . left;rw[hP e]
    . rw[hP (fun e=>y (by rw[<-e];rfl))]
    . intro i u j
      unfold dR
      show (match (h.setIfInBounds b (.cells cur ty))[b]? with|some (.cells c _ _)=>c[0+i]?|_=>none)=some u
      rw[As l];rw[<-ht] at j
      have hi:i<d*sz:=by
        rcases cD i (d*sz) with hl|hl
        . exact hl
        . rw[ta (by simp;omega)] at j;cases j
      rw[vj hi] at j
      simpa using j
theorem Gro.pubo (r:Gro h0 B w h ty sz v n cs){d:Hp}{u:Value}(f:∀ c,u.ownBlock≠some c->d[c]?=h[c]?)(e:Apart v u):Gro h0 B w d ty sz v n cs:=⟨r.own,fun b a=>(f b (e b a)).trans (r.jk b a),r.ap⟩
theorem SlO.of_pub {α:Type}{f:α->List Value}{d:α}{l:List α}{A:Z9}(hf:∀ x,(f x).length=sz)(e:0<l.length->A=some ⟨aB A,0,none⟩/\aO A=0)(c:Seg h (aB A) 0 (l.flatMap f)):SlO sz f d h A l:=by
 rcases Aw l.length with h0'|h0'
 ·have:l=[]:=y7 h0'
  subst this;exact SlO.nil
 ·obtain ⟨a,i⟩:=e h0'
  have:=SlO.of_flat (d:=d) hf c;rw[<-a] at this
  exact this
end pub
theorem St.pubX {w0:World}{h0:Hp}{w:World}{h:Hp}{B:List Bx}(s:St w0 h0 w h B)(j:Nat)(u:j<B.length):∃ l,St w0 h0 w l (B.eraseIdx j)/\Gw h l/\Seg l (aw B j).b 0 (aw B j).vs/\l[(aw B j).b]?=some (.cells (aw B j).vs.toArray (aw B j).t (0,0))/\∀ c,c≠(aw B j).b->l[c]?=h[c]?:=by
 have C:=bx u;have H:=s.own _ C;have o:=s.jk _ C;have d:=aR o
 have D:∀ x∈B.eraseIdx j,x.b≠(aw B j).b:=by
  intro x a;obtain ⟨i,hi,y⟩:=ul.1 a;rw[AS] at y
  intro f;have p:=s.nd;have F:(aw B j)=B[j]:=by unfold aw;simp[u]
  split at y
  ·rename_i I
   have:(B.map (·.b))[i]'(by simp;omega)=(B.map (·.b))[j]'(by simpa using u):=by simp only[um];rw[y,f,F]
   have:=(uA p).1 this
   omega
  ·rename_i I
   have z:i+1<B.length:=by rw[A0 u] at hi;omega
   have:(B.map (·.b))[i+1]'(by simpa using z)=(B.map (·.b))[j]'(by simpa using u):=by simp only[um];rw[y,f,F]
   have:=(uA p).1 this
   omega
 refine ⟨h.setIfInBounds (aw B j).b (.cells (aw B j).vs.toArray (aw B j).t (0,0)),⟨⟨s.up.ext,⟨by simp;exact s.up.gr.size,fun b f=>?_⟩,⟨by simp;exact s.up.g.size,fun b=>?_⟩⟩,?_,?_,?_,?_⟩,⟨by simp,fun b f=>?_⟩,?_,As d,fun c J=>hP (Ne.symm J)⟩
 ·have:=s.lo _ C
  rw[hP oM];exact s.up.gr.blk b f
 ·by_cases e:(aw B j).b=b
  ·subst e
   left
   rw[As d];exact H.symm
  ·rw[hP e];exact s.up.g.blk b
 ·exact fun x a=>s.own x (A6 a)
 ·intro x a
  rw[hP (Ne.symm (D x a))];exact s.jk x (A6 a)
 ·exact fun x a=>s.lo x (A6 a)
 ·exact s.nd.sublist ((A7 B j).map (·.b))
 ·by_cases e:(aw B j).b=b
  ·subst e;exact .inr o
  ·left;rw[hP e]
 ·intro i v hv
  unfold dR
  rw[As d]
  simpa using hv
structure Rw where
  ty:TypeId
  sz:Nat
  A:Z9
  c:Nat
  n:Nat
  cs:List Value
  deriving Inhabited
def Rw.v (r:Rw):Value:=.slice r.A r.n r.c
def AllF:List (Hp->Prop)->Hp->Prop
  | [],_=>True
  | p::l,h=>p h/\AllF l h
theorem AllF.q {a b c d:Hp->Prop}{F:List (Hp->Prop)}{h:Hp}(x:AllF (a::b::c::d::F) h):AllF F h:=x.2.2.2.2
theorem AllF.r {a b:Hp->Prop}{F:List (Hp->Prop)}{h:Hp}(x:AllF (a::b::F) h):AllF F h:=x.2.2
theorem AllF.gw:∀ {F:List (Hp->Prop)} {h a:Hp},(∀ p∈F,∀ h a,Gw h a->p h->p a)->Gw h a->AllF F h->AllF F a
 | [],_,_,_,_,_=>trivial
 | p::_,_,_,m,u,x=>⟨m p (by simp) _ _ u x.1,AllF.gw (fun q c=>m q (by simp[c])) u x.2⟩
structure SS (w0:World) (h0:Hp) (w:World) (h:Hp) (B:List Bx) (R:List Rw) (F:List (Hp->Prop)):Prop where
  g0:G w0 h0
  st:St w0 h0 w h B
  ro:∀ r∈R,Gro h0 (B.map (·.b)) w h r.ty r.sz r.v r.n r.cs
  ap:R.Pairwise (fun r s=>Apart r.v s.v)
  mo:∀ p∈F,∀ h h',Gw h h'->p h->p h'
  f:AllF F h
section ss
variable {w0:World}{h0:Hp}{w:World}{h:Hp}{B:List Bx}{R:List Rw}{F:List (Hp->Prop)}
theorem SS.start (g:G w h):SS w h w h [] [] []:=⟨g,St.start g,fun _ a=>(by cases a),.nil,fun _ a=>(by cases a),trivial⟩
theorem SS.g (s:SS w0 h0 w h B R F):G w h:=s.st.g
theorem SS.step (s:SS w0 h0 w h B R F){w':World}{a:Hp}(u:Up w h w' a):SS w0 h0 w' a B R F :=
 ⟨s.g0,s.st.step u,fun r hr=>(s.ro r hr).up u,s.ap,s.mo,s.f.gw s.mo u.gr.gw⟩
theorem SS.add (s:SS w0 h0 w h B R F){K:Hp->Prop}(x:K h)(m:∀ h h',Gw h h'->K h->K h':=by intro _ _ u x;exact x.gw u):SS w0 h0 w h B R (K::F) :=
 ⟨s.g0,s.st,s.ro,s.ap,fun p a=>by
  rcases gs.1 a with rfl|a
  ·exact m
  ·exact s.mo p a,x,s.f⟩
theorem SS.a_SlO {α:Type}{sz:Nat}{f:α->List Value}{d:α}{A:Z9}{l:List α}(s:SS w0 h0 w h B R F)(x:SlO sz f d h A l):SS w0 h0 w h B R ((fun h=>SlO sz f d h A l)::F):=s.add (K:=fun h=>SlO sz f d h A l) x
theorem SS.a_Seg {b o:Nat}{cs:List Value}(s:SS w0 h0 w h B R F)(x:Seg h b o cs):SS w0 h0 w h B R ((fun h=>Seg h b o cs)::F):=s.add (K:=fun h=>Seg h b o cs) x
theorem SS.tl {K:Hp->Prop}(s:SS w0 h0 w h B R (K::F)):SS w0 h0 w h B R F:=⟨s.g0,s.st,s.ro,s.ap,fun p a=>s.mo p (List.mem_cons_of_mem _ a),s.f.2⟩
theorem SS.nil (s:SS w0 h0 w h B R F)(ty:TypeId)(sz:Nat):SS w0 h0 w h B (⟨ty,sz,none,0,0,[]⟩::R) F :=
 ⟨s.g0,s.st,fun r hr=>by
  rcases gs.1 hr with rfl|hr
  ·exact Gro.nil
  ·exact s.ro r hr,List.pairwise_cons.2 ⟨fun _ _=>Apart.nil,s.ap⟩,s.mo,s.f⟩
theorem SS.to (s:SS w0 h0 w h B R F)(a:List Bx)(R':List Rw)(e:B=a:=by kernel_rfl)(c:R=R':=by kernel_rfl):SS w0 h0 w h a R' F:=e▸c▸s
theorem o9 {j o:Nat}{cs:List Value}(a:j<B.length):(ib B j o cs).map (·.b)=B.map (·.b):=by
 unfold ib
 rw[tw]
 apply tz
 intro i
 by_cases e:j=i
 ·subst e
  rw[ua (by simpa using a)]
  simp[aw,a]
 ·rw[ub e]
theorem kv {j:Nat}{vs:List Value}(a:j<B.length):(iw B j vs).map (·.b)=B.map (·.b):=by
 unfold iw
 rw[tw]
 apply tz
 intro i
 by_cases e:j=i
 ·subst e
  rw[ua (by simpa using a)]
  simp[aw,a]
 ·rw[ub e]
theorem SS.put0 (s:SS w0 h0 w h B R F){j:Nat}{a:List Bx}{w':World}(c:j<B.length)(p:Put (aw B j).b w w')(d:St w0 h0 w' h a)(e:a.map (·.b)=B.map (·.b)):SS w0 h0 w' h a R F :=
 ⟨s.g0,d,fun r hr=>by rw[e];exact (s.ro r hr).put p (gg.2 ⟨_,bx c,rfl⟩),s.ap,s.mo,s.f⟩
theorem SS.new (s:SS w0 h0 w h B R F){w':World}{a:Hp}(u:Up w h w' a){b:Nat}{ty:TypeId}{vs:List Value}(j:h.size<=b)(i:St w0 h0 w' a (⟨b,ty,vs⟩::B)):SS w0 h0 w' a (⟨b,ty,vs⟩::B) R F :=
 ⟨s.g0,i,fun r hr=>((s.ro r hr).up u).new b (fun c d e=>by have:=(s.ro r hr).lt d;omega),s.ap,s.mo,s.f.gw s.mo u.gr.gw⟩
theorem SS.stepM (s:SS w0 h0 w h B R F)(j:Nat){rb:Nat}{vs:List Value}{w':World}{c:Hp}(u:UpM [rb] w h w' c)(d:Own w' rb (aw B j).t vs)(i:decide (j<B.length)=true:=by kernel_rfl)(e:(aw B j).b=rb:=by kernel_rfl):SS w0 h0 w' c (iw B j vs) R F:=by
 subst e;have a:=oT i;exact ⟨s.g0,s.st.stepM s.g0 a u d,fun r hr=>by rw[kv a];exact (s.ro r hr).upM u (gg.2 ⟨_,bx a,rfl⟩),s.ap,s.mo,s.f.gw s.mo u.gr.gw⟩
theorem SS.drop (s:SS w0 h0 w h B R F)(k m:Nat):SS w0 h0 w h (B.drop k) (R.drop m) F :=
 ⟨s.g0,s.st.drop k,fun r hr=>(s.ro r (zy hr)).sub _ (fun b c=>by
  obtain ⟨x,a,e⟩:=gg.1 c;exact gg.2 ⟨x,zy a,e⟩),s.ap.sublist (zY _ _),s.mo,s.f⟩
theorem SS.own (s:SS w0 h0 w h B R F)(j:Nat)(a:decide (j<B.length)=true:=by kernel_rfl):Own w (aw B j).b (aw B j).t (aw B j).vs:=s.st.own _ (bx (oT a))
theorem SS.jk (s:SS w0 h0 w h B R F)(j:Nat)(a:decide (j<B.length)=true:=by kernel_rfl):h[(aw B j).b]?=some bg:=s.st.jk _ (bx (oT a))
theorem SS.pub (s:SS w0 h0 w h B R F)(j:Nat)(u:decide (j<B.length)=true:=by kernel_rfl):∃ c,SS w0 h0 w c (B.eraseIdx j) R F/\Seg c (aw B j).b 0 (aw B j).vs/\h0.size<=(aw B j).b/\c[(aw B j).b]?=some (.cells (aw B j).vs.toArray (aw B j).t (0,0)):=by
 have a:=oT u;obtain ⟨c,z,gw,l,y,d⟩:=s.st.pubX j a;have i:=bx a;refine ⟨c,⟨s.g0,z,fun r hr=>((s.ro r hr).out (gg.2 ⟨_,i,rfl⟩) d).sub _ (fun b o=>?_),s.ap,s.mo,s.f.gw s.mo gw⟩,l,s.st.lo _ i,y⟩;obtain ⟨x,p,e⟩:=gg.1 o;exact gg.2 ⟨x,A6 p,e⟩
theorem SS.take (s:SS w0 h0 w h B R F){w':World}{d:Hp}(u:Up w h w' d){b:Nat}{ty:TypeId}{vs:List Value}(z:h.size<=b)(f:d[b]?=some (.cells vs.toArray ty (0,0)))(l:(ty == 0)=false:=by kernel_rfl) :
  ∃ j,SS w0 h0 w' j (⟨b,ty,vs⟩::B) R F/\(∀ c,c≠b->j[c]?=d[c]?)/\Gr h j:=by
 have o:=aR f;have p:Gr h (d.setIfInBounds b bg):=⟨by simp;exact u.gr.size,fun c i=>by rw[hP oM];exact u.gr.blk c i⟩
 have K:G w' (d.setIfInBounds b bg):=⟨by simp;exact u.g.size,fun c=>by
  by_cases e:b=c
  ·subst e;right;rw[As o]
  ·rw[hP e];exact u.g.blk c⟩
 have C:Up w h w' (d.setIfInBounds b bg):=⟨u.ext,p,K⟩
 have H:Own w' b ty vs:=by
  rcases u.g.blk b with e|e
  ·exact e.symm.trans f
  ·rw[e] at f
   injection f with f
   unfold bg at f
   injection f with h1 h2 h3
   rw[<-h2] at l
   cases l
 refine ⟨d.setIfInBounds b bg,s.new C z ⟨s.st.up.trans C,?_,?_,?_,?_⟩,fun c i=>hP (Ne.symm i),p⟩
 ·intro x a
  rcases gs.1 a with rfl|a
  ·exact H
  ·exact (s.st.own x a).ext u.ext
 ·intro x a
  rcases gs.1 a with rfl|a
  ·exact As o
  ·rw[p.blk _ (aR (s.st.jk x a))];exact s.st.jk x a
 ·intro x a
  rcases gs.1 a with rfl|a
  ·exact eb s.st.sz z
  ·exact s.st.lo x a
 ·refine g3.2 ⟨fun J=>?_,s.st.nd⟩
  obtain ⟨y,D,L⟩:=gg.1 J;have:=aR (s.st.jk y D);have I:y.b=b:=L
  omega
theorem SS.pubr (s:SS w0 h0 w h B R F)(j:Nat){ty:TypeId}{sz c:Nat}{A:Z9}{α:Type}{f:α->List Value}{l:List α}(d:α)(hf:∀ x,(f x).length=sz)(hr:R.getD j default=⟨ty,sz,A,c,l.length,l.flatMap f⟩:=by kernel_rfl)(Q:decide (j<R.length)=true:=by kernel_rfl) :
  ∃ y,SS w0 h0 w y B (R.eraseIdx j) ((fun h=>SlO sz f d h A l)::F)/\l.length<=c:=by
 have a:=oT Q;have H:R[j]=⟨ty,sz,A,c,l.length,l.flatMap f⟩:=by rw[<-hr];simp[a]
 have O:R[j]∈R:=e5 a;have I:=s.ro _ O;rw[H] at I
 obtain ⟨y,L,gw,M,_,K,hz,J⟩:=Gro.pub3 s.st I
 have C:∀ r∈R.eraseIdx j,Apart r.v R[j].v:=by
  intro r hr;obtain ⟨i,hi,o⟩:=ul.1 hr;rw[AS] at o
  have e:=A9.1 s.ap
  split at o
  ·rename_i D;rw[<-o];exact e i j oM a D
  ·rename_i D
   rw[<-o];have z:i+1<R.length:=by rw[A0 a] at hi;omega
   exact (e j (i+1) a z oM).symm
 refine ⟨y,⟨s.g0,L,fun r hr=>(s.ro r (A6 hr)).pubo M (by have:=C r hr;rw[H] at this;exact this),s.ap.sublist (A7 R j),fun p e=>by
  rcases gs.1 e with rfl|e
  ·exact fun _ _ u x=>x.gw u
  ·exact s.mo p e,SlO.of_pub hf hz J,s.f.gw s.mo gw⟩,K⟩
theorem SS.grown (s:SS w0 h0 w h B R F){j:Nat}(J:j<R.length){w':World}{v':Value}{m2:Nat}{news:List Value}(Q:w'.ownsRow h0.size R[j].ty R[j].sz v' (R[j].n+m2) (R[j].cs++news))(O:w.grownBy w' R[j].v.ownBlock)(M:v'.ownBlock=R[j].v.ownBlock\/v'.ownBlock=some w.heap.size) :
    ∃ y A c,v'=.slice A (R[j].n+m2) c/\Gr h y/\SS w0 h0 w' y B (R.set j ⟨R[j].ty,R[j].sz,A,c,R[j].n+m2,R[j].cs++news⟩) F:=by
  have V:R[j]∈R:=e5 J;have r:=s.ro _ V;obtain ⟨y,z,U,I⟩:=Bg s.st s.g0 r O;have S:=r.grown s.st Q M z I
  have D:∃ A c,v'=.slice A (R[j].n+m2) c:=by
    rcases Q with ⟨_,⟨e,e2⟩|⟨g,cap,cur,e,_⟩⟩
    . exact ⟨none,0,by rw[e,e2]⟩
    . exact ⟨_,_,e⟩
  obtain ⟨A,c,e⟩:=D;subst e;have L:=A9.1 s.ap
  have d:∀ i (hi:i<R.length),i≠j->Apart R[j].v R[i].v:=fun i hi p=>by
    rcases Nat.lt_or_gt_of_ne p with hl|hl
    . exact (L i j hi J hl).symm
    . exact L j i J hi hl
  have l:∀ i (hi:i<R.length),i≠j->Apart (.slice A (R[j].n+m2) c) R[i].v:=fun i hi p =>
    Apart.grown (w:=w) (d i hi p) M (fun b o=>js (s.ro _ (e5 hi)).own o)
  refine ⟨y,A,c,rfl,z,⟨s.g0,U,?_,?_,s.mo,s.f.gw s.mo z.gw⟩⟩
  . intro x W
    obtain ⟨i,hi,C⟩:=ul.1 W;have a:i<R.length:=by simpa using hi
    by_cases e:j=i
    . subst e
      simp at C
      rw[<-C];exact S
    . rw[Bs e] at C
      rw[<-C];exact (s.ro _ (e5 a)).app O z (fun b o K=>d i a (Ne.symm e) b K o)
  . refine A9.2 (fun i k hi hk H=>?_)
    have a:i<R.length:=by simpa using hi
    have u:k<R.length:=by simpa using hk
    by_cases e:j=i
    . subst e
      rw[B2,Bs oM];exact l k u oM
    . by_cases e2:j=k
      . subst e2
        rw[B2,Bs oM];exact (l i a oM).symm
      . rw[Bs e,Bs e2]
        exact L i k a u H
end ss
theorem SS.aS {α:Type}{sz:Nat}{f:α->List Value}{x:α}{A:Z9}{l:List α}{w0 w:World}{h0 h:Hp}{B:List Bx}{R:List Rw}{F:List (Hp->Prop)}(s:SS w0 h0 w h B R F)(p:SlO sz f x h A l):SS w0 h0 w h B R ((fun h=>SlO sz f x h A l)::F):=s.a_SlO p
theorem SS.aP {α β:Type}{sz a:Nat}{f:α->List Value}{x:α}{A:Z9}{l:List α}{g:β->List Value}{y:β}{D:Z9}{m:List β}{w0 w:World}{h0 h:Hp}{B:List Bx}{R:List Rw}{F:List (Hp->Prop)}(s:SS w0 h0 w h B R F)(p:SlO sz f x h A l)(q:SlO a g y h D m):SS w0 h0 w h B R ((fun h=>SlO a g y h D m)::(fun h=>SlO sz f x h A l)::F):=(s.a_SlO p).a_SlO q
section
variable {P:Program}{n:Nat}{N R:Po}{X:Nat->Po}{Γ:cl}{w:World}{h:Hp}
theorem cQ {x y:Code}(H:CG P n (fun a w=>y.wp P (iP N R X) a w) R X x Γ w):CG P n N R X (.seq x y) Γ w:=CG.seq H
theorem cK {y:Code}{N' R':Po}{X':Nat->Po}(H:CG P n N' R' X' y Γ w):CG P n (fun a w=>y.wp P (iP N' R' X') a w) R X .skip Γ w:=CG.skipN H
theorem kQ {id:Nat}{ops:Array Oper}(H:LG P n N R X ops 0 Γ w):CG P n N R X (.region id ops false) Γ w:=CG.listed H
theorem kZ {id:Nat}{c:Code}(H:CG P n N R (fun i=>if i=id then N else X i) c Γ w):CG P n N R X (.block id c) Γ w:=CG.block H
theorem kX (H:∀ a,Kn n a Γ->R a w):CG P n N R X .ret Γ w:=CG.ret H
theorem sS (g:G w h):SS w h w h [] [] []:=SS.start g
end
theorem nR (n:Nat):n<=n:=ea n
theorem gH {n:Int}(h0 : -9223372036854775808<=n)(h1:n<=9223372036854775807):IntKind.wrap .i64 n=n:=by rw[IntKind.wrap_i64];omega
def CC (P:Program)(ρ:Operand->Value)(o:Oper):Option (Value × Value × Nat) :=
  match o.op with
  | .indexAddr t x ix=>match P.underlying t with
    | some (.slice e)=>(P.info? e).map fun i=>(ρ x,ρ ix,i.size)
    | _=>none
  | _=>none
theorem ia {P:Program}{Γ:cl}{o:Oper}{A:Z9}{len a sz:Nat}{i:Int}{k:Nat}(h:CC P (ev Γ) o=some (.slice A len a,.int .i64 i,sz))(f:A=some ⟨aB A,aO A,none⟩)(hk:i=k)(c:k<len)(w:World) :
    (execOp (ev Γ) o).run P w=.ok (.value (.pointer (some ⟨aB A,aO A+k*sz,none⟩))) w:=by
  unfold CC at h
  split at h
  . rename_i t x ix d
    split at h
    . rename_i e j
      cases hi:P.info? e with
      | none=>rw[hi] at h;cases h
      | some inf =>
        rw[hi] at h
        simp only[tq,Option.some.injEq,Prod.mk.injEq] at h
        exact Gy (P:=P) k d h.1 h.2.1 j (by rw[hi];simp[h.2.2]) f hk c w
    . cases h
  . cases h
def Cm (P:Program)(ρ:Operand->Value)(o:Oper):Option (Value × Option Value × Option Value × Nat) :=
  match o.op with
  | .slice t x lo' hi' none=>match P.underlying t with
    | some (.slice e)=>(P.info? e).map fun i=>(ρ x,lo'.map ρ,hi'.map ρ,i.size)
    | _=>none
  | _=>none
theorem sd {P:Program}{Γ:cl}{o:Oper}{A:Z9}{len a sz:Nat}{i:Int}(k:Nat)(h:Cm P (ev Γ) o=some (.slice A len a,none,some (.int .i64 i),sz))(hk:i=k)(c:k<=a)(w:World) :
    (execOp (ev Γ) o).run P w=.ok (.value (.slice A k a)) w:=by
  unfold Cm at h
  split at h
  . rename_i t x l r f
    split at h
    . rename_i e j
      cases hi:P.info? e with
      | none=>rw[hi] at h;cases h
      | some inf =>
        rw[hi] at h
        simp only[tq,Option.some.injEq,Prod.mk.injEq,Dw,tj] at h
        obtain ⟨h1,rfl,⟨y,rfl,d⟩,p⟩:=h;exact Kb (P:=P) k f h1 d j (by rw[hi];rfl) hk c w
    . cases h
  . cases h
theorem lm {P:Program}{Γ:cl}{o:Oper}{A:Z9}{len a sz:Nat}{i:Int}(k:Nat)(h:Cm P (ev Γ) o=some (.slice A len a,some (.int .i64 i),none,sz))(hk:i=k)(c:k<=len)(w:World) :
    (execOp (ev Γ) o).run P w=.ok (.value (.slice (if a=k then A else A.map (·.add (k*sz))) (len-k) (a-k))) w:=by
  unfold Cm at h
  split at h
  . rename_i t x l r f
    split at h
    . rename_i e p
      cases hi:P.info? e with
      | none=>rw[hi] at h;cases h
      | some inf =>
        rw[hi] at h
        simp only[tq,Option.some.injEq,Prod.mk.injEq,Dw,tj] at h
        obtain ⟨h1,⟨y,rfl,d⟩,rfl,j⟩:=h;exact F5 (P:=P) k f h1 d p (by rw[hi];simp[j]) hk c w
    . cases h
  . cases h
def Jz (P:Program)(ρ:Operand->Value)(o:Oper):Option (Value × Value × TypeId × Value × Nat × Nat) :=
  match o.op with
  | .makeSlice t x y=>match P.underlying t with
    | some (.slice e)=>match P.info? e with
      | some i=>i.zero.map fun z=>(ρ x,ρ y,e,z,i.size,i.bytes)
      | _=>none
    | _=>none
  | _=>none
theorem uf {P:Program}{Γ:cl}{o:Oper}{e:TypeId}{z:Value}{m sz l:Nat}{α:Type}{f:α->List Value}{j:α}(h:Jz P (ev Γ) o=some (.int .i64 (m:Int),.int .i64 (m:Int),e,z,sz,l))(i:z.cells.toList=f j)(c:z.cells.size=sz)(a:0<sz)(D:l*m<=140737488355328)(d:m<9223372036854775808)(w:World) :
    (execOp (ev Γ) o).run P w=.ok (.value (.slice (some ⟨w.heap.size,0,none⟩) m m)) (w.alloc (.cells ((zZ m j).flatMap f).toArray e (0,0))):=by
  unfold Jz at h
  split at h
  . rename_i t x y u
    split at h
    . rename_i I H
      split at h
      . rename_i B hi
        simp only[tj,Prod.mk.injEq] at h
        obtain ⟨J,hz,h1,C,rfl,rfl,p,F⟩:=h;exact Km (P:=P) u h1 C H (by rw[hi];simp[hz,p,F]) i c a D d w
      . cases h
    . cases h
  . cases h
def p9 (P:Program)(ρ:Operand->Value)(o:Oper):Option (Value × Value × TypeId × Value × Nat × Nat) :=
  match o.op with
  | .call { callee:=.builtin .append,args:=⟨[x,y]⟩,argTypes:=⟨[t,u]⟩ }=>if t=u then match P.underlying t with
    | some (.slice e)=>match P.info? e with
      | some i=>i.zero.map fun z=>(ρ x,ρ y,e,z,i.size,i.bytes)
      | _=>none
    | _=>none else none
  | _=>none
theorem ju {P:Program}{ρ:Operand->Value}{o:Oper}{r:Value × Value × TypeId × Value × Nat × Nat}(h:p9 P ρ o=some r):∃ x y t,o.op=.call { callee:=.builtin .append,args:=#[x,y],argTypes:=#[t,t] }/\ρ x=r.1/\ρ y=r.2.1/\P.underlying t=some (.slice r.2.2.1)/\(P.info? r.2.2.1).map (fun i=>(i.zero,i.size,i.bytes))=some (some r.2.2.2.1,r.2.2.2.2.1,r.2.2.2.2.2):=by
  unfold p9 at h
  split at h
  . rename_i x y t u c
    split at h
    . rename_i a
      subst a
      split at h
      . rename_i e f
        split at h
        . rename_i d hi
          simp only[tj] at h
          obtain ⟨z,hz,rfl⟩:=h;exact ⟨x,y,t,c,rfl,rfl,f,by rw[hi];simp[hz]⟩
        . cases h
      . cases h
    . cases h
  . cases h
section listed
variable {P:Program}{n:Nat}{N R:Po}{X:Nat->Po}{ops:Array Oper}{k:Nat}{Γ:cl}{w:World}{h:Hp}{w0:World}{h0:Hp}{B:List Bx}{Rs:List Rw}{F:List (Hp->Prop)}
def cL (ops:Array Oper)(Γ:cl)(k t n:Nat):Bool:=g6 ops Γ k && ((am ops k).dst == some t) && decide (t<n) && (bh ops Γ (am ops k) == some true)
def cS (ops:Array Oper)(Γ:cl)(k:Nat):Bool:=g6 ops Γ k && ((am ops k).dst == none) && (bh ops Γ (am ops k) == some true)
theorem bM {t:Nat}(h:cL ops Γ k t n=true):(g6 ops Γ k && ((am ops k).dst == some t) && decide (t<n))=true/\bh ops Γ (am ops k)=some true:=by
 unfold cL at h
 rw[i2] at h
 exact ⟨h.1,by simpa using h.2⟩
theorem iu (h:cS ops Γ k=true):(g6 ops Γ k && ((am ops k).dst == none))=true/\bh ops Γ (am ops k)=some true:=by
 unfold cS at h
 rw[i2] at h
 exact ⟨h.1,by simpa using h.2⟩
theorem lV (t:Nat)(v:Value)(H:LG P n N R X ops (k+1) ((t,v)::Γ) w)(a:cL ops Γ k t n=true:=by kernel_rfl)(hr:(execOp (ev Γ) (am ops k)).run P w=.ok (.value v) w:=by kernel_rfl):LG P n N R X ops k Γ w :=
 LG.val t v w (bM a).1 (bM a).2 hr H
theorem lB (t:Nat){e b:Bool}(c:e=b)(H:LG P n N R X ops (k+1) ((t,.bool b)::Γ) w)(a:cL ops Γ k t n=true:=by kernel_rfl)(hr:(execOp (ev Γ) (am ops k)).run P w=.ok (.value (.bool e)) w:=by kernel_rfl):LG P n N R X ops k Γ w :=
 LG.val t _ w (bM a).1 (bM a).2 (c▸hr) H
theorem lI (t:Nat)(m:Int)(H:LG P n N R X ops (k+1) ((t,.int .i64 m)::Γ) w)(a:cL ops Γ k t n=true:=by kernel_rfl)(hr:(execOp (ev Γ) (am ops k)).run P w=.ok (.value (.int .i64 (IntKind.wrap .i64 m))) w:=by kernel_rfl)(h0 : -9223372036854775808<=m:=by omega)(h1:m<=9223372036854775807:=by omega):LG P n N R X ops k Γ w :=
 LG.val t _ w (bM a).1 (bM a).2 (by rw[gH h0 h1] at hr;exact hr) H
theorem bv (t:Nat)(m:Int)(j:Nat)(H:LG P n N R X ops (k+1) ((t,.int .i64 (j:Int))::Γ) w)(a:cL ops Γ k t n=true:=by kernel_rfl)(hr:(execOp (ev Γ) (am ops k)).run P w=.ok (.value (.int .i64 (IntKind.wrap .i64 m))) w:=by kernel_rfl)(c:m=j:=by omega)(h1:m<=9223372036854775807:=by omega):LG P n N R X ops k Γ w :=
 LG.val t _ w (bM a).1 (bM a).2 (by rw[gH oM h1,c] at hr;exact hr) H
theorem lO (t:Nat)(ps:List (Nat × Nat × Nat))(v:Value)(s:SS w0 h0 w h B Rs F)(H:LG P n N R X ops (k+1) ((t,v)::Γ) w)(a:cL ops Γ k t n=true:=by kernel_rfl)(d:db B ps=true:=by kernel_rfl)(c:bX P (execOp (ev Γ) (am ops k)) (dM B ps)=some (.value v,cG B ps):=by kernel_rfl):LG P n N R X ops k Γ w :=
 LG.own t ps v s.st (bM a).1 (bM a).2 d c H
def Io (P:Program)(ops:Array Oper)(B:List Bx):cl->Nat->List (Nat × Value × List (Nat × Nat × Nat))->List (Option (Next × List Addr))
  | _,_,[]=>[]
  | Γ,k,x::l=>bX P (execOp (ev Γ) (am ops k)) (dM B x.2.2)::Io P ops B ((x.1,x.2.1)::Γ) (k+1) l
def JI (n:Nat)(ops:Array Oper)(B:List Bx):cl->Nat->List (Nat × Value × List (Nat × Nat × Nat))->Bool
  | _,_,[]=>true
  | Γ,k,x::l=>cL ops Γ k x.1 n && db B x.2.2 && JI n ops B ((x.1,x.2.1)::Γ) (k+1) l
def ve (Γ:cl):List (Nat × Value × List (Nat × Nat × Nat))->cl
  | []=>Γ
  | x::l=>ve ((x.1,x.2.1)::Γ) l
theorem lS (s:SS w0 h0 w h B Rs F)(l:List (Nat × Value × List (Nat × Nat × Nat)))(H:LG P n N R X ops (k+l.length) (ve Γ l) w)(a:JI n ops B Γ k l=true:=by kernel_rfl)(c:Io P ops B Γ k l=l.map (fun x=>some (.value x.2.1,cG B x.2.2)):=by kernel_rfl):LG P n N R X ops k Γ w:=by
  induction l generalizing Γ k with
  | nil=>exact H
  | cons x l ih =>
    unfold JI at a
    simp only[i2] at a
    unfold Io at c
    rw[Ag] at c
    injection c with e1 e2
    refine lO x.1 x.2.2 x.2.1 s (ih ?_ a.2 e2) a.1.1 a.1.2 e1;have:k+1+l.length=k+(x::l).length:=by simp;omega
    rw[this];exact H
inductive It where
  | c
  | v (x:Value)
  | o (x:Value) (j a n:Nat)
def nT (ops:Array Oper)(k:Nat):Nat:=(am ops k).dst.getD 0
def nX (ops:Array Oper)(k:Nat)(Γ:cl):Value:=match (am ops k).op with
  | .move x=>ev Γ x
  | .assign x=>ev Γ x
  | _=>.tuple #[]
def It.to (ops:Array Oper)(k:Nat)(Γ:cl):It->Nat × Value × List (Nat × Nat × Nat)
  | .c=>(nT ops k,nX ops k Γ,[])
  | .v x=>(nT ops k,x,[])
  | .o x j a n=>(nT ops k,x,[(j,a,n)])
def wm (ops:Array Oper):Nat->cl->List It->List (Nat × Value × List (Nat × Nat × Nat))
  | _,_,[]=>[]
  | k,Γ,x::l=>x.to ops k Γ::wm ops (k+1) (((x.to ops k Γ).1,(x.to ops k Γ).2.1)::Γ) l
theorem C4 (ops:Array Oper)(k:Nat)(Γ:cl)(l:List It):(wm ops k Γ l).length=l.length:=by
 induction l generalizing k Γ with
 | nil=>rfl
 | cons x l ih=>show (wm _ _ _ l).length+1=_;rw[ih];rfl
abbrev ac:List It:=[.c]
abbrev ax:List It:=[.c,.c]
abbrev cJ:List It:=[.c,.c,.c]
abbrev m4:List It:=[.c,.c,.c,.c]
abbrev m5:List It:=[.c,.c,.c,.c,.c]
abbrev m6:List It:=[.c,.c,.c,.c,.c,.c]
theorem lL (s:SS w0 h0 w h B Rs F)(l:List It)(H:LG P n N R X ops (k+l.length) (ve Γ (wm ops k Γ l)) w)(c:JI n ops B Γ k (wm ops k Γ l)=true:=by kernel_rfl)(a:Io P ops B Γ k (wm ops k Γ l)=(wm ops k Γ l).map (fun x=>some (.value x.2.1,cG B x.2.2)):=by kernel_rfl):LG P n N R X ops k Γ w :=
 lS s (wm ops k Γ l) (by rw[C4];exact H) c a
theorem lP (j o:Nat)(cs:List Value)(s:SS w0 h0 w h B Rs F)(H:∀ w',SS w0 h0 w' h (ib B j o cs) Rs F->LG P n N R X ops (k+1) Γ w')(c:cS ops Γ k=true:=by kernel_rfl)
  (a:(decide (j<B.length) && decide (o+cs.length<=(aw B j).vs.length))=true:=by kernel_rfl)(d:dO P (execOp (ev Γ) (am ops k))=some (.skip,np (aw B j).b o cs):=by kernel_rfl):LG P n N R X ops k Γ w :=
 LG.put j o cs s.st s.g0 (iu c).1 (iu c).2 a d (fun w' p e=>H w' (s.put0 (oT (i2 _ _▸a).1) p e (o9 (oT (i2 _ _▸a).1))))
theorem lA (t:Nat)(ty:TypeId)(vs:List Value)(s:SS w0 h0 w h B Rs F)(H:∀ b w' a,SS w0 h0 w' a (⟨b,ty,vs⟩::B) Rs F->LG P n N R X ops (k+1) ((t,.pointer (some ⟨b,0,none⟩))::Γ) w')(c:cL ops Γ k t n=true:=by kernel_rfl)
  (hr:(execOp (ev Γ) (am ops k)).run P w=.ok (.value (.pointer (some ⟨w.heap.size,0,none⟩))) (w.alloc (.cells vs.toArray ty (0,0))):=by kernel_rfl):LG P n N R X ops k Γ w :=
 LG.var t ty vs s.st (bM c).1 (bM c).2 hr (fun b w' a d u e=>H b w' a (s.new u d e))
theorem lC (t:Nat){f:FuncId}{args:Array Value}{Φ:Value->Hp->Prop}(s:SS w0 h0 w h B Rs F)(c:Calls P f args w (Ret w h Φ))(H:∀ v w' a,SS w0 h0 w' a B Rs F->Φ v a->LG P n N R X ops (k+1) ((t,v)::Γ) w')(i:cL ops Γ k t n=true:=by kernel_rfl)(hr:(execOp (ev Γ) (am ops k)).run P w=.ok (.enter f args) w:=by kernel_rfl):LG P n N R X ops k Γ w :=
 LG.call t f args (bM i).1 (bM i).2 hr (c.mono fun e w' ⟨v,a,j,u,d⟩=>⟨v,j,H v w' a (s.step u) d⟩)
theorem kL (t:Nat){f:FuncId}{args:Array Value}{Φ:Value->Hp->Prop}(c:Calls P f args w (Ret w h Φ))(H:∀ v w' a,Up w h w' a->Φ v a->LG P n N R X ops (k+1) ((t,v)::Γ) w')(i:cL ops Γ k t n=true:=by kernel_rfl)(hr:(execOp (ev Γ) (am ops k)).run P w=.ok (.enter f args) w:=by kernel_rfl):LG P n N R X ops k Γ w :=
 LG.call t f args (bM i).1 (bM i).2 hr (c.mono fun e w' ⟨v,a,j,u,d⟩=>⟨v,j,H v w' a u d⟩)
theorem gk (t:Nat){f:FuncId}{args:Array Value}{rb:Nat}{Φ:Value->World->Hp->Prop}(c:Calls P f args w (fd rb w h Φ))(H:∀ v w' a,UpM [rb] w h w' a->Φ v w' a->LG P n N R X ops (k+1) ((t,v)::Γ) w')(i:cL ops Γ k t n=true:=by kernel_rfl)(hr:(execOp (ev Γ) (am ops k)).run P w=.ok (.enter f args) w:=by kernel_rfl):LG P n N R X ops k Γ w :=
 LG.call t f args (bM i).1 (bM i).2 hr (c.mono fun e w' ⟨v,a,j,u,d⟩=>⟨v,j,H v w' a u d⟩)
theorem lH (t:Nat)(v:Value){b o:Nat}{cs:List Value}(s:SS w0 h0 w h B Rs F)(c:Seg h b o cs)(H:LG P n N R X ops (k+1) ((t,v)::Γ) w)(a:cL ops Γ k t n=true:=by kernel_rfl)(d:bX P (execOp (ev Γ) (am ops k)) cs=some (.value v,lg b o cs.length):=by kernel_rfl):LG P n N R X ops k Γ w :=
 LG.val t v w (bM a).1 (bM a).2 (Seg.run c s.g (Ext.refl _) d) H
theorem HY (t:Nat)(v:Value){u:Value}{b o:Nat}{cs:List Value}(s:SS w0 h0 w h B Rs F)(c:Seg h b o cs)(e:v=u)(H:LG P n N R X ops (k+1) ((t,u)::Γ) w)(a:cL ops Γ k t n=true:=by kernel_rfl)(d:bX P (execOp (ev Γ) (am ops k)) cs=some (.value v,lg b o cs.length):=by kernel_rfl):LG P n N R X ops k Γ w :=
 LG.val t u w (bM a).1 (bM a).2 (e▸Seg.run c s.g (Ext.refl _) d) H
theorem lX (t:Nat)(A:Z9)(len a sz:Nat)(i:Int)(j:Nat)(e:A=some ⟨aB A,aO A,none⟩)(H:LG P n N R X ops (k+1) ((t,.pointer (some ⟨aB A,aO A+j*sz,none⟩))::Γ) w)(d:cL ops Γ k t n=true:=by kernel_rfl)(f:CC P (ev Γ) (am ops k)=some (.slice A len a,.int .i64 i,sz):=by kernel_rfl)(hk:i=j:=by omega)(c:j<len:=by omega):LG P n N R X ops k Γ w :=
 LG.val t _ w (bM d).1 (bM d).2 (ia f e hk c w) H
theorem lT (t:Nat)(A:Z9)(len a sz:Nat)(i:Int)(j:Nat)(H:LG P n N R X ops (k+1) ((t,.slice A j a)::Γ) w)(d:cL ops Γ k t n=true:=by kernel_rfl)(e:Cm P (ev Γ) (am ops k)=some (.slice A len a,none,some (.int .i64 i),sz):=by kernel_rfl)(hk:i=j:=by omega)(c:j<=a:=by omega):LG P n N R X ops k Γ w :=
 LG.val t _ w (bM d).1 (bM d).2 (sd j e hk c w) H
theorem lF (t:Nat)(A:Z9)(len a sz:Nat)(i:Int)(j:Nat)(H:LG P n N R X ops (k+1) ((t,.slice (if a=j then A else A.map (·.add (j*sz))) (len-j) (a-j))::Γ) w)(d:cL ops Γ k t n=true:=by kernel_rfl)(e:Cm P (ev Γ) (am ops k)=some (.slice A len a,some (.int .i64 i),none,sz):=by kernel_rfl)(hk:i=j:=by omega)(c:j<=len:=by omega):LG P n N R X ops k Γ w :=
 LG.val t _ w (bM d).1 (bM d).2 (lm j e hk c w) H
theorem lR (t:Nat)(ty:TypeId)(m:Nat)(cs:List Value)(s:SS w0 h0 w h B Rs F)(H:∀ b w' a,SS w0 h0 w' a B Rs ((fun h=>Seg h b 0 cs)::F)->LG P n N R X ops (k+1) ((t,.slice (some ⟨b,0,none⟩) m m)::Γ) w')(c:cL ops Γ k t n=true:=by kernel_rfl)
  (hr:(execOp (ev Γ) (am ops k)).run P w=.ok (.value (.slice (some ⟨w.heap.size,0,none⟩) m m)) (w.alloc (.cells cs.toArray ty (0,0))):=by kernel_rfl):LG P n N R X ops k Γ w :=
 LG.row t ty m cs s.g (bM c).1 (bM c).2 hr (fun b w' a u d=>H b w' a ((s.step u).a_Seg d))
theorem lK {α:Type}(t:Nat)(ty:TypeId)(m sz o:Nat)(z:Value)(f:α->List Value)(l:α)(s:SS w0 h0 w h B Rs F)(H:∀ b w' d,SS w0 h0 w' d (⟨b,ty,(zZ m l).flatMap f⟩::B) Rs F->LG P n N R X ops (k+1) ((t,.slice (some ⟨b,0,none⟩) m m)::Γ) w')(j:cL ops Γ k t n=true:=by kernel_rfl)
  (C:Jz P (ev Γ) (am ops k)=some (.int .i64 (m:Int),.int .i64 (m:Int),ty,z,sz,o):=by kernel_rfl)(i:z.cells.toList=f l:=by kernel_rfl)(c:z.cells.size=sz:=by kernel_rfl)(a:0<sz:=by decide)(y:o*m<=140737488355328:=by omega)(e:m<9223372036854775808:=by omega):LG P n N R X ops k Γ w :=
 LG.arr t ty m _ s.st (bM j).1 (bM j).2 (uf C i c a y e w) (fun b w' d p u x=>H b w' d (s.new u p x))
theorem lQ {α:Type}(t j:Nat)(l:List α)(f:α->List Value)(sz:Nat)(d:α)(e:Nat)(v:Value)(s:SS w0 h0 w h B Rs F)(hk:e<l.length)(H:LG P n N R X ops (k+1) ((t,v)::Γ) w)(a:cL ops Γ k t n=true:=by kernel_rfl)
  (c:decide (j<B.length)=true:=by kernel_rfl)(hB:(aw B j).vs=l.flatMap f:=by kernel_rfl)(hf:∀ x,(f x).length=sz:=by intro _;rfl)
  (i:bX P (execOp (ev Γ) (am ops k)) (f (l.getD e d))=some (.value v,lg (aw B j).b (0+e*sz) (f (l.getD e d)).length):=by kernel_rfl):LG P n N R X ops k Γ w :=
 LG.ownA t j l f sz d e v s.st (bM a).1 (bM a).2 c hB hf hk i H
theorem lW {α:Type}(j:Nat)(l:List α)(f:α->List Value)(sz e:Nat)(x:α)(s:SS w0 h0 w h B Rs F)(hk:e<l.length)(H:∀ w',SS w0 h0 w' h (iw B j ((l.set e x).flatMap f)) Rs F->LG P n N R X ops (k+1) Γ w')(c:cS ops Γ k=true:=by kernel_rfl)
  (a:decide (j<B.length)=true:=by kernel_rfl)(hB:(aw B j).vs=l.flatMap f:=by kernel_rfl)(hf:∀ x,(f x).length=sz:=by intro _;rfl)
  (d:dO P (execOp (ev Γ) (am ops k))=some (.skip,np (aw B j).b (0+e*sz) (f x)):=by kernel_rfl):LG P n N R X ops k Γ w :=
 LG.putA j l f sz e x s.st s.g0 (iu c).1 (iu c).2 a hB hf hk d (fun w' p i=>H w' (s.put0 (oT a) p i (kv (oT a))))
theorem fc {R:List Rw}{j:Nat}{r:Rw}(hr:R.getD j default=r)(a:j<R.length):R[j]=r:=by rw[<-hr];simp[a]
theorem JZ (t j:Nat){ty:TypeId}{sz c m:Nat}{A:Z9}{cs:List Value}{I m2 c2:Nat}{z:Value}{a:Addr}(news:List Value)(s:SS w0 h0 w h B Rs F)(d:∀ i u,news[i]?=some u->w.cell? (a.add i)=some u)(S:news.length=m2*sz)(h1:∀ u∈news,u.oneCell'=true)(J:j<Rs.length)(hr:Rs[j]=⟨ty,sz,A,c,m,cs⟩)
  (D:cL ops Γ k t n=true)(he:p9 P (ev Γ) (am ops k)=some (.slice A m c,.slice (some a) m2 c2,ty,z,sz,I))(p:z.cells.size=sz)(f:0<sz)(Y:m+m2<=1099511627776)(M:(m+m2)*I<=140737488355328)
  (H:∀ o c' w' C,SS w0 h0 w' C B (Rs.set j ⟨ty,sz,o,c',m+m2,cs++news⟩) F->LG P n N R X ops (k+1) ((t,.slice o (m+m2) c')::Γ) w'):LG P n N R X ops k Γ w:=by
 obtain ⟨x,y,O,Q,hx,L,Z,hi⟩:=ju he;have r:=s.ro _ (e5 J);rw[hr] at r
 obtain ⟨v',w',l,W,U,e⟩:=lj (P:=P) Q hx L Z hi p f s.st r S d h1 Y M;have K:=s.grown (j:=j) J (w':=w') (v':=v') (m2:=m2) (news:=news) (by rw[hr];exact W) (by rw[hr];exact U) (by rw[hr];exact e);rw[hr] at K
 obtain ⟨C,o,c',rfl,_,V⟩:=K;exact LG.val t _ w' (bM D).1 (bM D).2 l (H o c' w' C V)
theorem m8 {α:Type}{f:α->List Value}{l:List α}{x:α}:l.flatMap f++f x=(l++[x]).flatMap f:=by simp
theorem lY {α:Type}(t j:Nat)(ty:TypeId)(sz c:Nat)(A:Z9)(l:List α)(f:α->List Value)(x:α)(C b:Nat)(z:Value)(s:SS w0 h0 w h B Rs F)(J:Seg h b 0 (f x))
  (H:∀ e c' w' o,SS w0 h0 w' o B (Rs.set j ⟨ty,sz,e,c',(l++[x]).length,(l++[x]).flatMap f⟩) F->LG P n N R X ops (k+1) ((t,.slice e (l++[x]).length c')::Γ) w')
  (K:cL ops Γ k t n=true:=by kernel_rfl)(O:p9 P (ev Γ) (am ops k)=some (.slice A l.length c,.slice (some ⟨b,0,none⟩) 1 1,ty,z,sz,C):=by kernel_rfl)(i:z.cells.size=sz:=by kernel_rfl)(a:0<sz:=by decide)
  (hr:Rs.getD j default=⟨ty,sz,A,c,l.length,l.flatMap f⟩:=by kernel_rfl)(Q:decide (j<Rs.length)=true:=by kernel_rfl)(h1:(f x).all (·.oneCell')=true:=by kernel_rfl)(I:(f x).length=1*sz:=by kernel_rfl)(L:l.length+1<=1099511627776:=by omega)(D:(l.length+1)*C<=140737488355328:=by omega):LG P n N R X ops k Γ w:=by
 have d:=oT Q;refine JZ t j (f x) s (jH s.g J) I (fun u M=>(oi.1 h1) u M) d (fc hr d) K O i a L D (fun e c' w' o p=>?_);have y:l.length+1=(l++[x]).length:=by simp
 rw[m8,y] at p
 rw[y];exact H e c' w' o p
end listed
section code
variable {P:Program}{n:Nat}{N R:Po}{X:Nat->Po}{Γ:cl}{w:World}
theorem aD {id:Nat}{ops:Array Oper}{y:Code}(H:LG P n (fun a w=>y.wp P (iP N R X) a w) R X ops 0 Γ w):CG P n N R X (.seq (.region id ops false) y) Γ w:=CG.seq (CG.listed H)
theorem cn {c:Operand}{x y:Code}(a:CG P n N R X x Γ w)(d:iC Γ c=true:=by kernel_rfl)(hv:ev Γ c=.bool true:=by kernel_rfl):CG P n N R X (.cond c x y) Γ w:=CG.condT d hv a
theorem dC {c:Operand}{x y:Code}(a:CG P n N R X y Γ w)(d:iC Γ c=true:=by kernel_rfl)(hv:ev Γ c=.bool false:=by kernel_rfl):CG P n N R X (.cond c x y) Γ w:=CG.condF d hv a
theorem bH {c:Code}(Γ':cl)(H:CG P n N R X c Γ' w)(d:jU Γ (Γ'.map (·.1))=Γ':=by kernel_rfl)(a:gl Γ'=gl Γ:=by kernel_rfl):CG P n N R X c Γ w:=CG.to Γ' d a H
theorem lN {ops:Array Oper}{k:Nat}{y:Code}{N' R':Po}{X':Nat->Po}(H:CG P n N' R' X' y Γ w)(c:(k == ops.size)=true:=by kernel_rfl):LG P n (fun a w=>y.wp P (iP N' R' X') a w) R X ops k Γ w:=LG.next c H
theorem aG {ops:Array Oper}{k:Nat}{id:Nat}{c:Array Oper}{y:Code}{N' R':Po}{X':Nat->Po}(H:LG P n (fun a w=>y.wp P (iP N' R' X') a w) R' X' c 0 Γ w)(d:(k == ops.size)=true:=by kernel_rfl):LG P n (fun a w=>(Code.seq (.region id c false) y).wp P (iP N' R' X') a w) R X ops k Γ w:=lN (aD H) d
theorem lD {ops:Array Oper}{k:Nat}(H:∀ a,Kn n a Γ->N a w)(c:(k == ops.size)=true:=by kernel_rfl):LG P n N R X ops k Γ w:=LG.done c H
theorem lG {ops:Array Oper}{k:Nat}(t:Nat)(H:LG P n N R X ops (k+1) ((t,undef)::Γ) w)(c:(decide (k<ops.size) && ((am ops k).dst == some t) && decide (t<n))=true:=by kernel_rfl)(a:bh ops Γ (am ops k)=some false:=by kernel_rfl):LG P n N R X ops k Γ w:=LG.out t c a H
theorem SS.ret {d:Func}{Φ:Value->Hp->Prop}{w0:World}{h0:Hp}{h:Hp}{B:List Bx}{Rs:List Rw}{F:List (Hp->Prop)}(s:SS w0 h0 w h B Rs F)(ps:List (Nat × Nat × Nat))(v:Value)(c:Φ v h)(hk:(nt d Γ && db B ps)=true:=by kernel_rfl)(e:bX P (oA d Γ) (dM B ps)=some (v,cG B ps):=by kernel_rfl):∀ a,Kn n a Γ->nC P d (Ret w0 h0 Φ) a w:=Kj s.st ps v hk e c
theorem SS.retM {d:Func}{rb:Nat}{Φ:Value->World->Hp->Prop}{w0 wz:World}{h0 hz:Hp}{h:Hp}{B:List Bx}{Rs:List Rw}{F:List (Hp->Prop)}(s:SS wz hz w h B Rs F)(e:UpM [rb] w0 h0 w h)(ps:List (Nat × Nat × Nat))(v:Value)(c:Φ v w h)(hk:(nt d Γ && db B ps)=true:=by kernel_rfl)(f:bX P (oA d Γ) (dM B ps)=some (v,cG B ps):=by kernel_rfl):∀ a,Kn n a Γ->nC P d (fd rb w0 h0 Φ) a w:=Go.Proofs.YtlidpooijdogdaaGreatDoor.retM s.st e ps v hk f c
theorem go {f:FuncId}{a:Func}{c:Code}{args:Array Value}{e:Ending->World->Prop}(hf:P.funcs[f]?=some a)(Γ0:cl)(i:a.body=some c)(H:CG P a.ntmps (nC P a e) (nC P a e) (fun _ _ _=>False) c Γ0 w)(j:Nat.ble args.size a.ntmps=true:=by kernel_rfl)(d:Γ0=envOf args.toList:=by kernel_rfl)(h:Nat.ble a.ntmps 1000000=true:=by kernel_rfl):Calls P f args w e :=
 enter hf i rfl (D0 j) (D0 h) Γ0 d H
end code
section
variable {P:Program}{n:Nat}{N R N' R' R2:Po}{X X' X2:Nat->Po}{Γ:cl}{w w0:World}{h h0:Hp}{B:List Bx}{Rs:List Rw}{F:List (Hp->Prop)}{ops:Array Oper}{k:Nat}
theorem aq (t:Nat){f:FuncId}{args:Array Value}{x:Value}(s:SS w0 h0 w h B Rs F)(c:Calls P f args w (Ret w h fun v _=>v=x))(H:∀ w1 h1,SS w0 h0 w1 h1 B Rs F->LG P n N R X ops (k+1) ((t,x)::Γ) w1)(d:cL ops Γ k t n=true:=by kernel_rfl)(hr:(execOp (ev Γ) (am ops k)).run P w=.ok (.enter f args) w:=by kernel_rfl):LG P n N R X ops k Γ w:=lC t s c (fun v w1 h1 a e=>by subst e;exact H w1 h1 a) d hr
theorem aa {id:Nat}{y:Code}(s:SS w0 h0 w h B Rs F)(l:List It)(H:LG P n (fun a w=>y.wp P (iP N R X) a w) R X ops (0+l.length) (ve Γ (wm ops 0 Γ l)) w)(d:JI n ops B Γ 0 (wm ops 0 Γ l)=true:=by kernel_rfl)(c:Io P ops B Γ 0 (wm ops 0 Γ l)=(wm ops 0 Γ l).map (fun x=>some (.value x.2.1,cG B x.2.2)):=by kernel_rfl):CG P n N R X (.seq (.region id ops false) y) Γ w:=aD (lL s l H d c)
theorem ah {x y:Code}(H:CG P n (fun a w=>y.wp P (iP N' R' X') a w) R' X' x Γ w)(c:(k==ops.size)=true:=by kernel_rfl):LG P n (fun a w=>(Code.seq x y).wp P (iP N' R' X') a w) R X ops k Γ w:=lN (CG.seq H) c
theorem aZ {id:Nat}{c:Code}(H:CG P n N' R' (fun i=>if i=id then N' else X' i) c Γ w)(d:(k==ops.size)=true:=by kernel_rfl):LG P n (fun a w=>(Code.block id c).wp P (iP N' R' X') a w) R X ops k Γ w:=lN (CG.block H) d
theorem ag {c:Operand}{x y:Code}(H:CG P n N' R' X' y Γ w)(d:(k==ops.size)=true:=by kernel_rfl)(hi:iC Γ c=true:=by kernel_rfl)(hv:ev Γ c=.bool false:=by kernel_rfl):LG P n (fun a w=>(Code.cond c x y).wp P (iP N' R' X') a w) R X ops k Γ w:=lN (dC H hi hv) d
theorem ak {c:Operand}{x y:Code}(H:CG P n N' R' X' x Γ w)(d:(k==ops.size)=true:=by kernel_rfl)(hi:iC Γ c=true:=by kernel_rfl)(hv:ev Γ c=.bool true:=by kernel_rfl):LG P n (fun a w=>(Code.cond c x y).wp P (iP N' R' X') a w) R X ops k Γ w:=lN (cn H hi hv) d
theorem ae {d:Func}{Φ:Value->Hp->Prop}(s:SS w0 h0 w h B Rs F)(ps:List (Nat×Nat×Nat))(v:Value)(c:Φ v h)(f:(k==ops.size)=true:=by kernel_rfl)(hk:(nt d Γ&&db B ps)=true:=by kernel_rfl)(e:bX P (oA d Γ) (dM B ps)=some (v,cG B ps):=by kernel_rfl):LG P n (fun a w=>Code.ret.wp P (iP N' (nC P d (Ret w0 h0 Φ)) X') a w) R X ops k Γ w:=lN (CG.ret (s.ret ps v c hk e)) f
end
section drawn
variable {M:Ms}{P:Program}{n:Nat}{N R:Po}{X:Nat->Po}{ops:Array Oper}{k0:Nat}{hr:Hp}{AL:List Al}{L:Array Bool}{Γ:cl}{w:World}{h:Hp}{w0:World}{h0:Hp}{B:List Bx}{Rs:List Rw}{F:List (Hp->Prop)}
def cE (n:Nat)(ops:Array Oper)(k0:Nat)(AL:List Al)(L:Array Bool)(Γ:cl)(i t:Nat):Bool:=dY n ops k0 AL L i t && aY Γ (am ops i) && (bh ops Γ (am ops i) == some true)
def Cn (n:Nat)(ops:Array Oper)(k0:Nat)(AL:List Al)(L:Array Bool)(Γ:cl)(i t:Nat):Bool:=dY n ops k0 AL L i t && aY Γ (am ops i) && i8 ops k0 i && (bh ops Γ (am ops i) == some true)
def Fp (n:Nat)(ops:Array Oper)(k0:Nat)(AL:List Al)(L:Array Bool)(Γ:cl)(i t:Nat):Bool:=n0 n ops k0 AL L i t && aY Γ (am ops i) && (bh ops Γ (am ops i) == some true)
theorem jt {i t:Nat}(h:cE n ops k0 AL L Γ i t=true):(dY n ops k0 AL L i t && aY Γ (am ops i))=true/\bh ops Γ (am ops i)=some true:=by
 unfold cE at h;rw[i2] at h;exact ⟨h.1,by simpa using h.2⟩
theorem iG {i t:Nat}(h:Cn n ops k0 AL L Γ i t=true):(dY n ops k0 AL L i t && aY Γ (am ops i) && i8 ops k0 i)=true/\bh ops Γ (am ops i)=some true:=by
 unfold Cn at h;rw[i2] at h;exact ⟨h.1,by simpa using h.2⟩
theorem jl {i t:Nat}(h:Fp n ops k0 AL L Γ i t=true):(n0 n ops k0 AL L i t && aY Γ (am ops i))=true/\bh ops Γ (am ops i)=some true:=by
 unfold Fp at h;rw[i2] at h;exact ⟨h.1,by simpa using h.2⟩
theorem eV (i t:Nat)(v:Value)(H:EG M P n N R X ops k0 hr AL (L.setIfInBounds i true) ((t,v)::Γ) w h)(a:cE n ops k0 AL L Γ i t=true:=by kernel_rfl)(hv:∀ w,(execOp (ev Γ) (am ops i)).run P w=.ok (.value v) w:=by intro _;kernel_rfl):EG M P n N R X ops k0 hr AL L Γ w h :=
 Rg.pure i t v (jt a).1 (jt a).2 hv H
theorem eB (i t:Nat){e b:Bool}(c:e=b)(H:EG M P n N R X ops k0 hr AL (L.setIfInBounds i true) ((t,.bool b)::Γ) w h)(a:cE n ops k0 AL L Γ i t=true:=by kernel_rfl)(hv:∀ w,(execOp (ev Γ) (am ops i)).run P w=.ok (.value (.bool e)) w:=by intro _;kernel_rfl):EG M P n N R X ops k0 hr AL L Γ w h :=
 Rg.pure i t _ (jt a).1 (jt a).2 (fun w=>c▸hv w) H
theorem eI (i t:Nat)(m:Int)(H:EG M P n N R X ops k0 hr AL (L.setIfInBounds i true) ((t,.int .i64 m)::Γ) w h)(a:cE n ops k0 AL L Γ i t=true:=by kernel_rfl)(hv:∀ w,(execOp (ev Γ) (am ops i)).run P w=.ok (.value (.int .i64 (IntKind.wrap .i64 m))) w:=by intro _;kernel_rfl)(h0 : -9223372036854775808<=m:=by omega)(h1:m<=9223372036854775807:=by omega):EG M P n N R X ops k0 hr AL L Γ w h :=
 Rg.pure i t _ (jt a).1 (jt a).2 (fun w=>by have:=hv w;rw[gH h0 h1] at this;exact this) H
theorem j4 (i t:Nat)(m:Int)(j:Nat)(H:EG M P n N R X ops k0 hr AL (L.setIfInBounds i true) ((t,.int .i64 (j:Int))::Γ) w h)(a:cE n ops k0 AL L Γ i t=true:=by kernel_rfl)(hv:∀ w,(execOp (ev Γ) (am ops i)).run P w=.ok (.value (.int .i64 (IntKind.wrap .i64 m))) w:=by intro _;kernel_rfl)(c:m=j:=by omega)(h1:m<=9223372036854775807:=by omega):EG M P n N R X ops k0 hr AL L Γ w h :=
 Rg.pure i t _ (jt a).1 (jt a).2 (fun w=>by have:=hv w;rw[gH oM h1,c] at this;exact this) H
theorem eG (i t:Nat)(H:EG M P n N R X ops k0 hr AL (L.setIfInBounds i true) ((t,undef)::Γ) w h)(c:dY n ops k0 AL L i t=true:=by kernel_rfl)(a:bh ops Γ (am ops i)=some false:=by kernel_rfl):EG M P n N R X ops k0 hr AL L Γ w h:=Rg.skip i t c a H
theorem eO (i t:Nat)(ps:List (Nat × Nat × Nat))(v:Value)(s:SS w0 h0 w h B Rs F)(H:EG M P n N R X ops k0 hr AL (L.setIfInBounds i true) ((t,v)::Γ) w h)(hM:∀ p∈ps,(aw B p.1).b ∉ M.l:=by intro _ _;exact List.not_mem_nil)(a:Cn n ops k0 AL L Γ i t=true:=by kernel_rfl)(d:db B ps=true:=by kernel_rfl)(c:bX P (execOp (ev Γ) (am ops i)) (dM B ps)=some (.value v,cG B ps):=by kernel_rfl):EG M P n N R X ops k0 hr AL L Γ w h :=
 Rg.own i t ps v s.st (iG a).1 (iG a).2 hM d c H
theorem eH (i t:Nat)(v:Value){b o:Nat}{cs:List Value}(s:SS w0 h0 w h B Rs F)(c:Seg h b o cs)(H:EG M P n N R X ops k0 hr AL (L.setIfInBounds i true) ((t,v)::Γ) w h)(hM:∀ b∈M.l,h[b]?=some bg:=by intro _ hb;cases hb)(a:Cn n ops k0 AL L Γ i t=true:=by kernel_rfl)(e:bX P (execOp (ev Γ) (am ops i)) cs=some (.value v,lg b o cs.length):=by kernel_rfl):EG M P n N R X ops k0 hr AL L Γ w h :=
 Rg.load i t v (iG a).1 (iG a).2 (fun _ d=>Seg.runM c s.g hM d e) H
theorem vw (i t:Nat)(v:Value){u:Value}{b o:Nat}{cs:List Value}(s:SS w0 h0 w h B Rs F)(c:Seg h b o cs)(e:v=u)(H:EG M P n N R X ops k0 hr AL (L.setIfInBounds i true) ((t,u)::Γ) w h)(hM:∀ b∈M.l,h[b]?=some bg:=by intro _ hb;cases hb)(a:Cn n ops k0 AL L Γ i t=true:=by kernel_rfl)(f:bX P (execOp (ev Γ) (am ops i)) cs=some (.value v,lg b o cs.length):=by kernel_rfl):EG M P n N R X ops k0 hr AL L Γ w h :=
 Rg.load i t u (iG a).1 (iG a).2 (fun _ d=>e▸Seg.runM c s.g hM d f) H
theorem eX (i t:Nat)(A:Z9)(len a sz:Nat)(x:Int)(j:Nat)(e:A=some ⟨aB A,aO A,none⟩)(H:EG M P n N R X ops k0 hr AL (L.setIfInBounds i true) ((t,.pointer (some ⟨aB A,aO A+j*sz,none⟩))::Γ) w h)(d:cE n ops k0 AL L Γ i t=true:=by kernel_rfl)(f:CC P (ev Γ) (am ops i)=some (.slice A len a,.int .i64 x,sz):=by kernel_rfl)(hk:x=j:=by omega)(c:j<len:=by omega):EG M P n N R X ops k0 hr AL L Γ w h :=
 Rg.pure i t _ (jt d).1 (jt d).2 (ia f e hk c) H
theorem eT (i t:Nat)(A:Z9)(len a sz:Nat)(x:Int)(j:Nat)(H:EG M P n N R X ops k0 hr AL (L.setIfInBounds i true) ((t,.slice A j a)::Γ) w h)(d:cE n ops k0 AL L Γ i t=true:=by kernel_rfl)(e:Cm P (ev Γ) (am ops i)=some (.slice A len a,none,some (.int .i64 x),sz):=by kernel_rfl)(hk:x=j:=by omega)(c:j<=a:=by omega):EG M P n N R X ops k0 hr AL L Γ w h :=
 Rg.pure i t _ (jt d).1 (jt d).2 (sd j e hk c) H
theorem eQ {α:Type}(i t j:Nat)(l:List α)(f:α->List Value)(sz:Nat)(d:α)(e:Nat)(v:Value)(s:SS w0 h0 w h B Rs F)(hk:e<l.length)(H:EG M P n N R X ops k0 hr AL (L.setIfInBounds i true) ((t,v)::Γ) w h)(hM:(aw B j).b ∉ M.l:=by exact List.not_mem_nil)(a:Cn n ops k0 AL L Γ i t=true:=by kernel_rfl)
  (o:decide (j<B.length)=true:=by kernel_rfl)(hB:(aw B j).vs=l.flatMap f:=by kernel_rfl)(hf:∀ x,(f x).length=sz:=by intro _;rfl)
  (c:bX P (execOp (ev Γ) (am ops i)) (f (l.getD e d))=some (.value v,lg (aw B j).b (0+e*sz) (f (l.getD e d)).length):=by kernel_rfl):EG M P n N R X ops k0 hr AL L Γ w h :=
 Rg.ownA i t j l f sz d e v s.st (iG a).1 (iG a).2 hM o hB hf hk c H
theorem eC (i t:Nat){f:FuncId}{args:Array Value}{Φ:World->Hp->Value->Hp->Prop}(s:SS w0 h0 w h B Rs F)(c:∀ w1 h1,SS w0 h0 w1 h1 B Rs F->Calls P f args w1 (Ret w1 h1 (Φ w1 h1)))(H:∀ w1 h1 v w' a,SS w0 h0 w' a B Rs F->Φ w1 h1 v a->EG M P n N R X ops k0 hr AL (L.setIfInBounds i true) ((t,v)::Γ) w' a)(o:Fp n ops k0 AL L Γ i t=true:=by kernel_rfl)(hv:∀ w,(execOp (ev Γ) (am ops i)).run P w=.ok (.enter f args) w:=by intro _;kernel_rfl):EG M P n N R X ops k0 hr AL L Γ w h :=
 Rg.call i t f args (jl o).1 (jl o).2 hv (fun w1 h1 u=>(c w1 h1 (s.step u)).mono fun e w' ⟨v,a,p,j,d⟩=>⟨v,a,p,j.m M.l,H w1 h1 v w' a ((s.step u).step j) d⟩)
theorem eR (i t:Nat)(ty:TypeId)(m:Nat)(cs:List Value)(s:SS w0 h0 w h B Rs F)(H:∀ b w' a,SS w0 h0 w' a B Rs ((fun h=>Seg h b 0 cs)::F)->EG M P n N R X ops k0 hr AL (L.setIfInBounds i true) ((t,.slice (some ⟨b,0,none⟩) m m)::Γ) w' a)(c:Fp n ops k0 AL L Γ i t=true:=by kernel_rfl)
  (hv:∀ w,(execOp (ev Γ) (am ops i)).run P w=.ok (.value (.slice (some ⟨w.heap.size,0,none⟩) m m)) (w.alloc (.cells cs.toArray ty (0,0))):=by intro _;kernel_rfl):EG M P n N R X ops k0 hr AL L Γ w h :=
 Rg.row i t ty m cs (jl c).1 (jl c).2 hv (fun b w' a u d=>H b w' a ((s.step u).a_Seg d))
theorem eY {α:Type}(i t j:Nat)(ty:TypeId)(sz c:Nat)(A:Z9)(l:List α)(f:α->List Value)(x:α)(bt b:Nat)(z:Value)(s:SS w0 h0 w h B Rs F)(sg:∀ h,AllF F h->Seg h b 0 (f x))(V:∀ b,(Value.slice A l.length c).ownBlock=some b->b∈M.l)
  (H:∀ Q c' w' I,SS w0 h0 w' I B (Rs.set j ⟨ty,sz,Q,c',(l++[x]).length,(l++[x]).flatMap f⟩) F->EG M P n N R X ops k0 hr AL (L.setIfInBounds i true) ((t,.slice Q (l++[x]).length c')::Γ) w' I)
  (K:Fp n ops k0 AL L Γ i t=true:=by kernel_rfl)(he:p9 P (ev Γ) (am ops i)=some (.slice A l.length c,.slice (some ⟨b,0,none⟩) 1 1,ty,z,sz,bt):=by kernel_rfl)(S:z.cells.size=sz:=by kernel_rfl)(J:0<sz:=by decide)
  (W:Rs.getD j default=⟨ty,sz,A,c,l.length,l.flatMap f⟩:=by kernel_rfl)(hj:decide (j<Rs.length)=true:=by kernel_rfl)(h1:(f x).all (·.oneCell')=true:=by kernel_rfl)(hl:(f x).length=1*sz:=by kernel_rfl)(hm:l.length+1<=1099511627776:=by omega)(hb:(l.length+1)*bt<=140737488355328:=by omega):EG M P n N R X ops k0 hr AL L Γ w h:=by
 have d:=oT hj;refine Rg.event i t (jl K).1 (jl K).2 (fun w1 h1' u=>?_);have C:=s.step u;obtain ⟨x',y,ty',ho,hx,hy,U,hi⟩:=ju he;have r:=C.ro _ (e5 d);have D:=fc W d;rw[D] at r
 obtain ⟨v',w',a,ow,o,p⟩:=lj (P:=P) ho hx hy U hi S J C.st r hl (jH C.g (sg _ C.f)) (fun u U=>(oi.1 h1) u U) hm hb;have Z:=C.grown (j:=j) d (w':=w') (v':=v') (m2:=1) (news:=f x) (by rw[D];exact ow) (by rw[D];exact o) (by rw[D];exact p);rw[D] at Z
 obtain ⟨I,Q,c',rfl,e2,O⟩:=Z;have Y:l.length+1=(l++[x]).length:=by simp
 simp only[] at O
 rw[m8,Y] at O
 rw[Y] at a
 exact .inl ⟨_,w',I,a,⟨⟨o.os,o.tape,o.output,o.size,fun c K hn=>o.block c K (fun e=>hn (V c e.symm))⟩,e2,O.g⟩,H Q c' w' I O⟩
theorem bS (s:SS w0 h0 w h B Rs F)(H:∀ w' a,SS w0 h0 w' a B Rs F->AG M P n N R X ops k0 L Γ w')(c:gI ops [] L=true:=by kernel_rfl):EG M P n N R X ops k0 hr [] L Γ w h:=Rg.fin0 c (fun w' a u=>H w' a (s.step u))
def cT (n:Nat)(ops:Array Oper)(k0:Nat)(L:Array Bool)(Γ:cl)(i t:Nat):Bool:=il ops k0 L i && aY Γ (am ops i) && ((am ops i).dst == some t) && decide (t<n) && (bh ops Γ (am ops i) == some true)
def H0 (ops:Array Oper)(k0:Nat)(L:Array Bool)(Γ:cl)(i:Nat):Bool:=il ops k0 L i && aY Γ (am ops i) && ((am ops i).dst == none) && (bh ops Γ (am ops i) == some true)
theorem jh {i t:Nat}(h:cT n ops k0 L Γ i t=true):(il ops k0 L i && aY Γ (am ops i) && ((am ops i).dst == some t) && decide (t<n))=true/\bh ops Γ (am ops i)=some true:=by
 unfold cT at h;rw[i2] at h;exact ⟨h.1,by simpa using h.2⟩
theorem kH {i:Nat}(h:H0 ops k0 L Γ i=true):(il ops k0 L i && aY Γ (am ops i) && ((am ops i).dst == none))=true/\bh ops Γ (am ops i)=some true:=by
 unfold H0 at h;rw[i2] at h;exact ⟨h.1,by simpa using h.2⟩
theorem tV (i t:Nat)(v:Value)(H:AG M P n N R X ops k0 (L.setIfInBounds i true) ((t,v)::Γ) w)(a:cT n ops k0 L Γ i t=true:=by kernel_rfl)(hv:(execOp (ev Γ) (am ops i)).run P w=.ok (.value v) w:=by kernel_rfl):AG M P n N R X ops k0 L Γ w:=T.val i t v w (jh a).1 (jh a).2 hv H
theorem tP (i j o:Nat)(cs:List Value)(s:SS w0 h0 w h B Rs F)(H:∀ w',SS w0 h0 w' h (ib B j o cs) Rs F->AG M P n N R X ops k0 (L.setIfInBounds i true) Γ w')(c:H0 ops k0 L Γ i=true:=by kernel_rfl)
  (a:(decide (j<B.length) && decide (o+cs.length<=(aw B j).vs.length))=true:=by kernel_rfl)(d:dO P (execOp (ev Γ) (am ops i))=some (.skip,np (aw B j).b o cs):=by kernel_rfl)(hz:∀ K bs,M.z=some (K,bs)->K<=(aw B j).b\/(aw B j).b∈bs:=by intro _ _ e;cases e):AG M P n N R X ops k0 L Γ w :=
 T.put i j o cs s.st s.g0 (kH c).1 (kH c).2 a d (fun w' p f=>H w' (s.put0 (oT (i2 _ _▸a).1) p f (o9 (oT (i2 _ _▸a).1)))) hz
theorem tW {α:Type}(i j:Nat)(l:List α)(f:α->List Value)(sz e:Nat)(x:α)(s:SS w0 h0 w h B Rs F)(hk:e<l.length)(H:∀ w',SS w0 h0 w' h (iw B j ((l.set e x).flatMap f)) Rs F->AG M P n N R X ops k0 (L.setIfInBounds i true) Γ w')(c:H0 ops k0 L Γ i=true:=by kernel_rfl)
  (a:decide (j<B.length)=true:=by kernel_rfl)(hB:(aw B j).vs=l.flatMap f:=by kernel_rfl)(hf:∀ x,(f x).length=sz:=by intro _;rfl)
  (o:dO P (execOp (ev Γ) (am ops i))=some (.skip,np (aw B j).b (0+e*sz) (f x)):=by kernel_rfl)(hz:∀ K bs,M.z=some (K,bs)->K<=(aw B j).b\/(aw B j).b∈bs:=by intro _ _ e;cases e):AG M P n N R X ops k0 L Γ w :=
 T.putA i j l f sz e x s.st s.g0 (kH c).1 (kH c).2 a hB hf hk o (fun w' p d=>H w' (s.put0 (oT a) p d (kv (oT a)))) hz
theorem tN {y:Code}{N' R':Po}{X':Nat->Po}(H:CG P n N' R' X' y Γ w)(c:(Region.ready .any ops L).isEmpty=true:=by kernel_rfl):AG M P n (fun a w=>y.wp P (iP N' R' X') a w) R X ops k0 L Γ w:=T.next c H
theorem rW {id:Nat}{c:Array Oper}{y:Code}{N' R':Po}{X':Nat->Po}(H:LG P n (fun a w=>y.wp P (iP N' R' X') a w) R' X' c 0 Γ w)(d:(Region.ready .any ops L).isEmpty=true:=by kernel_rfl):AG M P n (fun a w=>(Code.seq (.region id c false) y).wp P (iP N' R' X') a w) R X ops k0 L Γ w:=tN (aD H) d
theorem tD (H:∀ a,Kn n a Γ->N a w)(c:(Region.ready .any ops L).isEmpty=true:=by kernel_rfl):AG M P n N R X ops k0 L Γ w:=T.done c H
theorem cR {id:Nat}{d:Bool}(k0:Nat)(AL:List Al)(e:P.follows .mixedOrders=true)(s:SS w0 h0 w h B Rs F)(c:∀ x∈AL,AlOk P ops k0 x)(H:EG ⟨[],none⟩ P n N R X ops k0 h AL (s5 ops.size false) Γ w h)(a:lc ops=true:=by kernel_rfl):CG P n N R X (.region id ops d) Γ w :=
 CG.region ⟨[],none⟩ k0 AL e a s.g c (fun _ f=>by cases f) H
end drawn
theorem au {M:Ms}{P:Program}{n:Nat}{N R:Po}{X:Nat->Po}{ops:Array Oper}{k0:Nat}{hr:Hp}{AL:List Al}{L:Array Bool}{Γ:cl}{w w0:World}{h h0:Hp}{B:List Bx}{Rs:List Rw}{F:List (Hp->Prop)}(i t:Nat){f:FuncId}{args:Array Value}{x:Value}(s:SS w0 h0 w h B Rs F)(c:∀ w1 h1,SS w0 h0 w1 h1 B Rs F->Calls P f args w1 (Ret w1 h1 fun v _=>v=x))(H:∀ w1 h1,SS w0 h0 w1 h1 B Rs F->EG M P n N R X ops k0 hr AL (L.setIfInBounds i true) ((t,x)::Γ) w1 h1)(d:Fp n ops k0 AL L Γ i t=true:=by kernel_rfl)(hv:∀ w,(execOp (ev Γ) (am ops i)).run P w=.ok (.enter f args) w:=by intro _;kernel_rfl):EG M P n N R X ops k0 hr AL L Γ w h:=eC i t s c (fun _ _ v w1 h1 a e=>by subst e;exact H w1 h1 a) d hv
theorem CM {w:World}{h:Hp}(g:G w h){b:Nat}{ty:TypeId}{vs:List Value}(f:h[b]?=some bg)(o:Own w b ty vs):∃ d,G w d/\Gw h d/\Seg d b 0 vs/\∀ c,c≠b->d[c]?=h[c]?:=by
 have a:=aR f;refine ⟨h.setIfInBounds b (.cells vs.toArray ty (0,0)),⟨by simp;exact g.size,fun c=>?_⟩,⟨by simp,fun c j=>?_⟩,fun i v hv=>?_,fun c j=>hP (Ne.symm j)⟩
 ·by_cases e:b=c
  ·subst e;left;rw[As a];exact o.symm
  ·rw[hP e];exact g.blk c
 ·by_cases e:b=c
  ·subst e;exact .inr f
  ·left;rw[hP e]
 ·unfold dR
  rw[As a]
  simpa using hv
theorem sb {w w':World}{h f i:Hp}{b:Nat}(l:h[b]?=some bg)(o:∀ c,c≠b->f[c]?=h[c]?)(d:f.size=h.size)(u:Up w f w' i):∃ j,Up w h w' j:=by
 have p:=aR l;have a:b<i.size:=ek oM u.gr.size;refine ⟨i.setIfInBounds b bg,u.ext,⟨by simp;rw[<-d];exact u.gr.size,fun c x=>?_⟩,⟨by simp;exact u.g.size,fun c=>?_⟩⟩
 ·by_cases e:b=c
  ·subst e;rw[As a,l]
  ·rw[hP e,u.gr.blk c oM,o c (Ne.symm e)]
 ·by_cases e:b=c
  ·subst e;right;rw[As a]
  ·rw[hP e];exact u.g.blk c
theorem G.sz {w:World}{h a:Hp}(g:G w h)(g':G w a):a.size=h.size:=by rw[<-g.size,<-g'.size]
section lent
variable {M:Ms}{P:Program}{n:Nat}{N R:Po}{X:Nat->Po}{ops:Array Oper}{k k0:Nat}{hr:Hp}{AL:List Al}{L:Array Bool}{Γ:cl}{w:World}{h:Hp}{w0:World}{h0:Hp}{B:List Bx}{Rs:List Rw}{F:List (Hp->Prop)}
theorem SS.lends (s:SS w0 h0 w h B Rs F){j:Nat}(z:j<B.length){f:FuncId}{args:Array Value}{Φ:Value->Prop}(c:∀ a,G w a->AllF F a->Seg a (aw B j).b 0 (aw B j).vs->Calls P f args w (Ret w a (fun v _=>Φ v))):Calls P f args w (Ret w h (fun v _=>Φ v)):=by
 have d:=bx z;obtain ⟨a,g,gw,x,o⟩:=CM s.g (s.st.jk _ d) (s.st.own _ d);refine (c a g (s.f.gw s.mo gw) x).mono ?_;rintro e w' ⟨v,C,y,u,i⟩;obtain ⟨l,p⟩:=sb (s.st.jk _ d) o (s.g.sz g) u;exact ⟨v,l,y,p,i⟩
theorem Ke (t j:Nat){f:FuncId}{args:Array Value}{Φ:Value->Prop}(s:SS w0 h0 w h B Rs F)(c:∀ hp,G w hp->AllF F hp->Seg hp (aw B j).b 0 (aw B j).vs->Calls P f args w (Ret w hp (fun v _=>Φ v)))(H:∀ v w' h',SS w0 h0 w' h' B Rs F->Φ v->LG P n N R X ops (k+1) ((t,v)::Γ) w')(a:decide (j<B.length)=true:=by kernel_rfl)(d:cL ops Γ k t n=true:=by kernel_rfl)(hr:(execOp (ev Γ) (am ops k)).run P w=.ok (.enter f args) w:=by kernel_rfl):LG P n N R X ops k Γ w :=
 lC t s (s.lends (oT a) c) H d hr
end lent
section unroll
variable {P:Program}{n:Nat}{N R:Po}{X:Nat->Po}{Γ:cl}{w:World}
def KN (P:Program)(N R:Po)(X:Nat->Po)(c:Code)(a:Act)(w:World):Prop:=∀ (b:Frame) (k:List Item) (cs:List Frame),∃ e a' w',iP N R X e a' w'/\Arrives P (lone (b.at a (.code c::.inLoop c::k)) cs w) b k cs e a' w'
def CL (P:Program)(n:Nat)(N R:Po)(X:Nat->Po)(c:Code)(Γ:cl)(w:World):Prop:=∀ a,Kn n a Γ->KN P N R X c a w
theorem cU {c:Code}(H:CL P n N R X c Γ w):CG P n N R X (.loop c) Γ w:=fun a h b k cs=>by
 obtain ⟨e,f,w',i,d⟩:=H a h b k cs;exact ⟨e,f,w',i,.of_steps (.one step_loop) d⟩
theorem cN {c:Code}(H:CG P n (KN P N R X c) R X c Γ w):CL P n N R X c Γ w:=fun a z b k cs=>by
  obtain ⟨e,h,i,o,d⟩:=H a z b (.inLoop c::k) cs;cases e with
  | normal =>
    obtain ⟨u,p,y,j,f⟩:=o b k cs;exact ⟨u,p,y,j,.of_steps (Steps.trans d (.one step_inLoop)) f⟩
  | exit id=>exact ⟨.exit id,h,i,o,.pass (x:=.inLoop c) rfl (fun _ _=>.inl (by simp)) d⟩
  | goto l=>exact o.elim
  | ret=>exact ⟨.ret,h,i,o,.pass (x:=.inLoop c) rfl (fun _ _=>.inl (by simp)) d⟩
  | panic ch=>exact o.elim
  | outgrown=>exact o.elim
theorem CL.to {c:Code}(Γ':cl)(H:CL P n N R X c Γ' w)(e:jU Γ (Γ'.map (·.1))=Γ':=by kernel_rfl)(f:gl Γ'=gl Γ:=by kernel_rfl):CL P n N R X c Γ w:=fun a d=>H a (d.to Γ' e f)
end unroll
theorem mixed:Tryz.prog.follows .mixedOrders=true:=by kernel_rfl
theorem rb {s:Result Next}{e b:Bool}{w:World}(h:s=.ok (.value (.bool e)) w)(a:e=b):s=.ok (.value (.bool b)) w:=a▸h
theorem aI {s:Result Next}{k:IntKind}{n m:Int}{w:World}(h:s=.ok (.value (.int k n)) w)(e:n=m):s=.ok (.value (.int k m)) w:=e▸h
theorem rU {s:Result Next}{m:Int}{w:World}(x:Int)(h:s=.ok (.value (.int .u64 (IntKind.wrap .u64 x))) w)(e:IntKind.wrap .u64 x=m):s=.ok (.value (.int .u64 m)) w:=aI (n:=IntKind.wrap .u64 x) h e
theorem rS {s:Result Next}{m:Int}{w:World}(x:Int)(h:s=.ok (.value (.int .i64 (IntKind.wrap .i64 x))) w)(e:IntKind.wrap .i64 x=m):s=.ok (.value (.int .i64 m)) w:=aI (n:=IntKind.wrap .i64 x) h e
theorem rT {s:Result Next}{m:Int}{w:World}(x:Int)(h:s=.ok (.value (.int .u32 (IntKind.wrap .u32 x))) w)(e:IntKind.wrap .u32 x=m):s=.ok (.value (.int .u32 m)) w:=aI (n:=IntKind.wrap .u32 x) h e
theorem Dq (n:Nat):IntKind.wrap .u8 (n:Int)=((n%256:Nat):Int):=by rw[IntKind.wrap_u8];omega
theorem gU (n:Nat):IntKind.wrap .u32 (n:Int)=((n%4294967296:Nat):Int):=by rw[IntKind.wrap_u32];omega
theorem wH (n:Nat):IntKind.wrap .u64 (n:Int)=((n%18446744073709551616:Nat):Int):=by rw[IntKind.wrap_u64];omega
theorem o4 {n:Int}(h0:0<=n)(h:n<4294967296):IntKind.wrap .u32 n=n:=by rw[IntKind.wrap_u32];omega
theorem be {n:Int}(h0:0<=n)(h:n<18446744073709551616):IntKind.wrap .u64 n=n:=by rw[IntKind.wrap_u64];omega
theorem pm {n:Int}(h0 : -9223372036854775808<=n)(h:n<9223372036854775808):IntKind.wrap .i64 n=n:=by rw[IntKind.wrap_i64];omega
theorem IV {n:Nat}(h:n<4294967296):IntKind.wrap .u32 (n:Int)=(n:Int):=by rw[IntKind.wrap_u32];omega
theorem Ji {n:Nat}(h:n<18446744073709551616):IntKind.wrap .u64 (n:Int)=(n:Int):=by rw[IntKind.wrap_u64];omega
theorem Jg {n:Nat}(h:n<9223372036854775808):IntKind.wrap .i64 (n:Int)=(n:Int):=by rw[IntKind.wrap_i64];omega
theorem eh (a b:Nat):Int.fdiv (a:Int) (b:Int)=((a/b:Nat):Int):=by rw[D1 _ oM];simp
theorem sY (a b:Nat):D2 (a:Int) (b:Int)=((a/b:Nat):Int):=rfl
theorem dk (a b:Nat):Int.tmod (a:Int) (b:Int)=((a%b:Nat):Int):=rfl
theorem km (a b:Nat)(h:a<18446744073709551616):IntKind.wrap .u64 (D2 (a:Int) (b:Int))=((a/b:Nat):Int):=by rw[sY];exact Ji (Ft (F2 _ _) h)
theorem dI (a b:Nat)(h:a<9223372036854775808):IntKind.wrap .i64 (D2 (a:Int) (b:Int))=((a/b:Nat):Int):=by rw[sY];exact Jg (Ft (F2 _ _) h)
section div
variable {P:Program}{Γ:cl}{o:Oper}
theorem dD {t u:TypeId}{x y:Operand}{k:IntKind}{a b:Int}(f:o.op=.binOp .quo t x y u)(e:ev Γ x=.int k a)(c:ev Γ y=.int k b)(d:b≠0)(w:World) :
  (execOp (ev Γ) o).run P w=.ok (.value (.int k (k.wrap (a.tdiv b)))) w:=by
 unfold execOp;simp only[f];rw[e,c]
 simp[binOp,eqGuard,Op.intDiv,d,Result.andThen]
theorem fq {t u:TypeId}{x y:Operand}{k:IntKind}{a b:Int}(f:o.op=.binOp .rem t x y u)(e:ev Γ x=.int k a)(c:ev Γ y=.int k b)(d:b≠0)(w:World) :
  (execOp (ev Γ) o).run P w=.ok (.value (.int k (a.tmod b))) w:=by
 unfold execOp;simp only[f];rw[e,c]
 simp[binOp,eqGuard,Op.intDiv,d,Result.andThen]
theorem Ib {t u:TypeId}{x y:Operand}{k ky:IntKind}{a:Int}{n:Nat}(f:o.op=.binOp .shl t x y u)(d:ev Γ x=.int k a)(c:ev Γ y=.int ky (n:Int))(hn:n<=k.bits)(w:World) :
  (execOp (ev Γ) o).run P w=.ok (.value (.int k (k.wrap (a*2^n)))) w:=by
 unfold execOp;simp only[f];rw[d,c]
 have e:min n k.bits=n:=by omega
 have hz:¬((n:Int)<0):=by omega
 simp[binOp,eqGuard,Op.shift,Result.andThen,e,hz]
theorem IG {t u:TypeId}{x y:Operand}{k ky:IntKind}{a:Int}{n:Nat}(f:o.op=.binOp .shr t x y u)(d:ev Γ x=.int k a)(c:ev Γ y=.int ky (n:Int))(hn:n<=k.bits)(w:World) :
  (execOp (ev Γ) o).run P w=.ok (.value (.int k (a/2^n))) w:=by
 unfold execOp;simp only[f];rw[d,c]
 have e:min n k.bits=n:=by omega
 have hz:¬((n:Int)<0):=by omega
 have h:(0:Int)<=2^n:=Ga kD
 simp[binOp,eqGuard,Op.shift,Result.andThen,e,hz,D1 _ h]
theorem ir {t u:TypeId}{x y:Operand}{a b:Nat}(h:o.op=.binOp .or t x y u)(f:ev Γ x=.int .u64 (a:Int))(c:ev Γ y=.int .u64 (b:Int))(ha:a<18446744073709551616)(d:b<18446744073709551616)(w:World) :
  (execOp (ev Γ) o).run P w=.ok (.value (.int .u64 ((a ||| b:Nat):Int))) w:=by
 unfold execOp;simp only[h];rw[f,c]
 have e:bits .or .u64 (a:Int) (b:Int)=((a ||| b:Nat):Int):=by
  unfold bits
  have h1:(BitVec.ofInt 64 (a:Int) ||| BitVec.ofInt 64 (b:Int)).toNat=a ||| b:=by
   rw[BitVec.toNat_or]
   congr 1<;>(simp[BitVec.toNat_ofInt];omega)
  show IntKind.wrap .u64 (((BitVec.ofInt 64 (a:Int) ||| BitVec.ofInt 64 (b:Int)).toNat:Nat):Int)=_
  rw[h1];have:=Gb (n:=64) ha d;exact be oM oM
 simp[binOp,eqGuard,Result.andThen,intBits_or,e]
theorem FX {t u:TypeId}{x y:Operand}{a b:Nat}(h:o.op=.binOp .or t x y u)(f:ev Γ x=.int .u32 (a:Int))(c:ev Γ y=.int .u32 (b:Int))(ha:a<4294967296)(d:b<4294967296)(w:World) :
  (execOp (ev Γ) o).run P w=.ok (.value (.int .u32 ((a ||| b:Nat):Int))) w:=by
 unfold execOp;simp only[h];rw[f,c]
 have e:bits .or .u32 (a:Int) (b:Int)=((a ||| b:Nat):Int):=by
  unfold bits
  have h1:(BitVec.ofInt 32 (a:Int) ||| BitVec.ofInt 32 (b:Int)).toNat=a ||| b:=by
   rw[BitVec.toNat_or]
   congr 1<;>(simp[BitVec.toNat_ofInt];omega)
  show IntKind.wrap .u32 (((BitVec.ofInt 32 (a:Int) ||| BitVec.ofInt 32 (b:Int)).toNat:Nat):Int)=_
  rw[h1];have:=Gb (n:=32) ha d;exact o4 oM oM
 simp[binOp,eqGuard,Result.andThen,intBits_or,e]
end div
def lo (n:Nat):Int:=((n%18446744073709551616:Nat):Int)
def wb:Nat->Nat->List UInt8
  | 0,_=>[]
  | f+1,m=>if m=0 then [] else (ov 8).map (fun k=>UInt8.ofNat (m/256^k))++wb f (m/18446744073709551616)
def hi (n:Nat):ByteArray:=⟨(wb n (n/18446744073709551616)).toArray⟩
abbrev uX (r k:Rat)(s b t:Int)(d:Nat):Value:=.agg #[.bool (af r.num),uV (lo (ab r.num)),.string (hi (ab r.num)),uV (lo (qd r)),.string (hi (qd r)),.bool (af k.num),uV (lo (ab k.num)),.string (hi (ab k.num)),uV (lo (qd k)),.string (hi (qd k)),iV s,iV b,iV t,mV d]
abbrev uC (r k:Rat)(s b t:Int)(d:Nat):List Value:=[.bool (af r.num),uV (lo (ab r.num)),.string (hi (ab r.num)),uV (lo (qd r)),.string (hi (qd r)),.bool (af k.num),uV (lo (ab k.num)),.string (hi (ab k.num)),uV (lo (qd k)),.string (hi (qd k)),iV s,iV b,iV t,mV d]
abbrev qX (q:Rat):Value:=.agg #[.bool (af q.num),uV (lo (ab q.num)),.string (hi (ab q.num)),uV (lo (qd q)),.string (hi (qd q))]
abbrev qC (q:Rat):List Value:=[.bool (af q.num),uV (lo (ab q.num)),.string (hi (ab q.num)),uV (lo (qd q)),.string (hi (qd q))]
abbrev qY (q:Rat)(A:Z9)(m c:Nat):Value:=.agg #[.bool (af q.num),uV (lo (ab q.num)),.string (hi (ab q.num)),uV (lo (qd q)),.string (hi (qd q)),.slice A m c]
abbrev qZ (q:Rat)(A:Z9)(m c:Nat):List Value:=[.bool (af q.num),uV (lo (ab q.num)),.string (hi (ab q.num)),uV (lo (qd q)),.string (hi (qd q)),.slice A m c]
abbrev wX (b:Value)(m:Nat):Value:=.agg #[b,uV (lo m),.string (hi m)]
abbrev wC (b:Value)(m:Nat):List Value:=[b,uV (lo m),.string (hi m)]
def nc (n:Nat):List Value:=[.int .u64 (lo n),.string (hi n)]
def nv (n:Nat):Value:=.agg #[.int .u64 (lo n),.string (hi n)]
def ic (z:Int):List Value:=[.bool (af z),.int .u64 (lo (ab z)),.string (hi (ab z))]
def iv (z:Int):Value:=.agg #[.bool (af z),.int .u64 (lo (ab z)),.string (hi (ab z))]
def qc (q:Rat):List Value:=[.bool (af q.num),.int .u64 (lo (ab q.num)),.string (hi (ab q.num)),.int .u64 (lo (qd q)),.string (hi (qd q))]
abbrev Sq (A:Z9)(l:List Rat):Hp->Prop:=fun h_=>SlO 5 qc 0 h_ A l
def qv (q:Rat):Value:=.agg #[.bool (af q.num),.int .u64 (lo (ab q.num)),.string (hi (ab q.num)),.int .u64 (lo (qd q)),.string (hi (qd q))]
theorem mm {n:Nat}(h:n<18446744073709551616):lo n=(n:Int):=by unfold lo;rw[z2 h]
theorem mQ {n:Nat}(h:n<18446744073709551616):hi n=⟨#[]⟩:=by
 unfold hi;rw[Hi h];cases n<;>rfl
def dP:List Nat->Nat
  | []=>0
  | x::l=>x+4294967296*dP l
def qh:Nat->Nat->List Nat
  | 0,_=>[]
  | f+1,n=>if n=0 then [] else n%4294967296::qh f (n/4294967296)
def lim (n:Nat):List Nat:=qh n n
abbrev iS (q:Rat)(A:Z9)(c:Nat)(D:Z9)(d:Nat):List Value:=[.bool (af q.num),.slice A (lim (ab q.num)).length c,.slice D (lim q.den).length d]
abbrev rG (q:Rat)(A:Z9)(c:Nat)(D:Z9)(d:Nat):Value:=.agg #[.bool (af q.num),.slice A (lim (ab q.num)).length c,.slice D (lim q.den).length d]
theorem tC:∀ (f g n:Nat),n<=f->n<=g->qh f n=qh g n
  | 0,g,n,hf,hg=>by
    have:n=0:=by omega
    subst this;cases g<;>rfl
  | f+1,0,n,hf,hg=>by
    have:n=0:=by omega
    subst this
    rfl
  | f+1,g+1,n,hf,hg=>by
    unfold qh
    split
    . rfl
    . rw[tC f g (n/4294967296) oM oM]
theorem gh:lim 0=[]:=rfl
theorem ft {n:Nat}(h:0<n):lim n=n%4294967296::lim (n/4294967296):=by
 unfold lim
 obtain ⟨m,rfl⟩:∃ m,n=m+1:=⟨n-1,by omega⟩;rw[qh,if_neg oM];rw[tC m _ _ oM (ea _)]
theorem Ev {n:Nat}(h0:0<n)(h:n<4294967296):lim n=[n]:=by
 rw[ft h0,z2 h,Hi h,gh]
theorem gi (n:Nat):dP (lim n)=n:=by
  induction n using g4 with
  | _ n ih =>
    rcases Aw n with h|h
    . subst h;rfl
    . rw[ft h,dP,ih (n/4294967296) oM]
      omega
theorem j9 (n:Nat):∀ x∈lim n,x<4294967296:=by
  induction n using g4 with
  | _ n ih =>
    rcases Aw n with h|h
    . subst h;intro x a;cases a
    . rw[ft h]
      intro x a
      rcases gs.1 a with rfl|a
      . omega
      . exact ih _ oM x a
theorem bR {n:Nat}:0<(lim n).length↔0<n:=by
 rcases Aw n with h|h
 ·subst h;simp[gh]
 ·rw[ft h];simp[h]
theorem rD {n:Nat}:lim n=[]↔n=0:=by
 constructor
 ·intro h;rcases Aw n with h0|h0;exact h0;rw[ft h0] at h;cases h
 ·rintro rfl;rfl
theorem eo {n k:Nat}(h:n<4294967296^k):(lim n).length<=k:=by
  induction k generalizing n with
  | zero => have:n=0:=by simpa using h
            subst this;simp[gh]
  | succ k ih =>
    rcases Aw n with h0|h0
    . subst h0;simp[gh]
    . rw[ft h0]
      have:n/4294967296<4294967296^k:=Hj (by rw[HA,H1] at h;exact h);have:=ih this
      simp
      omega
def tl (l:List Nat):Nat->Nat
  | 0=>0
  | n+1=>if l.getD n 0=0 then tl l n else n+1
theorem iq (l:List Nat):∀ n,tl l n<=n
 | 0=>ea _
 | n+1=>by unfold tl;split;exact Nat.le_succ_of_le (iq l n);exact ea _
theorem og {l:List Nat}{n:Nat}(h:n=0\/l.getD (n-1) 0≠0):tl l n=n:=by
 cases n with
 | zero=>rfl
 | succ n=>unfold tl;rw[if_neg];rcases h with h|h;omega;exact h
theorem kN (a b:List Nat):dP (a++b)=dP a+4294967296^a.length*dP b:=by
  induction a with
  | nil=>simp[dP]
  | cons x a ih =>
    simp only[Ll,dP,ih,tv,HA,Lm]
    rw[<-Ln,H1 (4294967296^a.length) 4294967296]
    omega
theorem lf {l:List Nat}(h:∀ x∈l,x<4294967296):dP l<4294967296^l.length:=by
  induction l with
  | nil=>simp[dP]
  | cons x l ih =>
    have h1:=h x (by simp);have c:=ih (fun y a=>h y (by simp[a]))
    simp only[dP,tv,HA]
    omega
theorem jF (x:Nat)(l:List Nat):∀ n,tl l n=0->tl (x::l) (n+1)=if x=0 then 0 else 1
  | 0,_=>by simp[tl]
  | n + 1,h=>by
    unfold tl at h
    split at h
    . rename_i h0
      show tl (x::l) (n+2)=_
      unfold tl
      rw[if_pos (by simpa using h0)];exact jF x l n h
    . omega
theorem k9 (l:List Nat)(n:Nat):tl l (n+1)=if l.getD n 0=0 then tl l n else n+1:=rfl
theorem kM (x:Nat)(l:List Nat):∀ n,0<tl l n->tl (x::l) (n+1)=tl l n+1
  | 0,h=>by simp[tl] at h
  | n + 1,h=>by
    rw[k9 l n] at h ⊢
    rw[k9 (x::l) (n+1),yZ]
    by_cases h0:l.getD n 0=0
    . rw[if_pos h0] at h ⊢
      rw[if_pos h0];exact kM x l n h
    . rw[if_neg h0,if_neg h0]
theorem oD (l:List Nat):dP l=0->tl l l.length=0:=by
  intro h
  have key:∀ n,n<=l.length->tl l n=0:=by
    have hz:∀ k,l.getD k 0=0:=by
      induction l with
      | nil=>intro k;simp
      | cons x l ih =>
        simp only[dP] at h
        intro k;cases k with
        | zero=>simp;omega
        | succ k=>simpa using ih oM k
    intro n
    induction n with
    | zero=>intro _;rfl
    | succ n ih=>intro hn;unfold tl;rw[if_pos (hz n)];exact ih oM
  exact key _ (ea _)
theorem BM {l:List Nat}(h:∀ x∈l,x<4294967296):lim (dP l)=l.take (tl l l.length):=by
  induction l with
  | nil=>rfl
  | cons x l ih =>
    have h1:=h x (by simp);have a:=ih (fun y e=>h y (by simp[e]))
    rcases Aw (dP (x::l)) with h0|h0
    . rw[h0,gh,oD _ h0];rfl
    . rw[ft h0]
      have d:dP (x::l)%4294967296=x:=by simp only[dP];omega
      have f:dP (x::l)/4294967296=dP l:=by simp only[dP];omega
      rw[d,f,a]
      rcases Aw (tl l l.length) with ht|ht
      . have c:x≠0:=by
          intro c;have:lim (dP l)=[]:=by rw[a,ht];rfl
          have:=rD.1 this
          simp only[dP] at h0
          omega
        rw[tv,jF x l _ ht,if_neg c,ht];rfl
      . rw[tv,kM x l _ ht];rfl
theorem lr (n:Nat)(h:0<n):(lim n).getD ((lim n).length-1) 0≠0:=by
  induction n using g4 with
  | _ n ih =>
    rw[ft h]
    rcases Aw (n/4294967296) with h0|h0
    . rw[h0,gh];simp;omega
    . have:=ih (n/4294967296) oM h0
      have a:=bR.2 h0;rw[tv,show (lim (n/4294967296)).length+1-1=((lim (n/4294967296)).length-1)+1 by omega,yZ];exact this
theorem mZ {l:List Nat}{k:Nat}(h:k<l.length):dP (l.take (k+1))=dP (l.take k)+4294967296^k*l.getD k 0:=by
 have e:l.take (k+1)=l.take k++[l.getD k 0]:=by
  rw[Lo];simp[h]
 rw[e,kN,Lp,Lq oM]
 show dP (l.take k)+4294967296^k*(l.getD k 0+4294967296*0)=_
 rw[Ls,yh]
theorem vC {l:List Nat}{k:Nat}(h:k<l.length):dP (l.drop k)=l.getD k 0+4294967296*dP (l.drop (k+1)):=by
 rw[Lt h]
 simp[dP,h]
def nb (n:Nat):Nat:=if n=0 then 0 else Nat.log2 n+1
theorem Dn:nb 0=0:=rfl
theorem co {n:Nat}(h:0<n):2^(nb n-1)<=n/\n<2^nb n/\0<nb n:=by
 unfold nb
 rw[if_neg oM];have:=(Lu (n:=n) (k:=n.log2) oM).1 rfl;exact ⟨this.1,this.2,by omega⟩
theorem kA {n k:Nat}(h1:2^k<=n)(a:n<2^(k+1)):nb n=k+1:=by
 have c:0<2^k:=Lv k
 unfold nb
 rw[if_neg oM,(Lu oM).2 ⟨h1,a⟩]
theorem Id (n:Nat):n<2^nb n:=by
 rcases Aw n with h|h
 ·subst h;simp[nb]
 ·exact (co h).2.1
theorem kF {n k:Nat}(h:n<2^k):nb n<=k:=by
 rcases Aw n with h0|h0
 ·subst h0;simp[nb]
 ·have:=co h0
  rcases cD k (nb n) with hl|hl
  ·have:2^k<=2^(nb n-1):=Lw oM oM
   omega
  ·exact hl
theorem Cx {n:Nat}(h:0<n):nb n=nb (n/2)+1:=by
 rcases cD n 2 with h2|h2
 ·have:n=1:=by omega
  subst this;decide
 ·obtain ⟨d,a,c⟩:=co (n:=n/2) oM
  apply kA
  ·have:2^nb (n/2)=2*2^(nb (n/2)-1):=by rw[<-Lx,show (nb (n/2)-1).succ=nb (n/2) by omega]
   omega
  ·rw[HA];omega
theorem B6 {lo wl k:Nat}(e:lo<2^k)(d:0<wl):nb (lo+2^k*wl)=k+nb wl:=by
 obtain ⟨c,a,f⟩:=co d;rw[show k+nb wl=(k+(nb wl-1))+1 by omega]
 apply kA
 ·rw[Ly]
  have:=Lz (2^k) c
  omega
 ·rw[show k+(nb wl-1)+1=k+nb wl by omega,Ly]
  have:=Lz (2^k) (show wl+1<=2^nb wl from a);rw[Nat.mul_succ] at this
  omega
theorem AN {a:Nat}(h:0<a):nb a=32*((lim a).length-1)+nb ((lim a).getD ((lim a).length-1) 0):=by
 have j:=bR.2 h;have e:=mZ (l:=lim a) (k:=(lim a).length-1) oM;rw[show (lim a).length-1+1=(lim a).length by omega,yY,gi] at e
 have c:=lf (l:=(lim a).take ((lim a).length-1)) (fun x d=>j9 a x (LA d));rw[Lp,Lq oM] at c
 have f:(4294967296:Nat)^((lim a).length-1)=2^(32*((lim a).length-1)):=by rw[LB]
 rw[f] at e c
 have i:=lr a h;have:=B6 c (Nat.pos_of_ne_zero i);rw[<-e] at this
 exact this
def fZ (n:Nat):Nat->List Nat
  | 0=>[]
  | m+1=>n/256^m%256::fZ n m
theorem j6 (n m:Nat):(fZ n m).length=m:=by induction m with|zero=>rfl|succ m ih=>simp[fZ,ih]
theorem iz (n:Nat):∀ (m k:Nat),k<m->(fZ n m).getD k 0=n/256^(m-1-k)%256
  | 0,k,h=>by omega
  | m+1,0,h=>by simp[fZ]
  | m+1,k+1,h=>by
    rw[fZ,yZ,iz n m k oM]
    congr 3
    omega
theorem kI (n m k:Nat):(fZ n m).getD k 0<256:=by
 rcases cD k m with h|h
 ·rw[iz n m k h];exact z6 _ oM
 ·simp[ta (show (fZ n m).length<=k by rw[j6];exact h)]
theorem xP (n i:Nat):n%256^(i+1)=n%256^i+256^i*(n/256^i%256):=by
 rw[HA,Nat.mod_mul]
theorem sV (a:Nat):nb a<=32*(lim a).length:=by
 apply kF
 have:=lf (j9 a);rw[gi] at this
 rw[LB];exact this
theorem xM (a k:Nat):(lim a).getD (k/4) 0/2^(8*(k%4))%256=a/256^k%256:=by
  have i:(lim a).getD (k/4) 0=a/4294967296^(k/4)%4294967296:=by
    rcases cD (k/4) (lim a).length with h|h
    . have e:=kN ((lim a).take (k/4)) ((lim a).drop (k/4))
      rw[LC,gi,Lp,Lq oM] at e
      have c:=lf (l:=(lim a).take (k/4)) (fun x d=>j9 a x (LA d));rw[Lp,Lq oM] at c
      have j:=vC h
      have d:(lim a).getD (k/4) 0<4294967296:=by
        have:=j9 a ((lim a)[k/4]) (e5 h);simpa [h] using this
      have h1:(dP ((lim a).take (k/4))+4294967296^(k/4)*dP ((lim a).drop (k/4)))/4294967296^(k/4)=dP ((lim a).drop (k/4)):=by
        rw[LD _ _ (LF oM),Hi c,y9]
      rw[<-e] at h1
      rw[h1,j]
      omega
    . have:a<4294967296^(k/4):=by
        have h1:=lf (j9 a);rw[gi] at h1
        exact ek h1 (Lw oM h)
      rw[Hi this]
      simp[ta h]
  rw[i]
  have f:(256:Nat)^k=4294967296^(k/4)*2^(8*(k%4)):=by
    have:k=4*(k/4)+k%4:=by omega
    conv=>lhs;rw[this,Ly,LB]
    rw[LB 2 8]
  rw[f,<-LH]
  generalize a/4294967296^(k/4)=y
  have:k%4=0\/k%4=1\/k%4=2\/k%4=3:=by omega
  rcases this with h|h|h|h<;>rw[h]<;>omega
theorem gy {l:List Nat}{m k x:Nat}{f:Nat->Nat}(h:l.length=m)(hk:k<m)(hv:∀ j,j<k->l.getD (m-1-j) 0=f j)(c:x=f k:=by rfl):∀ j,j<k+1->(l.set (m-1-k) x).getD (m-1-j) 0=f j:=by
 intro j d
 by_cases e:j=k
 ·subst e
  have:m-1-j<l.length:=by omega
  simp[this,c]
 ·have a:m-1-k≠m-1-j:=by omega
  have:=hv j oM
  simp only[LI] at this ⊢
  rw[ub a];exact this
theorem rH {l:List Nat}{n m:Nat}(d:l.length=m)(hv:∀ j,j<m->l.getD (m-1-j) 0=n/256^j%256):l=fZ n m:=by
 apply List.ext_getElem
 ·rw[j6,d]
 ·intro i h1 a
  have c:=iz n m i oM;have:=hv (m-1-i) oM;rw[show m-1-(m-1-i)=i by omega,<-c] at this
  simpa [h1,a] using this
def fN (n k j:Nat):Nat:=n/256^k*256^k/4294967296^j%4294967296
theorem vh (n j:Nat):fN n 0 j=n/4294967296^j%4294967296:=by unfold fN;simp
theorem wK {n k:Nat}(h:n<256^k)(j:Nat):fN n k j=0:=by unfold fN;rw[Hi h];simp
theorem oQ (n k j:Nat):fN n k j<4294967296:=z6 _ oM
theorem vg (k:Nat):(256:Nat)^k=4294967296^(k/4)*2^(8*(k%4)):=by
 have:k=4*(k/4)+k%4:=by omega
 conv=>lhs;rw[this,Ly,LB]
 rw[LB 2 8]
theorem tT (y q j:Nat):y*4294967296^q/4294967296^j%4294967296=if j<q then 0 else y/4294967296^(j-q)%4294967296:=by
 split
 ·rename_i h
  have e:(4294967296:Nat)^q=4294967296^j*(4294967296^(q-j-1)*4294967296):=by
   rw[<-HA,<-Ly];congr 1;omega
  rw[e,<-Ln,H1 y,Ln,Nat.mul_div_cancel_left _ (LF oM),<-Ln];exact LJ _ _
 ·rename_i h
  have e:(4294967296:Nat)^j=4294967296^q*4294967296^(j-q):=by rw[<-Ly];congr 1;omega
  rw[e,<-LH,Nat.mul_div_cancel _ (LF oM)]
theorem DR (x b:Nat)(a:b<256):∀ r,r<4->(256*x+b)*2^(8*r)%4294967296=256*x*2^(8*r)%4294967296+b*2^(8*r)/\(256*x+b)*2^(8*r)/4294967296=256*x*2^(8*r)/4294967296/\256*x*2^(8*r)%4294967296%2^(8*r+8)=0/\b*2^(8*r)<4294967296:=by
 intro r hr;have:r=0\/r=1\/r=2\/r=3:=by omega
 rcases this with rfl|rfl|rfl|rfl<;>omega
theorem oc (n k j:Nat):fN n k j=if j=k/4 then fN n (k+1) j ||| (n/256^k%256)*2^(8*(k%4)) else fN n (k+1) j:=by
  have o:n/256^k=256*(n/256^(k+1))+n/256^k%256:=by
    rw[HA,<-LH];omega
  have f:n/256^k%256<256:=z6 _ oM;have i:=vg k;have a:(256:Nat)^(k+1)=4294967296^(k/4)*2^(8*(k%4))*256:=by rw[HA,i]
  obtain ⟨p,l2,l3,z⟩:=DR (n/256^(k+1)) _ f (k%4) oM
  unfold fN
  generalize n/256^(k+1)=x at *
  generalize hb2:n/256^k%256=b at *
  rw[o,i,a];have l:(256*x+b)*(4294967296^(k/4)*2^(8*(k%4)))=(256*x+b)*2^(8*(k%4))*4294967296^(k/4):=by ac_rfl
  have u:x*(4294967296^(k/4)*2^(8*(k%4))*256)=256*x*2^(8*(k%4))*4294967296^(k/4):=by ac_rfl
  rw[l,u,tT,tT]
  by_cases h1:j<k/4
  . rw[if_pos h1,if_pos h1,if_neg oM]
  . rw[if_neg h1,if_neg h1]
    by_cases h2:j=k/4
    . rw[if_pos h2,h2,ti,Nat.pow_zero,Nat.div_one,Nat.div_one,p]
      obtain ⟨c,hc⟩:∃ c,256*x*2^(8*(k%4))%4294967296=2^(8*(k%4)+8)*c:=⟨_,(Nat.mul_div_cancel' (Nat.dvd_of_mod_eq_zero l3)).symm⟩;rw[hc]
      have e:b*2^(8*(k%4))<2^(8*(k%4)+8):=by
        rw[Ly,H1];exact LK f (Lv _)
      exact Nat.two_pow_add_eq_or_of_lt e c
    . rw[if_neg h2]
      obtain ⟨d,hd⟩:∃ d,j-k/4=d+1:=⟨j-k/4-1,by omega⟩;have h:∀ y:Nat,y/4294967296^(d+1)=y/4294967296/4294967296^d:=fun y=>by rw[Lx,LH]
      rw[hd,h,h,l2]
theorem iT:∀ (l:List Nat) (n:Nat),(∀ j,j<l.length->l.getD j 0=n/4294967296^j%4294967296)->n<4294967296^l.length->dP l=n
  | [],n,_,h=>by simp at h;simp[dP,h]
  | x :: l,n,hd,h=>by
    have h0:=hd 0 (by simp)
    simp at h0
    have c:=iT l (n/4294967296) (fun j a=>by
      have:=hd (j+1) (by simpa using a);rw[yZ,Lx,<-LH] at this
      exact this) (Hj (by rw[tv,Lx] at h;exact h))
    rw[dP,c,h0]
    omega
def ai (b:Nat):List Nat->Nat
  | []=>0
  | x::l=>x+b*ai b l
def Dg (b:Nat)(l:List Nat):Prop:=∀ x∈l,x<b
theorem kB (l:List Nat):dP l=ai 4294967296 l:=by
 induction l with
 | nil=>rfl
 | cons x l ih=>simp only[dP,ai,ih]
theorem Dg.nil {b:Nat}:Dg b []:=fun _ h=>by cases h
theorem Dg.getD {b:Nat}{l:List Nat}(h:Dg b l)(a:0<b)(k:Nat):l.getD k 0<b:=by
 rcases cD k l.length with hk|hk
 ·have:=h (l[k]) (e5 hk);simpa [hk] using this
 ·simpa [ta hk] using a
theorem Dg.set {b:Nat}{l:List Nat}(h:Dg b l)(k:Nat){x:Nat}(c:x<b):Dg b (l.set k x):=fun y a=>by
 rcases List.mem_or_eq_of_mem_set a with h1|h1
 ·exact h y h1
 ·rw[h1];exact c
theorem Dg.take {b:Nat}{l:List Nat}(h:Dg b l)(k:Nat):Dg b (l.take k):=fun x a=>h x (LA a)
theorem Dg.drop {b:Nat}{l:List Nat}(h:Dg b l)(k:Nat):Dg b (l.drop k):=fun x a=>h x (zy a)
theorem Dg.append {b:Nat}{l m:List Nat}(h:Dg b l)(k:Dg b m):Dg b (l++m):=fun x a=>by
 rcases fo.1 a with h1|h1
 ·exact h x h1
 ·exact k x h1
theorem Dg.one {b x:Nat}(h:x<b):Dg b [x]:=fun y a=>by rw[sA.1 a];exact h
theorem Dg.cons {b x:Nat}{l:List Nat}(h:x<b)(k:Dg b l):Dg b (x::l):=fun y a=>by
 rcases gs.1 a with rfl|h1
 ·exact h
 ·exact k y h1
theorem Dg.rep {b n:Nat}(c:0<b):Dg b (zZ n 0):=fun y a=>by rw[(List.mem_replicate.1 a).2];exact c
theorem cO (b:Nat)(x y:List Nat):ai b (x++y)=ai b x+b^x.length*ai b y:=by
  induction x with
  | nil=>simp[ai]
  | cons a x ih =>
    simp only[Ll,ai,ih,tv,HA,Lm]
    rw[<-Ln,H1 (b^x.length) b]
    omega
theorem bL {b:Nat}{l:List Nat}(h:Dg b l):ai b l<b^l.length:=by
  induction l with
  | nil=>simp[ai]
  | cons x l ih =>
    have h1:=h x (by simp);have c:=ih (fun y a=>h y (by simp[a]))
    simp only[ai,tv,HA]
    have d:b*(ai b l+1)<=b*b^l.length:=Lz _ c;rw[Lm,LL,H1 b (b^l.length)] at d
    omega
theorem bQ (b:Nat){l:List Nat}{k:Nat}(h:k<=l.length):ai b l=ai b (l.take k)+b^k*ai b (l.drop k):=by
 have e:=cO b (l.take k) (l.drop k);rw[LC,Lp,Lq h] at e
 exact e
theorem iN {l:List Nat}{k:Nat}(h:k<l.length):l.take (k+1)=l.take k++[l.getD k 0]:=by
 rw[Lo];simp[h]
theorem aJ (b:Nat){l:List Nat}{k:Nat}(h:k<l.length):ai b (l.take (k+1))=ai b (l.take k)+b^k*l.getD k 0:=by
 rw[iN h,cO,Lp,Lq oM]
 show ai b (l.take k)+b^k*(l.getD k 0+b*0)=_
 rw[Ls,yh]
theorem fX (b:Nat){l:List Nat}{k:Nat}(h:k<l.length):ai b (l.drop k)=l.getD k 0+b*ai b (l.drop (k+1)):=by
 rw[Lt h]
 simp[ai,h]
theorem cH (b:Nat){l:List Nat}{k:Nat}(x:Nat)(h:k<l.length):ai b (l.set k x)+b^k*l.getD k 0=ai b l+b^k*x:=by
  induction l generalizing k with
  | nil=>simp at h
  | cons y l ih =>
    cases k with
    | zero=>simp[ai];omega
    | succ k =>
      have:=ih (k:=k) (by simpa using h);rw[y8,yZ,ai,ai,HA,H1 (b^k) b,Ln,Ln];have e:b*(ai b (l.set k x)+b^k*l.getD k 0)=b*(ai b l+b^k*x):=by rw[this]
      rw[Lm,Lm] at e
      omega
theorem dJ (b n:Nat):ai b (zZ n 0)=0:=by
 induction n with
 | zero=>rfl
 | succ n ih=>simp[z1,ai,ih]
theorem oe {b:Nat}(c:0<b){l:List Nat}(h:ai b l=0)(k:Nat):l.getD k 0=0:=by
  induction l generalizing k with
  | nil=>simp
  | cons x l ih =>
    simp only[ai] at h
    have h1:b*ai b l=0:=by omega
    have a:ai b l=0:=by
      rcases Nat.mul_eq_zero.1 h1 with a|a
      . omega
      . exact a
    cases k with
    | zero=>simp;omega
    | succ k=>simpa using ih a k
theorem gW (b:Nat){l:List Nat}(h:∀ k,l.getD k 0=0):ai b l=0:=by
  induction l with
  | nil=>rfl
  | cons x l ih =>
    have h0:=h 0
    simp at h0
    rw[ai,ih (fun k=>by have:=h (k+1);simpa using this),h0];simp
theorem jD {l:List Nat}{k n:Nat}(h:k<n):(l.take n).getD k 0=l.getD k 0:=by
 simp only[LI,List.getElem?_take,if_pos h]
theorem bD {l:List Nat}{k n:Nat}:(l.drop n).getD k 0=l.getD (n+k) 0:=by
 simp only[LI,vl]
theorem bC {l:List Nat}{k j x:Nat}(h:k<l.length):(l.set k x).getD j 0=if k=j then x else l.getD j 0:=by
 simp only[LI,List.getElem?_set,h,if_true]
 split<;>simp
theorem ef {n k:Nat}:(zZ n 0).getD k 0=0:=by
 simp only[LI,List.getElem?_replicate]
 split<;>rfl
theorem ck {l:List Nat}{k:Nat}(h:l.length<=k):l.getD k 0=0:=by simp[ta h]
theorem jR (b:Nat)(l:List Nat):∀ n,n<=l.length->ai b (l.take (tl l n))=ai b (l.take n)
  | 0,_=>rfl
  | n + 1,h=>by
    unfold tl
    split
    . rename_i h0
      rw[aJ b oM,h0,jR b l n oM];simp
    . rfl
theorem uR {l:List Nat}:∀ n,tl l n=0\/l.getD (tl l n-1) 0≠0
  | 0=>.inl rfl
  | n+1=>by
    unfold tl
    split
    . exact uR n
    . rename_i h;exact .inr h
def qU (b:Nat):Nat->Nat->List Nat
  | 0,_=>[]
  | f+1,n=>if n=0 then [] else n%b::qU b f (n/b)
def gV (b n:Nat):List Nat:=qU b n n
theorem uy {b:Nat}(a:2<=b):∀ (f g n:Nat),n<=f->n<=g->qU b f n=qU b g n
  | 0,g,n,hf,hg=>by
    have:n=0:=by omega
    subst this;cases g<;>rfl
  | f+1,0,n,hf,hg=>by
    have:n=0:=by omega
    subst this
    rfl
  | f + 1,g+1,n,hf,hg=>by
    unfold qU
    split
    . rfl
    . rename_i h0
      have:=LM (n:=n) (k:=b) oM oM;rw[uy a f g (n/b) oM oM]
theorem jT (b:Nat):gV b 0=[]:=rfl
theorem eU {b n:Nat}(a:2<=b)(h:0<n):gV b n=n%b::gV b (n/b):=by
 unfold gV
 obtain ⟨m,rfl⟩:∃ m,n=m+1:=⟨n-1,by omega⟩;have:=LM (n:=m+1) (k:=b) oM oM;rw[qU,if_neg oM];rw[uy a m _ _ oM (ea _)]
theorem jG {b:Nat}(a:2<=b)(n:Nat):ai b (gV b n)=n:=by
  induction n using g4 with
  | _ n ih =>
    rcases Aw n with h|h
    . subst h;rfl
    . rw[eU a h,ai,ih (n/b) (LM h oM)]
      exact Nat.mod_add_div n b
theorem wR {b:Nat}(a:2<=b)(n:Nat):Dg b (gV b n):=by
  induction n using g4 with
  | _ n ih =>
    rcases Aw n with h|h
    . subst h;exact Dg.nil
    . rw[eU a h]
      exact Dg.cons (z6 _ oM) (ih _ (LM h oM))
theorem oL {b n:Nat}(a:2<=b):0<(gV b n).length↔0<n:=by
 rcases Aw n with h|h
 ·subst h;simp[jT]
 ·rw[eU a h];simp[h]
theorem sP {b:Nat}(i:2<=b){l:List Nat}(e:Dg b l)(a:l=[]\/l.getD (l.length-1) 0≠0):gV b (ai b l)=l:=by
  induction l with
  | nil=>rfl
  | cons x l ih =>
    have d:=e x (by simp);have f:(x+b*ai b l)%b=x:=by rw[Nat.add_mul_mod_self_left,z2 d]
    have o:(x+b*ai b l)/b=ai b l:=by rw[LD _ _ oM,Hi d,y9]
    have c:l=[]\/l.getD (l.length-1) 0≠0:=by
      rcases List.eq_nil_or_concat l with h0|⟨m,y,rfl⟩
      . exact .inl h0
      . right
        rcases a with a|a
        . cases a
        . rw[show (x::m.concat y).length-1=((m.concat y).length-1)+1 by simp,yZ] at a
          exact a
    have j:0<ai b (x::l):=by
      rcases Aw (ai b (x::l)) with h0|h0
      . rcases a with a|a
        . cases a
        . exact absurd (oe oM h0 _) a
      . exact h0
    rw[eU i j]
    simp only[ai]
    rw[f,o,ih (fun y h=>e y (by simp[h])) c]
theorem Hr {b:Nat}(c:2<=b){l:List Nat}(d:Dg b l):gV b (ai b l)=l.take (tl l l.length):=by
 have e:=jR b l l.length (ea _);rw[yY] at e
 have a:=iq l l.length
 have:=sP c (d.take (tl l l.length)) (by
  by_cases h0:tl l l.length=0
  ·left;rw[h0];rfl
  ·right
   rw[Lp,Lq a,jD oM]
   rcases uR (l:=l) l.length with h|h
   ·exact absurd h h0
   ·exact h)
 rw[e] at this
 exact this
theorem mh {b:Nat}(a:2<=b)(n:Nat)(h:0<n):(gV b n).getD ((gV b n).length-1) 0≠0:=by
  induction n using g4 with
  | _ n ih =>
    rw[eU a h]
    rcases Aw (n/b) with h0|h0
    . rw[h0,jT]
      have:n<b:=by
        rcases cD n b with h1|h1
        . exact h1
        . have:=Nat.div_pos h1 oM;omega
      simp[z2 this];omega
    . have:=ih (n/b) (LM h oM) h0
      have c:=(oL a).2 h0;rw[tv,show (gV b (n/b)).length+1-1=((gV b (n/b)).length-1)+1 by omega,yZ];exact this
theorem fg {b n k:Nat}(a:2<=b)(h:n<b^k):(gV b n).length<=k:=by
 rcases Aw n with h0|h0
 ·subst h0;simp[jT]
 ·rcases cD k (gV b n).length with hk|hk
  ·exfalso
   have h1:=aJ b (l:=gV b n) (k:=(gV b n).length-1) oM;rw[show (gV b n).length-1+1=(gV b n).length by omega,yY,jG a] at h1
   have c:=mh a n h0;have d:b^((gV b n).length-1)*1<=b^((gV b n).length-1)*(gV b n).getD ((gV b n).length-1) 0:=Lz _ oM;have e:b^k<=b^((gV b n).length-1):=Lw oM oM
   omega
  ·exact hk
theorem jq {b:Nat}(a:2<=b)(n:Nat):n<b^(gV b n).length:=by
 have:=bL (wR a n)
 rwa [jG a] at this
theorem rJ {b n:Nat}(a:2<=b)(h:0<n):b^((gV b n).length-1)<=n:=by
 have e:=(oL a).2 h;have h1:=aJ b (l:=gV b n) (k:=(gV b n).length-1) oM;rw[show (gV b n).length-1+1=(gV b n).length by omega,yY,jG a] at h1
 have c:=mh a n h;have d:b^((gV b n).length-1)*1<=b^((gV b n).length-1)*(gV b n).getD ((gV b n).length-1) 0:=Lz _ oM
 omega
theorem iR (b:Nat){l:List Nat}{k m:Nat}(hk:k+m<=l.length)(a:0<b)(f:Dg b l)(h:ai b l<b^(k+m)):ai b l/b^k=ai b ((l.drop k).take m)/\∀ i,k+m<=i->l.getD i 0=0:=by
 have d:=bQ b (l:=l) (k:=k) oM;have c:=bQ b (l:=l.drop k) (k:=m) (by rw[List.length_drop];omega);have h1:=bL (f.take k);rw[Lp,Lq oM] at h1
 have j:0<b^k:=LF a
 have hz:ai b ((l.drop k).drop m)=0:=by
  rcases Aw (ai b ((l.drop k).drop m)) with h0|h0
  ·exact h0
  ·exfalso
   have o:b^m*1<=b^m*ai b ((l.drop k).drop m):=Lz _ h0;have e:b^k*b^m<=b^k*ai b (l.drop k):=Lz _ oM;rw[<-Ly] at e
   omega
 rw[hz,Ls,yh] at c
 refine ⟨?_,fun i hi=>?_⟩
 ·rw[d,LD _ _ j,Hi h1,y9,c]
 ·have:=oe a hz (i-k-m)
  rw[bD,bD,show k+(m+(i-k-m))=i by omega] at this
  exact this
theorem xi {b P u v U V G:Nat}(o:0<P)(l:U*P<=u)(i:u<(U+1)*P)(d:V*P<=v)(j:v<(V+1)*P)(c:b*P<=v)(e:u<b*v)(x:G*V<=U)(a:G+1=b\/U<(G+1)*V)(p:G<b) :
    u/v<=G/\G<=u/v+1:=by
  have hv:0<v:=ek (Nat.mul_pos oM o) c
  constructor
  . have y:u/v<G+1:=by
      rw[Nat.div_lt_iff_lt_mul hv]
      rcases a with h|h
      . rw[h];exact e
      . have h1:(U+1)*P<=(G+1)*V*P:=zh _ h
        have f:(G+1)*(V*P)<=(G+1)*v:=Lz _ d;rw[Ln] at h1
        omega
    omega
  . have h1:G*v<=u+v:=by
      have B:G*v<=G*((V+1)*P):=Lz _ oM;have C:G*((V+1)*P)=G*V*P+G*P:=by rw[<-Ln,Lm,LL,LN]
      have z:G*V*P<=U*P:=zh _ x;have D:G*P<=b*P:=zh _ oM
      omega
    have f:G<=(u+v)/v:=(Nat.le_div_iff_mul_le hv).2 h1;rw[Nat.add_div_right _ hv] at f
    omega
theorem aF (b:Nat)(l:List Nat)(k:Nat):ai b (l.take (k+1))=ai b (l.take k)+b^k*l.getD k 0:=by
 rcases cD k l.length with h|h
 ·exact aJ b h
 ·rw[LO oM,LO h]
  simp[ta h]
theorem gQ {b:Nat}{l y:List Nat}{i c c' s X:Nat}(hi:i<l.length)(inv:ai b l+b^i*c=X+ai b (y.take i))(e:s+b*c'=l.getD i 0+y.getD i 0+c) :
  ai b (l.set i s)+b^(i+1)*c'=X+ai b (y.take (i+1)):=by
 have h1:=cH b s hi;rw[aF,HA]
 generalize b^i=P at *
 generalize ai b (l.set i s)=S at *
 have a:P*(s+b*c')=P*(l.getD i 0+y.getD i 0+c):=by rw[e]
 simp only[Lm,<-Ln] at a ⊢
 omega
theorem iE {b:Nat}{l y:List Nat}{i c c' s X:Nat}(hi:i<l.length)(inv:ai b l+ai b (y.take i)=X+b^i*c)(e:s+y.getD i 0+c=l.getD i 0+b*c') :
  ai b (l.set i s)+ai b (y.take (i+1))=X+b^(i+1)*c':=by
 have h1:=cH b s hi;rw[aF,HA]
 generalize b^i=P at *
 generalize ai b (l.set i s)=S at *
 have a:P*(s+y.getD i 0+c)=P*(l.getD i 0+b*c'):=by rw[e]
 simp only[Lm,<-Ln] at a ⊢
 omega
theorem lE {b:Nat}{l y:List Nat}{k j m c c' s X:Nat}(hi:k+j<l.length)(inv:ai b l+b^(k+j)*c=X+b^k*(m*ai b (y.take j)))(e:s+b*c'=l.getD (k+j) 0+m*y.getD j 0+c) :
  ai b (l.set (k+j) s)+b^(k+(j+1))*c'=X+b^k*(m*ai b (y.take (j+1))):=by
 have h1:=cH b s hi;rw[aF,<-wi,HA];have a:b^(k+j)=b^k*b^j:=Ly _ _ _;have f:b^(k+j)*(s+b*c')=b^(k+j)*(l.getD (k+j) 0+m*y.getD j 0+c):=by rw[e]
 have d:b^k*(m*(ai b (y.take j)+b^j*y.getD j 0))=b^k*(m*ai b (y.take j))+b^(k+j)*(m*y.getD j 0):=by
  rw[a,Lm,Lm,<-Ln m,H1 m (b^j),Ln (b^j),<-Ln (b^k) (b^j)]
 rw[d]
 generalize b^(k+j)=P at *
 generalize ai b (l.set (k+j) s)=S at *
 generalize b^k*(m*ai b (y.take j))=Y at *
 simp only[Lm,<-Ln] at f ⊢
 omega
theorem uS {b:Nat}{l y:List Nat}{k m c X:Nat}(hi:k+y.length<l.length)(inv:ai b l+b^(k+y.length)*c=X+b^k*(m*ai b (y.take y.length)))(h0:l.getD (k+y.length) 0=0) :
  ai b (l.set (k+y.length) c)=X+b^k*(m*ai b y):=by
 have h1:=cH b c hi;rw[yY] at inv
 rw[h0] at h1
 omega
theorem u6 {b:Nat}{x:List Nat}{i X Y:Nat}(h:X=ai b (x.take i)*Y):X+b^i*(x.getD i 0*Y)=ai b (x.take (i+1))*Y:=by
 rw[aF,LN,h,Ln]
theorem EL {b:Nat}{l:List Nat}{i d r a q X:Nat}(hi:i<l.length)(inv:X=d*(b^(i+1)*ai b (l.drop (i+1)))+(b^(i+1)*r+ai b (l.take (i+1))))(e:r*b+l.getD i 0=d*q+a) :
  X=d*(b^i*ai b ((l.set i q).drop i))+(b^i*a+ai b ((l.set i q).take i)):=by
 have c:(l.set i q).take i=l.take i:=by rw[List.take_set_of_le (ea _)]
 have j:ai b ((l.set i q).drop i)=q+b*ai b (l.drop (i+1)):=by
  rw[fX b (by simpa using hi),bC hi,if_pos rfl,List.drop_set_of_lt oM]
 rw[c,j,inv,aJ b hi,HA];have f:b^i*(r*b+l.getD i 0)=b^i*(d*q+a):=by rw[e]
 have o:d*(b^i*(q+b*ai b (l.drop (i+1))))=b^i*(d*q)+d*(b^i*b*ai b (l.drop (i+1))):=by
  rw[Lm,Lm,<-Ln (b^i) b,Nat.mul_left_comm d (b^i) q]
 have h:b^i*b*r=b^i*(r*b):=by rw[Ln,H1 b r]
 rw[o,h]
 simp only[Lm] at f
 omega
theorem uG {b:Nat}{u v:List Nat}{j i G c c' a bo' t s X:Nat}(hi:j+i<u.length)(inv:ai b u+b^j*(G*ai b (v.take i))=X+b^(j+i)*(c+a))(f:t+b*c'=G*v.getD i 0+c)(e:s+t+a=u.getD (j+i) 0+b*bo') :
  ai b (u.set (j+i) s)+b^j*(G*ai b (v.take (i+1)))=X+b^(j+(i+1))*(c'+bo'):=by
 have h1:=cH b s hi;rw[aF,<-wi,HA];have d:b^(j+i)=b^j*b^i:=Ly _ _ _
 have o:b^j*(G*(ai b (v.take i)+b^i*v.getD i 0))=b^j*(G*ai b (v.take i))+b^(j+i)*(G*v.getD i 0):=by
  rw[d,Lm,Lm,<-Ln G,H1 G (b^i),Ln (b^i),<-Ln (b^j) (b^i)]
 rw[o];have h:b^(j+i)*(t+b*c')=b^(j+i)*(G*v.getD i 0+c):=by rw[f]
 have l:b^(j+i)*(s+t+a)=b^(j+i)*(u.getD (j+i) 0+b*bo'):=by rw[e]
 generalize b^(j+i)=P at *
 generalize ai b (u.set (j+i) s)=S at *
 generalize b^j*(G*ai b (v.take i))=Y at *
 simp only[Lm,<-Ln] at h l inv ⊢
 omega
theorem xE {b:Nat}{u v:List Nat}{j G c a bo' s X:Nat}(hi:j+v.length<u.length)(inv:ai b u+b^j*(G*ai b (v.take v.length))=X+b^(j+v.length)*(c+a))(e:s+c+a=u.getD (j+v.length) 0+b*bo') :
  ai b (u.set (j+v.length) s)+b^j*(G*ai b v)=X+b^(j+v.length+1)*bo':=by
 have h1:=cH b s hi;rw[yY] at inv
 rw[HA];have d:b^(j+v.length)*(s+c+a)=b^(j+v.length)*(u.getD (j+v.length) 0+b*bo'):=by rw[e]
 generalize b^(j+v.length)=P at *
 generalize ai b (u.set (j+v.length) s)=S at *
 generalize b^j*(G*ai b v)=Y at *
 simp only[Lm,<-Ln] at d inv ⊢
 omega
theorem uQ {b:Nat}{u v:List Nat}{j i c c' s X:Nat}(hi:j+i<u.length)(inv:ai b u+b^(j+i)*c=X+b^j*ai b (v.take i))(e:s+b*c'=u.getD (j+i) 0+v.getD i 0+c) :
  ai b (u.set (j+i) s)+b^(j+(i+1))*c'=X+b^j*ai b (v.take (i+1)):=by
 have:=lE (b:=b) (l:=u) (y:=v) (k:=j) (j:=i) (m:=1) (c:=c) (c':=c') (s:=s) (X:=X) hi (by rw[LP];exact inv) (by rw[LP];exact e);rw[LP] at this
 exact this
theorem wu {b:Nat}{u v:List Nat}{j c c' s X:Nat}(hi:j+v.length<u.length)(inv:ai b u+b^(j+v.length)*c=X+b^j*ai b (v.take v.length))(e:s+b*c'=u.getD (j+v.length) 0+c) :
  ai b (u.set (j+v.length) s)+b^(j+v.length+1)*c'=X+b^j*ai b v:=by
 have h1:=cH b s hi;rw[yY] at inv
 rw[HA];have a:b^(j+v.length)*(s+b*c')=b^(j+v.length)*(u.getD (j+v.length) 0+c):=by rw[e]
 generalize b^(j+v.length)=P at *
 generalize ai b (u.set (j+v.length) s)=S at *
 generalize b^j*ai b v=Y at *
 simp only[Lm,<-Ln] at a inv ⊢
 omega
def Above (u u0:List Nat)(k:Nat):Prop:=u.length=u0.length/\∀ i,k<=i->u.getD i 0=u0.getD i 0
theorem Above.refl (u:List Nat)(k:Nat):Above u u k:=⟨rfl,fun _ _=>rfl⟩
theorem Above.set {u a:List Nat}{k i x:Nat}(h:Above u a k)(hi:i<k)(d:i<u.length):Above (u.set i x) a k:=⟨by rw[List.length_set];exact h.1,fun j c=>by rw[bC d,if_neg oM];exact h.2 j c⟩
theorem fr {b:Nat}(d:0<b){u a:List Nat}{k:Nat}(h:Above u a k)(f:Dg b u)(c:Dg b a)(hk:k<=u.length)(h0:ai b a<b^k):ai b u<b^k:=by
 have e:=bQ b hk;have h1:=bL (f.take k);rw[Lp,Lq hk] at h1
 have hz:ai b (u.drop k)=0:=gW b (fun i=>by
  rw[bD,h.2 _ oM];exact (iR b (l:=a) (k:=k) (m:=0) (by rw[<-h.1];exact hk) d c h0).2 _ oM)
 rw[hz] at e
 omega
theorem fW {b n j R v d G f:Nat}(D:2<=b)(hn:2<=n)(l:b^(n-1)<=v)(c:v<b^n)(hR:R<b^(j+1)*v)(z:d<b^(j+n+1))(e:d+b^j*(G*v)=R+b^(j+n+1)*f)(B:f<=1)
    (H:R/(b^j*v)<=G/\G<=R/(b^j*v)+1) :
    (f=0->G=R/(b^j*v)/\d=R-b^j*(G*v)/\d<b^j*v/\b^j*(G*v)<=R)/\(f=1->G=R/(b^j*v)+1/\d+b^j*v=(R-b^j*((G-1)*v))+b^(j+n+1)/\R-b^j*((G-1)*v)<b^j*v/\b^j*((G-1)*v)<=R):=by
  have p:0<b^j:=LF oM;have o:0<v:=ek (LF oM) l;have y:0<b^j*v:=Nat.mul_pos p o;have eq:∀ g,b^j*(g*v)=g*(b^j*v):=fun g=>by rw[<-Ln,H1 (b^j) g,Ln]
  have i:=LR R (b^j*v);have x:=z6 R y;rw[H1] at i
  rw[eq] at e
  have u:b^j*v<b^(j+n+1):=by
    have h1:b^j*v<b^j*b^n:=LK c p;rw[<-Ly] at h1
    have F:b^(j+n)<=b^(j+n+1):=Lw oM oM
    omega
  have C:R<b^(j+n+1):=by
    have h1:b^(j+1)*v<b^(j+1)*b^n:=LK c (LF oM);rw[<-Ly,show j+1+n=j+n+1 by omega] at h1
    omega
  generalize b^(j+n+1)=T at *
  generalize hWe:b^j*v=W at *
  generalize hQ:R/W=Q at *
  refine ⟨fun h=>?_,fun h=>?_⟩
  . subst h
    rw[eq]
    have a:G=Q:=by
      rcases cD Q G with h1|h1
      . exfalso
        have:G=Q+1:=by omega
        subst this;rw[LN] at e
        omega
      . omega
    subst a
    omega
  . subst h
    have a:G=Q+1:=by
      rcases cD Q G with h1|h1
      . omega
      . exfalso
        have:G=Q:=by omega
        subst this
        omega
    subst a;rw[eq,Nat.add_sub_cancel];rw[LN] at e
    omega
theorem nH {b n j G:Nat}{u v:List Nat}(L:2<=b)(hn:2<=n)(J:v.length=n)(h:Dg b v)(x:Dg b u)(O:j+n<u.length)(D:v.getD (n-1) 0≠0)(hR:ai b u<b^(j+1)*ai b v)
  (K:G*(v.getD (n-1) 0*b+v.getD (n-2) 0)<=u.getD (j+n) 0*b*b+u.getD (j+n-1) 0*b+u.getD (j+n-2) 0)
  (p:G+1=b\/u.getD (j+n) 0*b*b+u.getD (j+n-1) 0*b+u.getD (j+n-2) 0<(G+1)*(v.getD (n-1) 0*b+v.getD (n-2) 0))(z:G<b) :
  ai b u/(b^j*ai b v)<=G/\G<=ai b u/(b^j*ai b v)+1:=by
 have c:=bL h;rw[J] at c
 have I:0<b^(j+n-2):=LF oM
 have y:ai b u<b^(j+n-2+3):=by
  have h1:b^(j+1)*ai b v<b^(j+1)*b^n:=LK c (LF oM);rw[<-Ly,show j+1+n=j+n-2+3 by omega] at h1
  omega
 have e:∀ {l:List Nat} {k:Nat},k+3<=l.length->ai b ((l.drop k).take 3)=l.getD (k+2) 0*b*b+l.getD (k+1) 0*b+l.getD k 0:=fun {l k} hk=>by
  rw[aF,aF,aF,bD,bD,bD]
  simp[ai,HA]
  rw[H1 b (l[k+1]?.getD 0),H1 (b*b) (l[k+2]?.getD 0),Ln]
  omega
 have two:∀ {l:List Nat} {k:Nat},k+2<=l.length->ai b ((l.drop k).take 2)=l.getD (k+1) 0*b+l.getD k 0:=fun {l k} hk=>by
  rw[aF,aF,bD,bD]
  simp[ai]
  rw[H1 b (l[k+1]?.getD 0)]
  omega
 have B:=(iR b (l:=u) (k:=j+n-2) (m:=3) oM oM x y).1;have C:=(iR b (l:=v) (k:=n-2) (m:=2) oM oM h (by rw[show n-2+2=n by omega];exact c)).1;rw[e oM,show j+n-2+2=j+n by omega,show j+n-2+1=j+n-1 by omega] at B
 rw[two oM,show n-2+1=n-1 by omega] at C
 have a:b^(j+n-2)=b^j*b^(n-2):=by rw[<-Ly];congr 1;omega
 have o:0<b^(n-2):=LF oM;have f:=LR (ai b u) (b^(j+n-2));have F:=z6 (ai b u) I;have i:=LR (ai b v) (b^(n-2));have H:=z6 (ai b v) o;rw[B] at f
 rw[C] at i
 have d:b^(n-1)<=ai b v:=by
  have:=aJ b (l:=v) (k:=n-1) oM;rw[show n-1+1=v.length by omega,yY] at this
  have M:b^(n-1)*1<=b^(n-1)*v.getD (n-1) 0:=Lz _ oM
  omega
 generalize hU:u.getD (j+n) 0*b*b+u.getD (j+n-1) 0*b+u.getD (j+n-2) 0=U at *
 generalize hV:v.getD (n-1) 0*b+v.getD (n-2) 0=V at *
 generalize ai b u%b^(j+n-2)=mu at *
 generalize ai b v%b^(n-2)=mv at *
 refine xi (b:=b) (P:=b^(j+n-2)) (U:=U) (V:=V) I ?_ ?_ ?_ ?_ ?_ ?_ K p z
 ·rw[H1];omega
 ·rw[LN,LP,H1 U];omega
 ·rw[a,H1 V,Ln]
  exact Lz _ oM
 ·rw[a,H1 (V+1),Ln,Lm,LL]
  exact LK oM (LF oM)
 ·rw[a,H1 b (b^j*b^(n-2)),Ln]
  refine Lz _ ?_;rw[<-HA,show (n-2).succ=n-1 by omega];exact d
 ·rw[HA] at hR
  rw[<-Ln,H1 b (b^j)];exact hR
def aU (s:ByteArray)(i:Nat):Nat:=(s.data.toList.getD i 0).toNat
theorem cM (s:ByteArray)(i:Nat):aU s i<256:=UInt8.toNat_lt _
def wv (s:ByteArray):Nat:=aU s 0+aU s 1*256+aU s 2*65536+aU s 3*16777216+aU s 4*4294967296+aU s 5*1099511627776+aU s 6*281474976710656+aU s 7*72057594037927936
theorem ES (s:ByteArray):wv s<18446744073709551616:=by
 have h0:=cM s 0;have h1:=cM s 1;have d:=cM s 2;have e:=cM s 3;have h:=cM s 4;have a:=cM s 5;have c:=cM s 6;have f:=cM s 7
 unfold wv;omega
section ops
variable {P:Program}{Γ:cl}{o:Oper}
theorem dU {tx:TypeId}{x i:Operand}{k:IntKind}{s:ByteArray}{n:Nat}{j:Int}(d:o.op=.index tx x i)(c:ev Γ x=.string s)(hi:ev Γ i=.int k j)(f:P.underlying tx=some .string)(e:j=(n:Int))(hn:n<s.size)(w:World) :
  (execOp (ev Γ) o).run P w=.ok (.value (.int .u8 (aU s n:Nat))) w:=by
 unfold execOp;simp only[d];rw[c,hi,e]
 have h0:(0:Int)<=(n:Int):=Int.natCast_nonneg n;have a:n<s.data.size:=hn
 have h1:s[n]?=some (s.data.toList.getD n 0):=by
  simp[hn,a,ByteArray.getElem_eq_getElem_data]
 simp[Instr.index,asIntOf,run_underlying f,h1,aU,Result.andThen]
theorem pU {tx:TypeId}{x i:Operand}{k:IntKind}{s:ByteArray}{n:Nat}{j:Int}(c:o.op=.slice tx x (some i) none none)(a:ev Γ x=.string s)(hi:ev Γ i=.int k j)(e:P.underlying tx=some .string)(d:j=(n:Int))(hn:n<=s.size)(w:World) :
  (execOp (ev Γ) o).run P w=.ok (.value (.string (s.extract n s.size))) w:=by
 unfold execOp;simp only[c]
 subst d;have h0:(n:Int)<=(s.size:Int):=by omega
 simp[Instr.sliceAt,a,hi,Instr.slice,run_underlying e,Instr.sliceBounds,Instr.sliceBound,asIntOf,Result.andThen,h0,hn]
theorem ig {t u:TypeId}{x y:Operand}{ky:IntKind}{a n:Nat}(j:o.op=.binOp .shl t x y u)(f:ev Γ x=.int .u64 (a:Int))(d:ev Γ y=.int ky (n:Int))(w:World) :
    (execOp (ev Γ) o).run P w=.ok (.value (.int .u64 ((a*2^n%18446744073709551616:Nat):Int))) w:=by
  unfold execOp;simp only[j];rw[f,d]
  have hz:¬((n:Int)<0):=by omega
  have e:IntKind.wrap .u64 ((a:Int)*2^(min n IntKind.u64.bits))=((a*2^n%18446744073709551616:Nat):Int):=by
    have c:(a:Int)*2^(min n IntKind.u64.bits)=((a*2^(min n 64):Nat):Int):=by
      rw[show IntKind.u64.bits=64 from rfl];push_cast;rfl
    rw[c,wH]
    rcases cD n 64 with h|h
    . rw[Lq oM]
    . rw[LS h]
      have l:(2:Nat)^n=18446744073709551616*2^(n-64):=by
        rw[show (18446744073709551616:Nat)=2^64 from rfl,<-Ly];congr 1;omega
      have i:a*2^n%18446744073709551616=0:=by rw[l,<-Ln,H1 a,Ln,Nat.mul_mod_right]
      rw[i,show (2:Nat)^64=18446744073709551616 from rfl,LJ]
  simp[binOp,eqGuard,Op.shift,Result.andThen,hz,e]
theorem gF {t u:TypeId}{x y:Operand}{ky:IntKind}{a n:Nat}(i:o.op=.binOp .shr t x y u)(f:ev Γ x=.int .u64 (a:Int))(d:ev Γ y=.int ky (n:Int))(ha:a<18446744073709551616)(w:World) :
  (execOp (ev Γ) o).run P w=.ok (.value (.int .u64 ((a/2^n:Nat):Int))) w:=by
 unfold execOp;simp only[i];rw[f,d]
 have hz:¬((n:Int)<0):=by omega
 have j:(0:Int)<=2^(min n IntKind.u64.bits):=Ga kD
 have e:(a:Int)/2^(min n IntKind.u64.bits)=((a/2^n:Nat):Int):=by
  have c:(a:Int)/2^(min n IntKind.u64.bits)=((a/2^(min n 64):Nat):Int):=by
   rw[show IntKind.u64.bits=64 from rfl];push_cast;rfl
  rw[c]
  rcases cD n 64 with h|h
  ·rw[Lq oM]
  ·have h1:(2:Nat)^64<=2^n:=Lw oM h
   rw[LS h,Hi oM,Hi oM]
 simp[binOp,eqGuard,Op.shift,Result.andThen,hz,D1 _ j,e]
theorem rr {t u:TypeId}{x y:Operand}{a:Nat}{m:Int}(p:Nat)(i:o.op=.binOp .and t x y u)(f:ev Γ x=.int .u64 (a:Int))(d:ev Γ y=.int .u64 m)(ha:a<18446744073709551616)(c:p<=64/\m=((2^p-1:Nat):Int))(w:World) :
  (execOp (ev Γ) o).run P w=.ok (.value (.int .u64 ((a%2^p:Nat):Int))) w:=by
 unfold execOp;simp only[i];rw[f,d,c.2]
 have h:(2^p-1:Nat)<2^64:=by
  have:(2:Nat)^p<=2^64:=Lw oM c.1;have:=Lv p
  omega
 have e:bits .and .u64 (a:Int) ((2^p-1:Nat):Int)=((a%2^p:Nat):Int):=by
  unfold bits
  have h1:(BitVec.ofInt 64 (a:Int) &&& BitVec.ofInt 64 ((2^p-1:Nat):Int)).toNat=a%2^p:=by
   rw[BitVec.toNat_and,<-Nat.and_two_pow_sub_one_eq_mod]
   congr 1
   ·simp[BitVec.toNat_ofInt];omega
   ·rw[BitVec.toNat_ofInt,<-Int.natCast_emod,z7,z2 h]
  show IntKind.wrap .u64 (((BitVec.ofInt 64 (a:Int) &&& BitVec.ofInt 64 ((2^p-1:Nat):Int)).toNat:Nat):Int)=_
  rw[h1,wH];have:a%2^p<=a:=Nat.mod_le _ _;rw[z2 oM]
 simp[binOp,eqGuard,Result.andThen,intBits_and,e]
end ops
theorem Cg (a b:Nat):IntKind.wrap .u64 ((a:Int)+(b:Int))=(((a+b)%18446744073709551616:Nat):Int):=by rw[IntKind.wrap_u64];omega
theorem kO (a b:Nat)(h:b<=18446744073709551616):IntKind.wrap .u64 ((a:Int)-(b:Int))=(((a+(18446744073709551616-b))%18446744073709551616:Nat):Int):=by rw[IntKind.wrap_u64];omega
theorem jW (a b:Nat):IntKind.wrap .u64 ((a:Int)*(b:Int))=((a*b%18446744073709551616:Nat):Int):=by
 rw[<-Int.natCast_mul,wH]
theorem jp (a b:Nat)(h:a*b<18446744073709551616):IntKind.wrap .u64 ((a:Int)*(b:Int))=((a*b:Nat):Int):=by rw[jW,z2 h]
theorem fI (a b:Nat)(h:b<=a)(ha:a<18446744073709551616):IntKind.wrap .u64 ((a:Int)-(b:Int))=((a-b:Nat):Int):=by rw[IntKind.wrap_u64];omega
theorem eM (a b:Nat)(h:a+b<18446744073709551616):IntKind.wrap .u64 ((a:Int)+(b:Int))=((a+b:Nat):Int):=by rw[IntKind.wrap_u64];omega
theorem j8 {s:ByteArray}(h:s=⟨#[]⟩):(s.toList == (⟨#[]⟩:ByteArray).toList)=true:=by rw[h,Lib.toList_data];rfl
theorem nw {s:ByteArray}(h:s.size≠0):s.data.toList≠[]:=fun e=>h (by
 have:s.data.size=s.data.toList.length:=by simp
 show s.data.size=0
 rw[this,e];rfl)
theorem je {s:ByteArray}(h:s.size≠0):(s.toList == (⟨#[]⟩:ByteArray).toList)=false:=by
 rw[Lib.toList_data,Lib.toList_data];have:=nw h;cases e:s.data.toList with
 | nil=>exact absurd e this
 | cons a l=>rfl
theorem Ia {s:ByteArray}(h:s=⟨#[]⟩):(!(s.toList == (⟨#[]⟩:ByteArray).toList))=false:=by rw[j8 h];rfl
theorem Jl {s:ByteArray}(h:s.size≠0):(!(s.toList == (⟨#[]⟩:ByteArray).toList))=true:=by rw[je h];rfl
theorem qj (s:ByteArray)(k i:Nat):aU (s.extract k s.size) i=aU s (k+i):=by
 unfold aU
 rw[Lib.extract_to_end]
 simp only[LI,vl]
def kC (s t:ByteArray):Bool:=s.toList == t.toList
def lZ (s t:ByteArray):Bool:=!(s.toList == t.toList)
theorem g7 {s t:ByteArray}(h:kC s t=true):s=t:=by
 have e:=eq_of_beq (show (s.toList == t.toList)=true from h);rw[Lib.toList_data,Lib.toList_data] at e
 cases s;cases t;congr 1;exact Array.toList_inj.1 e
end Go.Proofs.YtlidpooijdogdaaGreatDoor
