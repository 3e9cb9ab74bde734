/- Laws of this claim, part 1. -/
import Derived.Below
import Derived.WalkKit
import Derived.Lib.Hide
import Derived.Deep.Draws
import Derived.Orders
import Derived.OrdersHeld
import Derived.KernelRfl
import Derived.Laws.MakeOwn
import Derived.Maps.AppendAt
import Derived.Test.YtnphimgdpdiekaaGreatDoorProg
import Derived.Lib.IndexBytes
import Derived.Lib.Builder
import Derived.Lib.UnsafeStr
import Derived.Laws.CopyRow
import Derived.Test.YtnphimgdpdiekaaGreatDoorShelf
import Derived.Shelf.Spec.BitsCarry
import Derived.Lib.BitFns
import Derived.Shelf.Strings.Builder1
import Derived.Shelf.Strings.Builder2
import Derived.Lib.TrailingZeros
import Derived.Laws.Bits64b
import Derived.WideMake
import Derived.ArgAppend
import Derived.DeepKeys5
import Derived.StringKeys
import Derived.Shelf.SlIter.Nil
import Derived.Shelf.SortM.Plain
import Derived.Shelf.SortM.SortNone
import Derived.RangeFuncBox
import Derived.OwnWalkIn
import Derived.TacticsInMore
import Derived.LoopNIn
import Derived.LoopIn
import Derived.Sort.KeysCollected
import Derived.Deep.Upon
import Derived.Shelf.SortM.Walk0sIn
set_option maxRecDepth 100000
set_option maxHeartbeats 4000000
namespace Go.Proofs.YtnphimgdpdiekaaGreatDoor
open _root_.Array renaming all_eq_true_iff_forall_mem -> ov, any_eq_true -> sA, getD -> gp, getElem?_append_left -> tw, getElem?_append_right -> Bs, getElem?_eq_getElem -> fo, getElem?_eq_none -> eb, getElem?_eq_some_iff -> i2, getElem?_extract -> Ft, getElem?_push_lt -> e6, getElem?_push_size -> gg, getElem?_replicate -> Dw, getElem?_setIfInBounds_ne -> la, getElem?_setIfInBounds_self_of_lt -> FA, getElem_mem -> s3, mapM_eq_mapM_toList -> yZ, replicate -> tj, setIfInBounds_comm -> gs
open Bool renaming and_eq_true -> na, false_eq_true -> s5, not_true -> ta, or_eq_true -> ri
open Int renaming fdiv_eq_ediv_of_nonneg -> LK, tdiv -> LL, toNat_natCast -> A6
open List renaming all_cons -> v6, all_eq_true -> o0, any_eq_true -> s9, drop_eq_nil_of_le -> z2, drop_sublist -> Am, drop_zero -> y6, eq_nil_of_length_eq_zero -> z6, eraseIdx_sublist -> Hi, ext_getElem? -> um, flatMap_cons -> y4, getD_cons_succ -> y9, getD_cons_zero -> z1, getD_eq_getElem?_getD -> LH, getElem?_append_left -> wj, getElem?_append_right -> yz, getElem?_drop -> yy, getElem?_eq_none -> tv, getElem?_eq_some_iff -> LA, getElem?_set_ne -> u9, getElem?_set_self -> uA, getElem?_take_of_lt -> yh, getElem_eraseIdx -> Gb, getElem_inj -> vl, getElem_map -> vj, getElem_mem -> gq, getElem_set_ne -> Lv, getElem_set_self -> Lw, length -> LJ, length_append -> zY, length_cons -> ub, length_eraseIdx_of_lt -> Gx, length_set -> LB, length_take -> LF, lookup_cons -> i3, mapM_cons -> yY, map_cons -> D1, map_nil -> D2, map_set -> ul, map_toArray -> D0, mem_append -> gx, mem_cons -> g4, mem_flatMap -> LD, mem_iff_getElem -> vi, mem_map -> g1, mem_of_mem_drop -> Ag, mem_of_mem_eraseIdx -> G1, mem_range -> po, mem_singleton -> te, nodup_cons -> hO, pairwise_cons -> Hj, pairwise_iff_getElem -> HA, perm_middle -> g3, range -> pa, range' -> tf, range'_succ -> ti, range_eq_range' -> tq, replicate -> As, replicate_succ -> AS, set_cons_succ -> z8, set_cons_zero -> z7, take_append_of_le_length -> y7, take_length -> y8
open Nat renaming add_assoc -> y3, add_comm -> zy, add_mul -> LI, add_zero -> y5, ble -> Ly, div_eq_of_lt -> LP, div_le_self -> LN, eq_zero_or_pos -> Ga, le_of_ble_eq_true -> Lz, le_refl -> ep, le_trans -> e4, log2_eq_iff -> LU, lt_of_le_of_lt -> LM, lt_of_lt_of_le -> e5, lt_or_ge -> ea, lt_or_gt_of_ne -> H1, min_eq_left -> LS, mod_eq_of_lt -> A0, mul_comm -> LC, mul_le_mul_left -> LW, mul_le_mul_right -> Af, or_lt_two_pow -> LO, pow_succ -> LR, strongRecOn -> hP, succ_mul -> zh, zero_add -> Ab, zero_mul -> zZ
open Option renaming isSome_iff_exists -> oi, map_eq_none_iff -> Lx, map_eq_some_iff -> tz, map_none -> A9, map_some -> ua
theorem kD {p : Prop} (h : p := by decide) : p := h
theorem oM {p : Prop} (h : p := by omega) : p := h
theorem kR {p : Prop} (h : p := by kernel_rfl) : p := h
theorem aM {p : Prop} (h : p := by assumption) : p := h
theorem cX {p : Prop} (h : p := by first | assumption | omega) : p := h
theorem sM {p : Prop} (h : p := by first | omega | (simp; done) | (simp; omega)) : p := h
theorem oT {p : Prop} [Decidable p] (h : decide p = true) : p := of_decide_eq_true h
theorem oF {p : Prop} [Decidable p] (h : decide p = false) : ¬p := of_decide_eq_false h
theorem dT {p : Prop} [Decidable p] (h : p) : decide p = true /\ p := ⟨decide_eq_true h, h⟩
theorem dF {p : Prop} [Decidable p] (h : ¬p) : decide p = false /\ ¬p := ⟨decide_eq_false h, h⟩
open Go.RowKit
abbrev pB (b:Nat):Value:=.pointer (some ⟨b,0,none⟩)
abbrev qP (b o:Nat):Value:=.pointer (some ⟨b,o,none⟩)
abbrev qT:Value:=.bool true
abbrev qF:Value:=.bool false
abbrev qS (A:Option Addr)(n c:Nat):Value:=.slice A n c
abbrev sZ:Value:=.slice none 0 0
abbrev eS:Value:=.string ⟨#[]⟩
abbrev sB (b:Nat):Option Addr:=some ⟨b,0,none⟩
abbrev iV (n:Int):Value:=.int .i64 n
abbrev uV (n:Int):Value:=.int .u64 n
abbrev a6:List Value:=[qF,uV 0,eS,uV 0,eS]
abbrev ca:List Value:=[iV 0,iV 0,qF,uV 0,eS,uV 0,eS,eS,sZ]
abbrev cA:Value:=.agg #[qF,uV 0,eS,uV 0,eS]
abbrev cD:List Value:=[qF,sZ,sZ]
abbrev dS:List ByteArray:=[⟨#[120]⟩,⟨#[121]⟩,⟨#[122]⟩]
abbrev uW (n:Int):Value:=.int .u32 n
abbrev nV (n:Nat):Value:=.int .i64 (n:Int)
abbrev mV (n:Nat):Value:=.int .u64 (n:Int)
abbrev mW (n:Nat):Value:=.int .u32 (n:Int)
def Ext (w w':World):Prop:=Below w.heap.size w w'
theorem Ext.refl (w:World):Ext w w:=Below.refl _ _
theorem Ext.trans {a b c:World}(h:Ext a b)(k:Ext b c):Ext a c:=Below.trans h (Below.mono k h.size)
theorem Ext.alloc {a w:World}(h:Ext a w)(o:Obj):Ext a (w.alloc o):=Below.alloc h h.size o
theorem Ext.drew {a w:World}(h:Ext a w):Ext a w.drew:=Below.drew h
theorem Ext.size {a w:World}(h:Ext a w):a.heap.size<=w.heap.size:=Below.size h
theorem Ext.cell {a w:World}(h:Ext a w){p:Addr}(b:p.block<a.heap.size):w.cell? p=a.cell? p:=Below.cell h b
theorem Ext.some {a w:World}(h:Ext a w){p:Addr}{v:Value}(b:a.cell? p=.some v):w.cell? p=.some v:=by
 rcases ea p.block a.heap.size with hl|hl
 ·rw[h.cell hl];exact b
 ·unfold World.cell? at b
  rw[eb hl] at b
  cases b
def af (z:Int):Bool:=decide (z<0)
def ab (z:Int):Nat:=z.natAbs
def qd (q:Rat):Nat:=if q.den=1 then 0 else q.den
def bu (neg:Bool)(a:Nat):Int:=if neg then -(a:Int) else a
theorem jZ (neg:Bool)(a:Nat):af (bu neg a)=(neg && decide (0<a)):=by cases neg<;>simp[af,bu]<;>omega
theorem fi (neg:Bool)(a:Nat):ab (bu neg a)=a:=by cases neg<;>simp[ab,bu]
theorem mZ (z:Int):bu (af z) (ab z)=z:=by unfold bu af ab;by_cases h:z<0<;>simp[h]<;>omega
theorem k9 (z:Int):bu (!af z) (ab z) = -z:=by unfold bu af ab;by_cases h:z<0<;>simp[h]<;>omega
theorem bj {z:Int}(h:af z=true):z<0:=by simpa [af] using h
theorem a7 {z:Int}(h:af z=false):0<=z:=by simpa [af] using h
abbrev Hp:=Array Obj
def bc:Obj:=.cells #[] 0 (0,0)
structure G (w:World) (h:Hp):Prop where
  size:w.heap.size=h.size
  blk:∀ b:Nat,h[b]?=w.heap[b]?\/h[b]?=some bc
structure Gr (h h':Hp):Prop where
  size:h.size<=h'.size
  blk:∀ b:Nat,b<h.size->h'[b]?=h[b]?
structure Up (w:World) (h:Hp) (w':World) (h':Hp):Prop where
  ext:Ext w w'
  gr:Gr h h'
  g:G w' h'
theorem Gr.refl (h:Hp):Gr h h:=⟨ep _,fun _ _=>rfl⟩
theorem Gr.trans {a b c:Hp}(h:Gr a b)(k:Gr b c):Gr a c :=
 ⟨e4 h.size k.size,fun x d=>(k.blk x (e5 d h.size)).trans (h.blk x d)⟩
theorem Gr.push (h:Hp)(o:Obj):Gr h (h.push o) :=
 ⟨by simp,fun b a=>by rw[e6 a];exact (fo a).symm⟩
theorem Up.refl {w:World}{h:Hp}(g:G w h):Up w h w h:=⟨Ext.refl _,Gr.refl _,g⟩
theorem Up.trans {w w1 w2:World}{h h1 c:Hp}(a:Up w h w1 h1)(b:Up w1 h1 w2 c):Up w h w2 c:=⟨a.ext.trans b.ext,a.gr.trans b.gr,b.g⟩
theorem G.drew {w:World}{h:Hp}(g:G w h):G w.drew h:=⟨g.size,g.blk⟩
theorem Up.drew {w w1:World}{h h1:Hp}(a:Up w h w1 h1):Up w h w1.drew h1:=⟨a.ext.drew,a.gr,a.g.drew⟩
theorem heap_alloc (w:World)(o:Obj):(w.alloc o).heap=w.heap.push o:=rfl
theorem Up.allocAny {w:World}{h:Hp}(g:G w h)(o o':Obj)(a:o'=o\/o'=bc):Up w h (w.alloc o) (h.push o'):=by
 refine ⟨(Ext.refl _).alloc _,Gr.push _ _,⟨by rw[heap_alloc];simp[g.size],fun b=>?_⟩⟩;rw[heap_alloc];have e:=g.size
 rcases Nat.lt_trichotomy b h.size with hb|hb|hb
 ·rw[e6 hb,e6 oM]
  have:=g.blk b
  rwa [fo hb,fo oM] at this
 ·subst hb
  rw[gg];have:(w.heap.push o)[h.size]?=some o:=by rw[<-e];exact gg
  rw[this]
  rcases a with rfl|rfl
  ·exact .inl rfl
  ·exact .inr rfl
 ·left
  rw[eb (by simp;omega),eb (by simp;omega)]
structure Mo (M:List Nat) (w w':World):Prop where
  os:w'.os=w.os
  tape:w'.tape=w.tape
  output:w'.output=w.output
  size:w.heap.size<=w'.heap.size
  blk:∀ b,b<w.heap.size->b ∉ M->w'.heap[b]?=w.heap[b]?
theorem Mo.refl (M:List Nat)(w:World):Mo M w w:=⟨rfl,rfl,rfl,ep _,fun _ _ _=>rfl⟩
theorem Mo.trans {M:List Nat}{a b c:World}(h:Mo M a b)(k:Mo M b c):Mo M a c :=
 ⟨k.os.trans h.os,k.tape.trans h.tape,k.output.trans h.output,e4 h.size k.size,fun x d e=>(k.blk x (e5 d h.size) e).trans (h.blk x d e)⟩
theorem Ext.mo {a b:World}(h:Ext a b)(M:List Nat):Mo M a b:=⟨h.os,h.tape,h.output,h.size,fun x c _=>Below.block h x c⟩
theorem Mo.ext {a b:World}(h:Mo [] a b):Ext a b:=⟨h.os,h.tape,h.output,h.size,fun x c=>h.blk x c (by simp)⟩
structure UpM (M:List Nat) (w:World) (h:Hp) (w':World) (h':Hp):Prop where
  mo:Mo M w w'
  gr:Gr h h'
  g:G w' h'
theorem Up.m {w w':World}{h h':Hp}(u:Up w h w' h')(M:List Nat):UpM M w h w' h':=⟨u.ext.mo M,u.gr,u.g⟩
theorem UpM.refl {M:List Nat}{w:World}{h:Hp}(g:G w h):UpM M w h w h:=⟨Mo.refl _ _,Gr.refl _,g⟩
theorem UpM.trans {M:List Nat}{w w1 w2:World}{h h1 c:Hp}(a:UpM M w h w1 h1)(b:UpM M w1 h1 w2 c):UpM M w h w2 c:=⟨a.mo.trans b.mo,a.gr.trans b.gr,b.g⟩
structure Ms where
  l:List Nat
  z:Option (Nat × List Nat)
def Tl (M:Ms)(w w':World):Prop:=∀ K bs,M.z=some (K,bs)->w.heap.size<=w'.heap.size/\∀ b,b<K->b ∉ bs->w'.heap[b]?=w.heap[b]?
theorem Tl.refl (M:Ms)(w:World):Tl M w w:=fun _ _ _=>⟨ep _,fun _ _ _=>rfl⟩
def Rl (M:Ms)(k0 i:Nat)(w w':World):Prop:=(i<k0->Mo M.l w w')/\(k0<=i->Tl M w w')
theorem Rl.refl (M:Ms)(k0 i:Nat)(w:World):Rl M k0 i w w:=⟨fun _=>Mo.refl _ _,fun _=>Tl.refl _ _⟩
theorem Rl.mo {M:Ms}{k0 i:Nat}{w w':World}(h:i<k0)(m:Mo M.l w w'):Rl M k0 i w w':=⟨fun _=>m,fun hk=>absurd hk oM⟩
theorem Rl.tl {M:Ms}{k0 i:Nat}{w w':World}(h:k0<=i)(m:Tl M w w'):Rl M k0 i w w':=⟨fun hk=>absurd hk oM,fun _=>m⟩
section region
variable (M:Ms) (P:Program) (ops:Array Oper) (Q:Exit->Act->World->Prop) (k0:Nat)
def rY:Nat->Array Bool->Act->World->Prop
  | 0,L,a,w=>Region.ready .any ops L=[]/\Q .normal a w
  | n + 1,L,a,w=>(Region.ready .any ops L=[]->Q .normal a w) /\
      ∀ i∈Region.ready .any ops L,wpOp P ops Q i (fun a' w'=>Rl M k0 i w w'/\rY n (L.setIfInBounds i true) a' w') a w
theorem mR:∀ (n:Nat) (L:Array Bool) (a:Act) (w:World),rY M P ops Q k0 n L a w->wpAny P .any ops Q n L a w
 | 0,_,_,_,h=>h
 | n+1,_,_,_,h=>⟨h.1,fun i hi=>wpOp_mono (fun a' w' h'=>mR n _ a' w' h'.2) (h.2 i hi)⟩
def rem (L:Array Bool):Nat:=L.toList.count false
def A (L:Array Bool)(a:Act)(w:World):Prop:=rY M P ops Q k0 (rem L) L a w
variable {M P ops Q k0}
theorem Hz {L:Array Bool}{i:Nat}(h:L.getD i true=false):∃ hi:i<L.size,L[i]=false:=by
 rcases ea i L.size with hi|hi
 ·exact ⟨hi,by simpa [gp,hi] using h⟩
 ·simp[gp,Nat.not_lt.2 hi] at h
theorem DU {L:Array Bool}{i:Nat}(h:L.getD i true=false):rem L=rem (L.setIfInBounds i true)+1:=by
 obtain ⟨hi,e⟩:=Hz h
 unfold rem
 rw[Array.toList_setIfInBounds,List.count_set (by simpa using hi)];have a:L.toList[i]'(by simpa using hi)=false:=by simpa using e
 have b:0<L.toList.count false:=List.count_pos_iff.2 (by rw[<-a];exact gq _);rw[a,if_pos (by rfl),if_neg kD]
 omega
theorem fR {L:Array Bool}{i:Nat}(h:i∈Region.ready .any ops L):rem L=rem (L.setIfInBounds i true)+1:=DU (mem_ready.1 h).1
theorem A.intro {L:Array Bool}{a:Act}{w:World}(h0:Region.ready .any ops L=[]->Q .normal a w)
    (h1:∀ i∈Region.ready .any ops L,wpOp P ops Q i (fun a' w'=>Rl M k0 i w w'/\A M P ops Q k0 (L.setIfInBounds i true) a' w') a w):A M P ops Q k0 L a w:=by
  unfold A
  cases hn:rem L with
  | zero =>
    have hr:Region.ready .any ops L=[]:=by
      cases hr:Region.ready .any ops L with
      | nil=>rfl
      | cons i l =>
        have:=fR (ops:=ops) (L:=L) (i:=i) (by rw[hr];simp)
        omega
    exact ⟨hr,h0 hr⟩
  | succ n =>
    refine ⟨h0,fun i hi=>?_⟩;have e:=fR hi;have b:=h1 i hi
    unfold A at b
    have e2:rem (L.setIfInBounds i true)=n:=by omega
    rw[e2] at b
    exact b
theorem A.done {L:Array Bool}{a:Act}{w:World}(hr:(Region.ready .any ops L).isEmpty=true)(h:Q .normal a w):A M P ops Q k0 L a w:=by
 have b:Region.ready .any ops L=[]:=by simpa using hr
 exact A.intro (fun _=>h) (fun i hi=>by rw[b] at hi;cases hi)
theorem mg {i:Nat}{D:Oper}{v:Value}{S:World->Prop}(hi:ops[i]?=some D)(B:∀ (j:Nat) (o:Oper) cs b,ops[j]?=some o->o.op≠.select cs b)
    (hQ:∀ c a w,Q (.panic c) (a.put D.dst v) w->Q (.panic c) a w)(K:∀ w w',S w->Mo M.l w w'->S w') :
    ∀ (n:Nat) (L:Array Bool) (a:Act) (w:World),
      (∀ j d,ops[j]?=some d->j≠i->L.getD j true=false->(∀ e∈d.after,Region.binds .any e=true->e.on≠i)->D.apart ops d=true) ->
      ((∀ w,S w)\/(∀ w w',S w->Tl M w w'->S w')\/∀ j d,ops[j]?=some d->k0<=j->j≠i->∃ e∈d.after,Region.binds .any e=true/\e.on=i) ->
      i∈Region.ready .any ops L->YieldsIf P ops S D v a->S w ->
      rY M P ops Q k0 n (L.setIfInBounds i true) (a.put D.dst v) w->(i<k0)->rY M P ops Q k0 (n+1) L a w:=by
  intro n
  induction n with
  | zero =>
    intro L a w _ _ hr O F H _;refine ⟨fun h=>(by rw[h] at hr;cases hr),fun j U=>?_⟩
    by_cases hji:j=i
    . subst hji;exact O.wpOp hi F ⟨Rl.refl _ _ _ _,H⟩
    . have:=ready_mono U hji
      rw[H.1] at this
      cases this
  | succ n ih =>
    intro L a w p f hr O F H hk;refine ⟨fun h=>(by rw[h] at hr;cases hr),fun j U=>?_⟩
    by_cases hji:j=i
    . subst hji;exact O.wpOp hi F ⟨Rl.refl _ _ _ _,H⟩
    . have h1:=H.2 j (ready_mono U hji)
      obtain ⟨z,d,x,J⟩:=mem_ready.1 U
      have C:∀ e∈d.after,Region.binds .any e=true->e.on≠i:=fun e Z X W=>by
        have h1:=J e Z X;have h0:=(mem_ready.1 hr).1;rw[W] at h1
        obtain ⟨y,Y⟩:=Hz h0
        simp[gp,y,Y] at h1
      have h2:=wpOp_putIf x (p j d x hji z C) (fun cs b=>B i D cs b hi) (fun cs b=>B j d cs b x) hQ O h1
      have u:∀ k ok,ops[k]?=some ok->k≠i->(L.setIfInBounds j true).getD k true=false ->
          (∀ e∈ok.after,Region.binds .any e=true->e.on≠i)->D.apart ops ok=true:=fun k ok hk hki I hno=>by
        refine p k ok hk hki ?_ hno
        by_cases hjk:j=k
        . subst hjk;exact z
        . rw[getD_set_ne true hjk] at I;exact I
      have hS':∀ w',Rl M k0 j w w'->S w':=fun w' hx=>by
        rcases f with ht|ht|ht
        . exact ht w'
        . rcases ea j k0 with y|y
          . exact K _ _ F (hx.1 y)
          . exact ht _ _ F (hx.2 y)
        . rcases ea j k0 with y|y
          . exact K _ _ F (hx.1 y)
          . obtain ⟨e,Z,X,ho⟩:=ht j d x y hji
            exact absurd ho (C e Z X)
      refine wpOp_mono (fun a' w' V=>⟨V.2.1,ih (L.setIfInBounds j true) a' w' u f (ready_mono hr (Ne.symm hji)) V.1 (hS' w' V.2.1) ?_ hk⟩) h2;rw[gs _ _ hji];exact V.2.2
structure Al where
  i:Nat
  t:Nat
  o:Obj
structure AlOk (P:Program) (ops:Array Oper) (k0:Nat) (x:Al):Prop where
  ex:∃ o,ops[x.i]?=some o/\o.dst=some x.t/\o.guard=none/\o.after = #[]/\(∀ (ρ:Operand->Value) (w:World),(execOp ρ o).run P w=.ok (.value (.pointer (some ⟨w.heap.size,0,none⟩))) (w.alloc x.o))
  lt:x.i<k0
abbrev SA:=Al × Nat
def ei (L:Array Bool)(S:List SA):Array Bool:=S.foldr (fun s L=>L.setIfInBounds s.1.i true) L
def addA (a:Act)(S:List SA):Act:=S.foldr (fun s a=>a.put (some s.1.t) (.pointer (some ⟨s.2,0,none⟩))) a
def Blk (h0:Hp)(w:World)(h:Hp)(s:SA):Prop:=w.heap[s.2]?=some s.1.o/\h[s.2]?=some bc/\h0.size<=s.2
theorem Blk.up {h0:Hp}{w w':World}{h h':Hp}{s:SA}(b:Blk h0 w h s)(u:UpM M.l w h w' h')(hM:∀ b∈M.l,b<h0.size):Blk h0 w' h' s:=by
 obtain ⟨d,c,f⟩:=b
 have a:s.2<w.heap.size:=by
  rcases ea s.2 w.heap.size with a|a
  ·exact a
  ·rw[eb a] at d;cases d
 have e:s.2<h.size:=by
  rcases ea s.2 h.size with a|a
  ·exact a
  ·rw[eb a] at c;cases c
 exact ⟨(u.mo.blk _ a (fun i=>by have:=hM _ i;omega)).trans d,(u.gr.blk _ e).trans c,f⟩
theorem Blk.lt {h0:Hp}{w:World}{h:Hp}{s:SA}(b:Blk h0 w h s):s.2<w.heap.size:=by
 rcases ea s.2 w.heap.size with hl|hl
 ·exact hl
 ·have:=b.1;rw[eb hl] at this;cases this
variable (M P ops Q k0) in
def E (h0:Hp)(AL:List Al)(L:Array Bool)(a:Act)(w:World)(h:Hp):Prop :=
  ∀ w' h',Up w h w' h'->∀ (S:List SA) (T:List Al),(S.map (·.1)++T).Perm AL->(∀ s∈S,Blk h0 w' h' s)->(S.map (·.2)).Nodup ->
    A M P ops Q k0 (ei L S) (addA a S) w'
theorem ma (L:Array Bool)(S:List SA)(i:Nat)(hi:∀ s∈S,s.1.i≠i):ei (L.setIfInBounds i true) S=(ei L S).setIfInBounds i true:=by
  induction S with
  | nil=>rfl
  | cons s S ih =>
    have h1:s.1.i≠i:=hi s (by simp)
    show (ei (L.setIfInBounds i true) S).setIfInBounds s.1.i true=((ei L S).setIfInBounds s.1.i true).setIfInBounds i true
    rw[ih (fun t ht=>hi t (by simp[ht])),gs _ _ (Ne.symm h1)]
theorem mr (a:Act)(S:List SA)(d:Option Tmp)(v:Value)(b:∀ s∈S,d≠some s.1.t):addA (a.put d v) S=(addA a S).put d v:=by
  induction S with
  | nil=>rfl
  | cons s S ih =>
    have h1:d≠some s.1.t:=b s (by simp)
    show (addA (a.put d v) S).put (some s.1.t) _=((addA a S).put (some s.1.t) _).put d v
    rw[ih (fun t ht=>b t (by simp[ht]))];exact Act.put_comm _ _ _ (fun x e c=>h1 (e.trans c.symm))
theorem gV {L:Array Bool}{S:List SA}{j:Nat}(h:(ei L S).getD j true=false):L.getD j true=false:=by
  induction S with
  | nil=>exact h
  | cons s S ih =>
    apply ih
    have h':((ei L S).setIfInBounds s.1.i true).getD j true=false:=h
    by_cases e:s.1.i=j
    . subst e
      obtain ⟨b,a⟩:=Hz h'
      simp at a
    . rwa [getD_set_ne true e] at h'
theorem iy {L:Array Bool}{S:List SA}{j:Nat}(d:Bool)(a:∀ s∈S,s.1.i≠j):(ei L S).getD j d=L.getD j d:=by
  induction S with
  | nil=>rfl
  | cons s S ih =>
    show ((ei L S).setIfInBounds s.1.i true).getD j d=_
    rw[getD_set_ne d (a s (by simp))];exact ih (fun t ht=>a t (by simp[ht]))
theorem kb {L:Array Bool}{S:List SA}{j:Nat}(h:L.getD j false=true):(ei L S).getD j false=true:=by
 induction S with
 | nil=>exact h
 | cons s S ih=>exact getD_set_true (listed:=ei L S) ih
theorem rZ {L:Array Bool}{S:List SA}{i:Nat}(hi:∀ s∈S,s.1.i≠i)(h:i∈Region.ready .any ops L):i∈Region.ready .any ops (ei L S):=by
 rw[mem_ready] at *
 obtain ⟨h0,o,d,a⟩:=h;exact ⟨by rw[iy true hi];exact h0,o,d,fun e c b=>kb (a e c b)⟩
theorem nQ {o:Oper}(e:∀ cs b,o.op≠.select cs b)(a:Act)(S:List SA)(h:∀ s∈S,s.1.t ∉ o.looksAt ops) :
    execOp (addA a S).eval o=execOp a.eval o/\Region.wanted o (yielded ops (addA a S).tmps)=Region.wanted o (yielded ops a.tmps):=by
  induction S with
  | nil=>exact ⟨rfl,rfl⟩
  | cons s S ih =>
    obtain ⟨i1,f⟩:=ih (fun t ht=>h t (by simp[ht]));have hn:∀ d,some s.1.t=some d->d ∉ o.looksAt ops:=fun d c=>by injection c with c;subst c;exact h s (by simp)
    exact ⟨(execOp_put (ops:=ops) o e _ _ _ hn).trans i1,(wanted_put (ops:=ops) o _ _ _ hn).trans f⟩
theorem iR {S:List SA}{T AL:List Al}(b:(S.map (·.1)++T).Perm AL){s:SA}(a:s∈S):s.1∈AL :=
 b.mem_iff.1 (gx.2 (.inl (g1.2 ⟨s,a,rfl⟩)))
def OpR (P:Program)(ops:Array Oper)(o:Oper)(a:Act)(w:World)(R:Value->World->Prop):Prop :=
  Region.wanted o (yielded ops a.tmps)=true /\
  ((∃ v w',(execOp a.eval o).run P w=.ok (.value v) w'/\R v w')\/(∃ w',(execOp a.eval o).run P w=.ok .skip w'/\R undef w') \/
   (∃ f args,(execOp a.eval o).run P w=.ok (.enter f args) w/\Calls P f args w (fun e w'=>∃ v,e=.returned v/\R v w')))
theorem OpR.wpOp {i:Nat}{o:Oper}{a:Act}{w:World}{R:Value->World->Prop}{K:Act->World->Prop}(hi:ops[i]?=some o)(h:OpR P ops o a w R)
  (b:∀ v w',R v w'->K (a.put o.dst v) w'):wpOp P ops Q i K a w:=by
 obtain ⟨c,h⟩:=h
 unfold Go.wpOp
 simp only[hi,c,if_true]
 left
 unfold Oper.wp
 rcases h with ⟨v,w',hr,hR⟩|⟨w',hr,hR⟩|⟨f,args,hr,hc⟩
 ·rw[hr];exact b _ _ hR
 ·rw[hr];exact b _ _ hR
 ·rw[hr]
  refine Calls.mono hc fun e w' d=>?_
  obtain ⟨v,rfl,hR⟩:=d;exact b _ _ hR
theorem OpR.addA {o:Oper}{a:Act}{w:World}{R:Value->World->Prop}(h:OpR P ops o a w R)(c:∀ cs b,o.op≠.select cs b)(S:List SA)(d:∀ s∈S,s.1.t ∉ o.looksAt ops) :
  OpR P ops o (addA a S) w R:=by
 obtain ⟨e1,e2⟩:=nQ (ops:=ops) c a S d
 unfold OpR at *
 rw[e1,e2];exact h
theorem Ej {x:Al}(ok:AlOk P ops k0 x){a:Act}{w:World}{K:Act->World->Prop}(h:K (a.put (some x.t) (.pointer (some ⟨w.heap.size,0,none⟩))) (w.alloc x.o)):wpOp P ops Q x.i K a w:=by
 obtain ⟨o,h1,b,d,_,c⟩:=ok.ex
 unfold Go.wpOp
 simp only[h1]
 rw[if_pos (by simp[Region.wanted,d])]
 left
 unfold Oper.wp
 rw[c]
 show K (a.put o.dst _) _
 rw[b];exact h
theorem qL {x:Al}(ok:AlOk P ops k0 x){L:Array Bool}(h:L.getD x.i true=false):x.i∈Region.ready .any ops L:=by
 obtain ⟨o,h1,_,_,b,_⟩:=ok.ex;exact mem_ready.2 ⟨h,o,h1,fun e a=>by rw[b] at a;simp at a⟩
theorem pm {h0:Hp}{AL:List Al}{L:Array Bool}{a:Act}{w':World}{h':Hp}{S:List SA}{T:List Al}{x:Al}
  (f:∀ x∈AL,AlOk P ops k0 x)(hM:∀ b∈M.l,b<h0.size)(g:G w' h')(h:h0.size<=h'.size)(j:(S.map (·.1)++T).Perm AL)(p:∀ s∈S,Blk h0 w' h' s)(hn:(S.map (·.2)).Nodup)(y:x∈T)
  (C:∀ (w1:World) (h1:Hp) (S1:List SA) (d:List Al),Up w' h' w1 h1->(S1.map (·.1)++d).Perm AL->(∀ s∈S1,Blk h0 w1 h1 s)->(S1.map (·.2)).Nodup->d.length<T.length->A M P ops Q k0 (ei L S1) (addA a S1) w1) :
  wpOp P ops Q x.i (fun B w1=>Rl M k0 x.i w' w1/\A M P ops Q k0 ((ei L S).setIfInBounds x.i true) B w1) (addA a S) w':=by
 have c:x∈AL:=j.mem_iff.1 (gx.2 (.inr y))
 obtain ⟨d,hT⟩:∃ d,T.Perm (x::d):=by
  obtain ⟨z,l2,rfl⟩:=List.append_of_mem y;exact ⟨z++l2,g3⟩
 have u:Up w' h' (w'.alloc x.o) (h'.push bc):=Up.allocAny g _ _ (.inr rfl);refine Ej (f x c) ⟨Rl.mo (f x c).lt (u.m M.l).mo,?_⟩;refine C (w'.alloc x.o) (h'.push bc) ((x,w'.heap.size)::S) d u ?_ ?_ ?_ ?_
 ·refine List.Perm.trans ?_ j
  show (x::(S.map (·.1)++d)).Perm _
  refine List.Perm.trans g3.symm ?_;exact List.Perm.append_left _ hT.symm
 ·intro s e
  rcases g4.1 e with rfl|e
  ·refine ⟨?_,?_,?_⟩
   ·rw[heap_alloc];exact gg
   ·rw[g.size];exact gg
   ·show h0.size<=w'.heap.size;rw[g.size];exact h
  ·exact (p s e).up (u.m M.l) hM
 ·show (w'.heap.size::S.map (·.2)).Nodup
  refine hO.2 ⟨fun D=>?_,hn⟩;obtain ⟨s,e,F⟩:=g1.1 D;have:=(p s e).lt
  omega
 ·have:=hT.length_eq
  simp at this
  omega
theorem iS {AL:List Al}{L:Array Bool}{S:List SA}{T:List Al}{x:Al}(b:(S.map (·.1)++T).Perm AL)(d:x∈AL)(hr:x.i∈Region.ready .any ops (ei L S)):x∈T:=by
  rcases gx.1 (b.mem_iff.2 d) with hm|hm
  . obtain ⟨s,c,a⟩:=g1.1 hm
    have h1:=(mem_ready.1 hr).1
    exfalso
    rw[<-a] at h1
    clear hr b hm a
    induction S with
    | nil=>cases c
    | cons t S ih =>
      have h':((ei L S).setIfInBounds t.1.i true).getD s.1.i true=false:=h1
      by_cases e:t.1.i=s.1.i
      . rw[e] at h'
        obtain ⟨f,a⟩:=Hz h'
        simp at a
      . rw[getD_set_ne true e] at h'
        rcases g4.1 c with rfl|hs'
        . exact e rfl
        . exact ih hs' h'
  . exact hm
end region
section laws
variable {M:Ms} {P:Program} {ops:Array Oper} {Q:Exit->Act->World->Prop} {k0:Nat}
theorem vT (L:Array Bool)(S:List SA):(ei L S).size=L.size:=by
 induction S with
 | nil=>rfl
 | cons s S ih=>show ((ei L S).setIfInBounds s.1.i true).size=_;simp[ih]
theorem E.take0 {h0:Hp}{AL:List Al}{L:Array Bool}{a:Act}{w:World}{h:Hp}{i:Nat}{o:Oper}{v:Value}{S:World->Prop}
  (hi:ops[i]?=some o)(hk:i<k0)(f:Region.noSelect ops=true)(hf:Region.free .any ops L i=true)(hr:i∈Region.ready .any ops L)
  (F:∀ x∈AL,x.i≠i/\x.t ∉ o.looksAt ops/\o.dst≠some x.t)(U:∀ c a w,¬Q (.panic c) a w)
  (I:∀ w w',S w->Mo M.l w w'->S w')(X:∀ w',Mo M.l w w'->S w')(O:YieldsIf P ops S o v a)
  (p:(∀ w,S w)\/(∀ w w',S w->Tl M w w'->S w')\/∀ j B,ops[j]?=some B->k0<=j->j≠i->∃ e∈B.after,Region.binds .any e=true/\e.on=i)
  (H:E M P ops Q k0 h0 AL (L.setIfInBounds i true) (a.put o.dst v) w h):E M P ops Q k0 h0 AL L a w h:=by
 intro w' h' u y T J W hn;have d:∀ s∈y,s.1.i≠i/\s.1.t ∉ o.looksAt ops/\o.dst≠some s.1.t:=fun s b=>F _ (iR J b)
 have K:=H w' h' u y T J W hn;rw[ma L y i (fun s b=>(d s b).1),mr a y o.dst v (fun s b=>(d s b).2.2)] at K
 have z:=rZ (fun s b=>(d s b).1) hr;obtain ⟨e1,e2⟩:=nQ (ops:=ops) (Region.noSelect_spec f i o · · hi) a y (fun s b=>(d s b).2.1)
 unfold A at *
 rw[fR z]
 exact mg hi (Region.noSelect_spec f) (fun c a w hq=>absurd hq (U _ _ _)) I _ _ _ _
  (fun j B V C D=>Region.free_spec hi hf j B V C (gV D)) p z (O.of_same e1 e2) (X _ (u.m M.l).mo) K hk
theorem E.event0 {h0:Hp}{AL:List Al}{L:Array Bool}{a:Act}{w:World}{h:Hp}{i:Nat}{o:Oper}
    (hi:ops[i]?=some o)(hk:i<k0)(J:Region.noSelect ops=true)(hL:L.size=ops.size)(hun:L.getD i true=false)
    (V:∀ j W,ops[j]?=some W->L.getD j true=false->j≠i->(∀ x∈AL,x.i≠j)->∃ e∈W.after,Region.binds .any e=true/\L.getD e.on false=false/\∀ x∈AL,x.i≠e.on)
    (I:∀ e∈o.after,Region.binds .any e=true->L.getD e.on false=true\/∃ x∈AL,x.i=e.on)
    (hal:∀ x∈AL,x.i≠i/\x.t ∉ o.looksAt ops/\o.dst≠some x.t)(B:∀ x∈AL,AlOk P ops k0 x)(hM:∀ b∈M.l,b<h0.size)(g:G w h)(hsz:h0.size<=h.size)
    (H:∀ w' h',Up w h w' h'->OpR P ops o a w' (fun v y=>∃ p,UpM M.l w' h' y p/\E M P ops Q k0 h0 AL (L.setIfInBounds i true) (a.put o.dst v) y p)):E M P ops Q k0 h0 AL L a w h:=by
  have key:∀ (m:Nat) (T:List Al),T.length=m->∀ w' h',Up w h w' h'->∀ (S:List SA),(S.map (·.1)++T).Perm AL->(∀ s∈S,Blk h0 w' h' s)->(S.map (·.2)).Nodup ->
      A M P ops Q k0 (ei L S) (addA a S) w':=by
    intro m
    induction m using hP with
    | _ m ih =>
      intro T hT w' h' u S z X hn;have f:∀ s∈S,s.1.i≠i/\s.1.t ∉ o.looksAt ops/\o.dst≠some s.1.t:=fun s c=>hal _ (iR z c)
      refine A.intro (fun O=>?_) (fun j hj=>?_)
      . exfalso
        by_cases hd:∃ e∈o.after,Region.binds .any e=true/\(ei L S).getD e.on false=false
        . obtain ⟨e,C,d,hf⟩:=hd
          rcases I e C d with h1|⟨x,D,hxe⟩
          . rw[kb h1] at hf;cases hf
          . have U:x.i<(ei L S).size:=by
              obtain ⟨o',ho',_⟩:=(B x D).ex;rw[vT,hL];exact (i2.1 ho').1
            have:x.i∈Region.ready .any ops (ei L S):=qL (B x D) (by rw[<-hxe] at hf;simp[gp,U] at hf ⊢;exact hf);rw[O] at this
            cases this
        . have:i∈Region.ready .any ops (ei L S):=mem_ready.2 ⟨by rw[iy true (fun s c=>(f s c).1)];exact hun,o,hi,fun e C d=>by
            cases hv:(ei L S).getD e.on false
            . exact absurd ⟨e,C,d,hv⟩ hd
            . rfl⟩
          rw[O] at this
          cases this
      . by_cases hji:j=i
        . subst hji
          refine OpR.wpOp hi ((H w' h' u).addA (Region.noSelect_spec J j o · · hi) S (fun s c=>(f s c).2.1)) ?_;rintro v y ⟨p,u2,H2⟩;refine ⟨Rl.mo hk u2.mo,?_⟩;rw[<-ma L S j (fun s c=>(f s c).1),<-mr a S o.dst v (fun s c=>(f s c).2.2)];exact H2 y p (Up.refl u2.g) S T z (fun s c=>(X s c).up u2 hM) hn
        . obtain ⟨F,W,hoj,K⟩:=mem_ready.1 hj
          have D:∃ x∈AL,x.i=j:=by
            refine Classical.byContradiction fun hno=>?_
            obtain ⟨e,C,d,hf,hne⟩:=V j W hoj (gV F) hji (fun x D C=>hno ⟨x,D,C⟩);have:=K e C d;rw[iy false (fun s c=>hne _ (iR z c)),hf] at this
            cases this
          obtain ⟨x,Z,rfl⟩:=D;have hxT:=iS z Z hj;exact pm B hM u.g (e4 hsz u.gr.size) z X hn hxT (fun w1 h1 S1 T1 u1 hp1 hb1 Y U=>ih T1.length oM T1 rfl w1 h1 (u.trans u1) S1 hp1 hb1 Y)
  exact fun w' h' u S T z X hn=>key _ T rfl w' h' u S z X hn
theorem E.fin0 {h0:Hp}{AL:List Al}{L:Array Bool}{a:Act}{w:World}{h:Hp}(hL:L.size=ops.size)
    (all:∀ j C,ops[j]?=some C->L.getD j true=false->(∃ x∈AL,x.i=j)\/∀ x∈AL,∃ e∈C.after,Region.binds .any e=true/\e.on=x.i)
    (B:∀ x∈AL,L.getD x.i true=false)(y:∀ x∈AL,AlOk P ops k0 x)(hM:∀ b∈M.l,b<h0.size)(J:h0.size<=h.size)(U:(AL.map (·.i)).Nodup)
    (H:∀ w' h',Up w h w' h'->∀ S:List SA,(S.map (·.1)).Perm AL->(∀ s∈S,Blk h0 w' h' s)->(S.map (·.2)).Nodup->A M P ops Q k0 (ei L S) (addA a S) w'):E M P ops Q k0 h0 AL L a w h:=by
  have key:∀ (m:Nat) (T:List Al),T.length=m->∀ w' h',Up w h w' h'->∀ (S:List SA),(S.map (·.1)++T).Perm AL->(∀ s∈S,Blk h0 w' h' s)->(S.map (·.2)).Nodup ->
      A M P ops Q k0 (ei L S) (addA a S) w':=by
    intro m
    induction m using hP with
    | _ m ih =>
      intro T hT w' h' u S d D hn;cases T with
      | nil=>exact H w' h' u S (by simpa using d) D hn
      | cons t T' =>
        have o:t∈AL:=d.mem_iff.1 (gx.2 (.inr (by simp)));have c:((S.map (·.1)++t::T').map (·.i)).Nodup:=(d.map (·.i)).nodup_iff.2 U
        have O:∀ s∈S,s.1.i≠t.i:=fun s hs X=>by
          rw[List.map_append,List.nodup_append] at c
          exact c.2.2 s.1.i (g1.2 ⟨s.1,g1.2 ⟨s,hs,rfl⟩,rfl⟩) t.i (g1.2 ⟨t,by simp,rfl⟩) X
        have f:t.i∈Region.ready .any ops (ei L S):=qL (y t o) (by rw[iy true O];exact B t o);refine A.intro (fun V=>by rw[V] at f;cases f) (fun j hj=>?_);obtain ⟨p,C,Y,z⟩:=mem_ready.1 hj
        rcases all j C Y (gV p) with ⟨x,hxA,rfl⟩|hw
        . have K:=iS d hxA hj
          exact pm y hM u.g (e4 J u.gr.size) d D hn K (fun w1 h1 S1 T1 u1 hp1 I F hlt=>ih T1.length oM T1 rfl w1 h1 (u.trans u1) S1 hp1 I F)
        . obtain ⟨e,X,Z,W⟩:=hw t o
          have:=z e X Z;rw[W] at this
          obtain ⟨hl,hv⟩:=Hz (mem_ready.1 f).1
          simp[gp,hl,hv] at this
  exact fun w' h' u S T d D hn=>key _ T rfl w' h' u S d D hn
end laws
abbrev bU:=List (Nat × Value)
def gk (Γ:bU):List Deferred:=match Γ.lookup 1000000 with|some (.int _ D)=>[{ target:=.collected D.toNat,args:=#[] }]|_=>[]
structure Kn (n:Nat) (a:Act) (Γ:bU):Prop where
  df:a.defers=gk Γ
  sz:a.tmps.size=n
  nb:n<=1000000
  has:∀ t v,t≠1000000->Γ.lookup t=some v->a.tmps[t]?=some v
def ev (Γ:bU):Operand->Value
  | .tmp t=>(Γ.lookup t).getD undef
  | .const v=>v
  | .global g=>.pointer (some ⟨g,0,none⟩)
  | .func f=>.func (.func f) #[] #[]
def am (ops:Array Oper)(i:Nat):Oper:=ops.getD i default
def iL (Γ:bU):Operand->Bool
  | .tmp t=>t != 1000000 && (Γ.lookup t).isSome
  | _=>true
def aZ (Γ:bU)(o:Oper):Bool:=o.op.operands.all (iL Γ)
def be (ops:Array Oper)(Γ:bU)(o:Oper):Option Bool :=
  match o.guard with
  | none=>some true
  | some (g,want)=>match ((ops[g]?).bind (·.dst)).bind (fun t=>if t=1000000 then none else Γ.lookup t) with
    | some (.bool b)=>some (b == want)
    | some (.tuple _)=>some false
    | _=>none
theorem Kn.put {n:Nat}{a:Act}{Γ:bU}(k:Kn n a Γ){t:Nat}(ht:t<n)(v:Value):Kn n (a.put (some t) v) ((t,v)::Γ):=by
 have d:=k.nb;refine ⟨?_,by simpa [Act.put] using k.sz,k.nb,fun s u c b=>?_⟩
 ·have e:((1000000:Nat) == t)=false:=by simp;omega
  show a.defers=_
  rw[k.df];unfold gk;rw[i3,e]
 rw[i3] at b
 by_cases e:s=t
 ·subst e
  simp at b
  subst b
  simp[Act.put,k.sz,ht]
 ·have f:(s == t)=false:=by simp[e]
  rw[f] at b
  simp only[Act.put]
  rw[la (Ne.symm e)];exact k.has s u c b
theorem Kn.eval {n:Nat}{a:Act}{Γ:bU}(k:Kn n a Γ){x:Operand}(b:iL Γ x=true):a.eval x=ev Γ x:=by
  cases x with
  | tmp t =>
    have b:(t != 1000000 && (Γ.lookup t).isSome)=true:=b;rw[na] at b
    obtain ⟨v,hv⟩:=oi.1 b.2;have:=k.has t v (by simpa using b.1) hv
    simp[Act.eval,ev,hv,this]
  | _=>rfl
theorem Kn.exec {n:Nat}{a:Act}{Γ:bU}(k:Kn n a Γ){o:Oper}(c:∀ cs b,o.op≠.select cs b)(hk:aZ Γ o=true):execOp a.eval o=execOp (ev Γ) o :=
 execOp_congr o c (fun x d=>k.eval ((ov.1 hk) x d))
theorem Kn.want {n:Nat}{a:Act}{Γ:bU}(k:Kn n a Γ){ops:Array Oper}{o:Oper}{b:Bool}(h:be ops Γ o=some b):Region.wanted o (yielded ops a.tmps)=b:=by
  unfold be at h
  unfold Region.wanted
  split at h
  . rename_i d;simp only[d];simpa using h
  . rename_i g want d
    simp only[d]
    cases c:(ops[g]?).bind (·.dst) with
    | none=>rw[c] at h;simp at h
    | some t =>
      rw[c] at h
      simp only[Option.bind_some] at h
      by_cases ht0:t=1000000
      . rw[if_pos ht0] at h;simp at h
      rw[if_neg ht0] at h
      cases hv:Γ.lookup t with
      | none=>rw[hv] at h;simp at h
      | some u =>
        rw[hv] at h
        have ht:=k.has t u ht0 hv;cases u with
        | bool x=>simp at h;subst h;simp[yielded,c,ht]
        | tuple x=>simp at h;subst h;simp[yielded,c,ht]
        | _=>simp at h
theorem Kn.mono {n:Nat}{a:Act}{Γ Γ':bU}(k:Kn n a Γ)(h:∀ t v,Γ'.lookup t=some v->Γ.lookup t=some v)(b:gk Γ'=gk Γ):Kn n a Γ':=⟨k.df.trans b.symm,k.sz,k.nb,fun t v ht hv=>k.has t v ht (h t v hv)⟩
def jK (Γ:bU):List Nat->bU
  | []=>[]
  | t::ts=>match Γ.lookup t with|some v=>(t,v)::jK Γ ts|none=>jK Γ ts
theorem fO (Γ:bU):∀ (ts:List Nat) (t:Nat) (v:Value),(jK Γ ts).lookup t=some v->Γ.lookup t=some v
  | [],_,_,h=>by simp[jK] at h
  | s :: ts,t,v,h=>by
    unfold jK at h
    split at h
    . rename_i u a
      rw[i3] at h
      by_cases e:t=s
      . subst e;simp at h;subst h;exact a
      . have b:(t == s)=false:=by simp[e]
        rw[b] at h
        exact fO Γ ts t v h
    . exact fO Γ ts t v h
abbrev Po:=Act->World->Prop
def iG (N R:Po)(X:Nat->Po):Exit->Act->World->Prop
  | .normal,a,w=>N a w
  | .ret,a,w=>R a w
  | .exit i,a,w=>X i a w
  | _,_,_=>False
def CG (P:Program)(n:Nat)(N R:Po)(X:Nat->Po)(c:Code)(Γ:bU)(w:World):Prop:=∀ a,Kn n a Γ->c.wp P (iG N R X) a w
def EG (M:Ms)(P:Program)(n:Nat)(N R:Po)(X:Nat->Po)(ops:Array Oper)(k0:Nat)(h0:Hp)(AL:List Al)(L:Array Bool)(Γ:bU)(w:World)(h:Hp):Prop :=
  (∀ x∈AL,AlOk P ops k0 x)->(∀ b∈M.l,b<h0.size)->G w h->h0.size<=h.size->∀ a,Kn n a Γ->E M P ops (iG N R X) k0 h0 AL L a w h
def AG (M:Ms)(P:Program)(n:Nat)(N R:Po)(X:Nat->Po)(ops:Array Oper)(k0:Nat)(L:Array Bool)(Γ:bU)(w:World):Prop :=
  ∀ a,Kn n a Γ->A M P ops (iG N R X) k0 L a w
section steps
variable {M:Ms} {P:Program} {n:Nat} {N R:Po} {X:Nat->Po} {ops:Array Oper} {k0:Nat} {h0:Hp} {AL:List Al} {L:Array Bool} {Γ:bU} {w:World} {h:Hp}
def uH (ops:Array Oper)(AL:List Al)(i:Nat)(o:Oper):Bool:=AL.all fun x=>x.i != i && !(o.looksAt ops).contains x.t && o.dst != some x.t
theorem jD {i:Nat}{o:Oper}(b:uH ops AL i o=true):∀ x∈AL,x.i≠i/\x.t ∉ o.looksAt ops/\o.dst≠some x.t:=by
 intro x a;have:=(o0.1 b) x a
 simp only[na,bne_iff_ne,ne_eq,Bool.not_eq_true',List.contains_eq_mem,decide_eq_false_iff_not] at this
 exact ⟨this.1.1,this.1.2,this.2⟩
def dX (n:Nat)(ops:Array Oper)(k0:Nat)(AL:List Al)(L:Array Bool)(i t:Nat):Bool :=
  let o:=am ops i
  decide (i<ops.size) && decide (i<k0) && Region.noSelect ops && Region.free .any ops L i && (Region.ready .any ops L).contains i && uH ops AL i o && (o.dst == some t) && decide (t<n)
structure TakeOk (n:Nat) (ops:Array Oper) (k0:Nat) (AL:List Al) (L:Array Bool) (i t:Nat):Prop where
  get:ops[i]?=some (am ops i)
  lt:i<k0
  sel:Region.noSelect ops=true
  free:Region.free .any ops L i=true
  ready:i∈Region.ready .any ops L
  al:∀ x∈AL,x.i≠i/\x.t ∉ (am ops i).looksAt ops/\(am ops i).dst≠some x.t
  dst:(am ops i).dst=some t
  tn:t<n
theorem bG {i:Nat}(h:i<ops.size):ops[i]?=some (am ops i):=by
 unfold am;simp[h]
theorem dV {i t:Nat}(h:dX n ops k0 AL L i t=true):TakeOk n ops k0 AL L i t:=by
 unfold dX at h
 simp only[na,decide_eq_true_eq,beq_iff_eq] at h
 obtain ⟨⟨⟨⟨⟨⟨⟨h1,c⟩,j⟩,a⟩,d⟩,e⟩,f⟩,b⟩:=h;exact ⟨bG h1,c,j,a,by simpa using d,jD e,f,b⟩
theorem Rg.pure (i t:Nat)(v:Value)(b:(dX n ops k0 AL L i t && aZ Γ (am ops i))=true)(l:be ops Γ (am ops i)=some true)
  (hr:∀ w,(execOp (ev Γ) (am ops i)).run P w=.ok (.value v) w)
  (k:EG M P n N R X ops k0 h0 AL (L.setIfInBounds i true) ((t,v)::Γ) w h):EG M P n N R X ops k0 h0 AL L Γ w h:=by
 rw[na] at b
 obtain ⟨b,d⟩:=b;have c:=dV b;intro e hM g j a f;have e1:=f.exec (Region.noSelect_spec c.sel i _ · · c.get) d;refine E.take0 (v:=v) (S:=fun _=>True) c.get c.lt c.sel c.free c.ready c.al (fun _ _ _ hq=>hq) (fun _ _ _ _=>trivial) (fun _ _=>trivial) (.inl ⟨f.want l,fun w _=>by rw[e1];exact hr w⟩) (.inl fun _=>trivial) ?_;rw[c.dst];exact k e hM g j _ (f.put c.tn v)
theorem Rg.skip (i t:Nat)(j:dX n ops k0 AL L i t=true)(f:be ops Γ (am ops i)=some false)
  (k:EG M P n N R X ops k0 h0 AL (L.setIfInBounds i true) ((t,undef)::Γ) w h):EG M P n N R X ops k0 h0 AL L Γ w h:=by
 have c:=dV j;intro b hM g d a e;refine E.take0 (v:=undef) (S:=fun _=>True) c.get c.lt c.sel c.free c.ready c.al (fun _ _ _ hq=>hq) (fun _ _ _ _=>trivial) (fun _ _=>trivial) (.inr ⟨e.want f,rfl⟩) (.inl fun _=>trivial) ?_;rw[c.dst];exact k b hM g d _ (e.put c.tn undef)
def iX (ops:Array Oper)(k0 i:Nat):Bool:=(pa ops.size).all fun j=>decide (j<k0) || (am ops j).after.any fun e=>Region.binds .any e && e.on == i
theorem jI {i:Nat}(h:iX ops k0 i=true):∀ j b,ops[j]?=some b->k0<=j->j≠i->∃ e∈b.after,Region.binds .any e=true/\e.on=i:=by
 intro j b c hk _;have a:=(i2.1 c).1;have e:b=am ops j:=by have:=bG (ops:=ops) a;rw[c] at this;injection this
 have:=(o0.1 h) j (po.2 a)
 simp only[ri,decide_eq_true_eq,sA,na,beq_iff_eq] at this
 rcases this with h1|⟨x,hx,h2⟩
 ·omega
 ·rw[e];exact ⟨_,s3 hx,h2⟩
theorem Rg.load (i t:Nat)(v:Value)(b:(dX n ops k0 AL L i t && aZ Γ (am ops i) && iX ops k0 i)=true)(x:be ops Γ (am ops i)=some true)
  (hr:∀ w',Mo M.l w w'->(execOp (ev Γ) (am ops i)).run P w'=.ok (.value v) w')
  (k:EG M P n N R X ops k0 h0 AL (L.setIfInBounds i true) ((t,v)::Γ) w h):EG M P n N R X ops k0 h0 AL L Γ w h:=by
 rw[na,na] at b
 obtain ⟨⟨b,o⟩,p⟩:=b;have c:=dV b;intro e hM g d a f;have e1:=f.exec (Region.noSelect_spec c.sel i _ · · c.get) o;refine E.take0 (v:=v) (S:=fun w'=>Mo M.l w w') c.get c.lt c.sel c.free c.ready c.al (fun _ _ _ hq=>hq) (fun _ _ h1 u=>h1.trans u) (fun _ j=>j) (.inl ⟨f.want x,fun w' j=>by rw[e1];exact hr w' j⟩) (.inr (.inr (jI p))) ?_;rw[c.dst];exact k e hM g d _ (f.put c.tn v)
theorem Rg.loadZ (i t:Nat)(v:Value){bs:List Nat}(hz:M.z=some (h0.size,bs))(j:(dX n ops k0 AL L i t && aZ Γ (am ops i))=true)(y:be ops Γ (am ops i)=some true)
  (hr:∀ w',(∀ b,b<h0.size->b ∉ bs->b ∉ M.l->w'.heap[b]?=w.heap[b]?)->(execOp (ev Γ) (am ops i)).run P w'=.ok (.value v) w')
  (k:EG M P n N R X ops k0 h0 AL (L.setIfInBounds i true) ((t,v)::Γ) w h):EG M P n N R X ops k0 h0 AL L Γ w h:=by
 rw[na] at j
 obtain ⟨j,u⟩:=j;have c:=dV j;intro o hM g f a p;have x:h0.size<=w.heap.size:=by rw[g.size];exact f
 have e1:=p.exec (Region.noSelect_spec c.sel i _ · · c.get) u;refine E.take0 (v:=v) (S:=fun w'=>h0.size<=w'.heap.size/\∀ b,b<h0.size->b ∉ bs->b ∉ M.l->w'.heap[b]?=w.heap[b]?) c.get c.lt c.sel c.free c.ready c.al (fun _ _ _ hq=>hq) ?_ ?_ (.inl ⟨p.want y,fun w' B=>by rw[e1];exact hr w' B.2⟩) (.inr (.inl ?_)) ?_
 ·intro w1 w2 s m
  exact ⟨e4 s.1 m.size,fun b d h1 e=>(m.blk b (e5 d s.1) e).trans (s.2 b d h1 e)⟩
 ·intro w' m
  exact ⟨e4 x m.size,fun b d h1 e=>m.blk b (e5 d x) e⟩
 ·intro w1 w2 s m
  have:=m h0.size bs hz;exact ⟨e4 s.1 this.1,fun b d h1 e=>(this.2 b d h1).trans (s.2 b d h1 e)⟩
 ·rw[c.dst]
  exact k o hM g f _ (p.put c.tn v)
def ny (n:Nat)(ops:Array Oper)(k0:Nat)(AL:List Al)(L:Array Bool)(i t:Nat):Bool :=
  let o:=am ops i
  decide (i<ops.size) && decide (i<k0) && Region.noSelect ops && (L.size == ops.size) && (L.getD i true == false) &&
  ((pa ops.size).all fun j=>L.getD j true || j == i || AL.any (·.i == j) || (am ops j).after.any fun e=>Region.binds .any e && (L.getD e.on false == false) && AL.all (·.i != e.on)) &&
  (o.after.all fun e=>!Region.binds .any e || L.getD e.on false || AL.any (·.i == e.on)) &&
  uH ops AL i o && (o.dst == some t) && decide (t<n)
theorem Rg.event (i t:Nat)(B:(ny n ops k0 AL L i t && aZ Γ (am ops i))=true)(hw:be ops Γ (am ops i)=some true)
  (H:∀ w' h',Up w h w' h' ->
   (∃ v c b,(execOp (ev Γ) (am ops i)).run P w'=.ok (.value v) c/\UpM M.l w' h' c b/\EG M P n N R X ops k0 h0 AL (L.setIfInBounds i true) ((t,v)::Γ) c b) \/
   (∃ f args,(execOp (ev Γ) (am ops i)).run P w'=.ok (.enter f args) w'/\Calls P f args w' (fun e c=>∃ v b,e=.returned v/\UpM M.l w' h' c b/\EG M P n N R X ops k0 h0 AL (L.setIfInBounds i true) ((t,v)::Γ) c b))) :
  EG M P n N R X ops k0 h0 AL L Γ w h:=by
 rw[na] at B
 obtain ⟨B,U⟩:=B
 unfold ny at B
 simp only[na,decide_eq_true_eq,beq_iff_eq] at B
 obtain ⟨⟨⟨⟨⟨⟨⟨⟨⟨h1,h2⟩,Y⟩,Z⟩,h5⟩,h6⟩,h7⟩,h8⟩,V⟩,F⟩:=B;have o:=bG (ops:=ops) h1;intro p hM g C a I;have e1:=I.exec (Region.noSelect_spec Y i _ · · o) U;refine E.event0 o h2 Y Z h5 ?_ ?_ (jD h8) p hM g C ?_
 ·intro j oj W K J Q
  have D:=(i2.1 W).1;have e:oj=am ops j:=by have:=bG (ops:=ops) D;rw[W] at this;injection this
  have:=(o0.1 h6) j (po.2 D)
  simp only[ri,K,s5,false_or,beq_iff_eq,J,s9,sA,na] at this
  rcases this with ⟨x,hx,hxe⟩|⟨x,hx,⟨O,hL⟩,hno⟩
  ·exact absurd hxe (Q x hx)
  ·rw[e]
   refine ⟨_,s3 hx,O,hL,fun y hy=>?_⟩;have:=(o0.1 hno) y hy
   simpa using this
 ·intro e S O
  have:=(ov.1 h7) e S
  simp only[ri,O,ta,s5,false_or,s9,beq_iff_eq] at this
  exact this
 ·intro w' h' u
  refine ⟨I.want hw,?_⟩;rw[e1];have d:=e4 C u.gr.size
  rcases H w' h' u with ⟨v,c,b,hr,z,k⟩|⟨f,args,hr,hcall⟩
  ·exact .inl ⟨v,c,hr,b,z,by rw[V];exact k p hM z.g (e4 d z.gr.size) _ (I.put F v)⟩
  ·exact .inr (.inr ⟨f,args,hr,hcall.mono fun e c ⟨v,b,S,z,k⟩=>⟨v,S,b,z,by rw[V];exact k p hM z.g (e4 d z.gr.size) _ (I.put F v)⟩⟩)
theorem Rg.call (i t f:Nat)(args:Array Value)(b:(ny n ops k0 AL L i t && aZ Γ (am ops i))=true)(a:be ops Γ (am ops i)=some true)
 (hr:∀ w',(execOp (ev Γ) (am ops i)).run P w'=.ok (.enter f args) w')
 (H:∀ w' h',Up w h w' h'->Calls P f args w' (fun e w''=>∃ v h'',e=.returned v/\UpM M.l w' h' w'' h''/\EG M P n N R X ops k0 h0 AL (L.setIfInBounds i true) ((t,v)::Γ) w'' h'')) :
 EG M P n N R X ops k0 h0 AL L Γ w h:=Rg.event i t b a (fun w' h' u=>.inr ⟨f,args,hr w',H w' h' u⟩)
def gM (ops:Array Oper)(AL:List Al)(L:Array Bool):Bool :=
  (L.size == ops.size) && ((pa ops.size).all fun j=>L.getD j true || AL.any (·.i == j) || AL.all fun x=>(am ops j).after.any fun e=>Region.binds .any e && e.on == x.i) && AL.all (fun x=>L.getD x.i true == false)
theorem Rg.fin (p:gM ops AL L=true)(f:(AL.map (·.i)).Nodup)
  (H:∀ a,Kn n a Γ->∀ w' h',Up w h w' h'->∀ S:List SA,(S.map (·.1)).Perm AL->(∀ s∈S,Blk h0 w' h' s)->(S.map (·.2)).Nodup->A M P ops (iG N R X) k0 (ei L S) (addA a S) w') :
  EG M P n N R X ops k0 h0 AL L Γ w h:=by
 unfold gM at p
 simp only[na,beq_iff_eq] at p
 obtain ⟨⟨h1,C⟩,D⟩:=p;intro l hM _ c a I;refine E.fin0 h1 ?_ ?_ l hM c f (H a I)
 ·intro j z u d
  have b:=(i2.1 u).1;have e:z=am ops j:=by have:=bG (ops:=ops) b;rw[u] at this;injection this
  have:=(o0.1 C) j (po.2 b)
  simp only[ri,d,s5,false_or,s9,beq_iff_eq] at this
  rcases this with h4|h4
  ·exact .inl h4
  ·refine .inr fun x o=>?_
   have:=(o0.1 h4) x o
   simp only[sA,na,beq_iff_eq] at this
   obtain ⟨y,B,F⟩:=this;rw[e];exact ⟨_,s3 B,F⟩
 ·intro x o
  have:=(o0.1 D) x o
  simpa using this
theorem Rg.fin0 (d:gM ops [] L=true)(H:∀ w' h',Up w h w' h'->AG M P n N R X ops k0 L Γ w'):EG M P n N R X ops k0 h0 [] L Γ w h:=by
 refine Rg.fin d (by simp) ?_;intro a c w' h' u S b _ _;have:S=[]:=by simpa using b.length_eq
 subst this;exact H w' h' u a c
theorem Rg.fin1 {x:Al}(c:(gM ops [x] L && decide (x.t<n))=true) 
    (H:∀ w' h' b,Up w h w' h'->Blk h0 w' h' (x,b)->AG M P n N R X ops k0 (L.setIfInBounds x.i true) ((x.t,.pointer (some ⟨b,0,none⟩))::Γ) w'):EG M P n N R X ops k0 h0 [x] L Γ w h:=by
  rw[na,decide_eq_true_eq] at c
  refine Rg.fin c.1 (by simp) ?_;intro a j w' h' u S d e _;have f:=d.length_eq
  match S,f with
  | [s],_ =>
    have:s.1=x:=by simpa using d
    obtain ⟨y,b⟩:=s
    simp at this
    subst this;exact H w' h' b u (e _ (by simp)) _ (j.put c.2 _)
theorem Rg.fin2 {x y:Al}(B:(gM ops [x,y] L && decide (x.t<n) && decide (y.t<n) && (x.t != y.t) && (x.i != y.i))=true) 
    (H:∀ w' h' b c,Up w h w' h'->Blk h0 w' h' (x,b)->Blk h0 w' h' (y,c)->b≠c->AG M P n N R X ops k0 ((L.setIfInBounds y.i true).setIfInBounds x.i true) ((x.t,.pointer (some ⟨b,0,none⟩))::(y.t,.pointer (some ⟨c,0,none⟩))::Γ) w'):EG M P n N R X ops k0 h0 [x,y] L Γ w h:=by
  simp only[na,decide_eq_true_eq,bne_iff_ne,ne_eq] at B
  obtain ⟨⟨⟨⟨B,h1⟩,I⟩,U⟩,C⟩:=B;refine Rg.fin B (by simp[C]) ?_;intro a O w' h' u S F z hn;have V:=F.length_eq
  match S,V with
  | [s, t],_ =>
    obtain ⟨f,b⟩:=s;obtain ⟨j,c⟩:=t;have p:b≠c:=by simpa using hn
    have W:f=x/\j=y\/f=y/\j=x:=by
      have l:[f,j].Perm [x,y]:=by simpa using F
      have J:f∈[x,y]:=l.mem_iff.1 (by simp);have m2:x∈[f,j]:=l.mem_iff.2 (by simp);have K:y∈[f,j]:=l.mem_iff.2 (by simp);have o:x≠y:=fun e=>C (by rw[e])
      simp at J m2 K
      rcases J with rfl|rfl
      . rcases K with e|e
        . exact absurd e.symm o
        . exact .inl ⟨rfl,e.symm⟩
      . rcases m2 with e|e
        . exact absurd e o
        . exact .inr ⟨rfl,e.symm⟩
    rcases W with ⟨rfl,rfl⟩|⟨rfl,rfl⟩
    . exact H w' h' b c u (z _ (by simp)) (z _ (by simp)) p _ ((O.put I _).put h1 _)
    . have e1:ei L [(f,b),(j,c)]=(L.setIfInBounds f.i true).setIfInBounds j.i true:=gs _ _ C
      have e2:addA a [(f,b),(j,c)]=(a.put (some f.t) (.pointer (some ⟨b,0,none⟩))).put (some j.t) (.pointer (some ⟨c,0,none⟩)) :=
        Act.put_comm (x:=some j.t) (y:=some f.t) a _ _ (fun d Q D=>U (Option.some.inj (Q.trans D.symm)))
      rw[e1,e2];exact H w' h' c b u (z _ (by simp)) (z _ (by simp)) (Ne.symm p) _ ((O.put I _).put h1 _)
def g7 (ops:Array Oper)(k0:Nat)(L:Array Bool)(i:Nat):Bool :=
  decide (i<ops.size) && decide (k0<=i) && Region.noSelect ops && (Region.ready .any ops L == [i])
theorem A.one {a:Act}{i:Nat}(b:g7 ops k0 L i=true){Q:Exit->Act->World->Prop}{o:Oper}(e:ops[i]?=some o){R':Value->World->Prop}(h:OpR P ops o a w R')(f:∀ v w',R' v w'->Tl M w w')
  (d:∀ v w',R' v w'->A M P ops Q k0 (L.setIfInBounds i true) (a.put o.dst v) w'):A M P ops Q k0 L a w:=by
 unfold g7 at b
 simp only[na,decide_eq_true_eq,beq_iff_eq] at b
 refine A.intro (fun h0=>by rw[b.2] at h0;cases h0) (fun j c=>?_);rw[b.2,te] at c
 subst c;exact OpR.wpOp e h (fun v w' hr=>⟨Rl.tl b.1.1.2 (f v w' hr),d v w' hr⟩)
theorem lE {i:Nat}(a:g7 ops k0 L i=true):ops[i]?=some (am ops i)/\Region.noSelect ops=true:=by
 unfold g7 at a
 simp only[na,decide_eq_true_eq,beq_iff_eq] at a
 exact ⟨bG a.1.1.1,a.1.2⟩
theorem T.val (i t:Nat)(v:Value)(w':World)(d:(g7 ops k0 L i && aZ Γ (am ops i) && ((am ops i).dst == some t) && decide (t<n))=true)(o:be ops Γ (am ops i)=some true)
  (hr:(execOp (ev Γ) (am ops i)).run P w=.ok (.value v) w')(k:AG M P n N R X ops k0 (L.setIfInBounds i true) ((t,v)::Γ) w')(p:Tl M w w':=by exact Tl.refl _ _):AG M P n N R X ops k0 L Γ w:=by
 simp only[na,decide_eq_true_eq,beq_iff_eq] at d
 obtain ⟨⟨⟨h1,h⟩,j⟩,f⟩:=d;obtain ⟨c,l⟩:=lE h1;intro a b;refine A.one h1 c (R':=fun u w1=>u=v/\w1=w') ⟨b.want o,.inl ⟨v,w',?_,rfl,rfl⟩⟩ (fun _ _ e=>e.2▸p) ?_
 ·rw[b.exec (Region.noSelect_spec l i _ · · c) h];exact hr
 ·rintro _ _ ⟨rfl,rfl⟩
  rw[j];exact k _ (b.put f _)
theorem T.store (i:Nat)(w':World)(d:(g7 ops k0 L i && aZ Γ (am ops i) && ((am ops i).dst == none))=true)(h:be ops Γ (am ops i)=some true)
  (hr:(execOp (ev Γ) (am ops i)).run P w=.ok .skip w')(l:Tl M w w')(k:AG M P n N R X ops k0 (L.setIfInBounds i true) Γ w'):AG M P n N R X ops k0 L Γ w:=by
 simp only[na,beq_iff_eq] at d
 obtain ⟨⟨h1,j⟩,o⟩:=d;obtain ⟨c,f⟩:=lE h1;intro a b;refine A.one h1 c (R':=fun u w1=>u=undef/\w1=w') ⟨b.want h,.inr (.inl ⟨w',?_,rfl,rfl⟩)⟩ (fun _ _ e=>e.2▸l) ?_
 ·rw[b.exec (Region.noSelect_spec f i _ · · c) j];exact hr
 ·rintro _ _ ⟨rfl,rfl⟩
  rw[o];exact k _ b
theorem T.done (b:(Region.ready .any ops L).isEmpty=true)(k:∀ a,Kn n a Γ->N a w):AG M P n N R X ops k0 L Γ w :=
 fun a c=>A.done b (k a c)
theorem T.next {y:Code}{N' R':Po}{X':Nat->Po}(c:(Region.ready .any ops L).isEmpty=true)(k:CG P n N' R' X' y Γ w):AG M P n (fun a w=>y.wp P (iG N' R' X') a w) R X ops k0 L Γ w :=
 fun a b=>A.done c (k a b)
end steps
section code
variable {P:Program} {n:Nat} {N R:Po} {X:Nat->Po} {Γ:bU} {w:World}
def lk (ops:Array Oper):Bool:=(pa ops.size).all fun i=>(am ops i).after.all fun e=>!Region.binds .any e || decide (e.on<i)
theorem oY {M:Ms}{ops:Array Oper}{Q:Exit->Act->World->Prop}{k0:Nat}(h:lk ops=true):∀ (m k:Nat) (L:Array Bool) (a:Act) (w:World),k+m=ops.size->L.size=ops.size ->
    (∀ j,j<ops.size->L.getD j true=decide (j<k))->A M P ops Q k0 L a w->wpOps P ops Q (tf k m) a w:=by
  intro m
  induction m with
  | zero =>
    intro k L a w hk u b d
    have hz:Region.ready .any ops L=[]:=by
      cases hr:Region.ready .any ops L with
      | nil=>rfl
      | cons i l =>
        have H:i∈Region.ready .any ops L:=by rw[hr];simp
        obtain ⟨h0,o,D,_⟩:=mem_ready.1 H;have hi:=(i2.1 D).1;rw[b i hi] at h0
        simp at h0
        omega
    show Q .normal a w
    unfold A at d
    cases hn:rem L with
    | zero=>rw[hn] at d;exact d.2
    | succ n=>rw[hn] at d;exact d.1 hz
  | succ m ih =>
    intro k L a w hk u b d;have f:k<ops.size:=by omega
    have c:k∈Region.ready .any ops L:=by
      refine mem_ready.2 ⟨by rw[b k f];simp,am ops k,bG f,fun e C B=>?_⟩;have h1:=(o0.1 h) k (po.2 f);have x:=(ov.1 h1) e C
      simp only[B,ta,Bool.false_or,decide_eq_true_eq] at x
      have p:=b e.on oM;rw[show decide (e.on<k)=true by simp[x]] at p
      have F:e.on<L.size:=by omega
      simp[gp,F] at p ⊢
      exact p
    rw[ti,wpOps_cons]
    unfold A at d
    rw[fR c] at d
    refine wpOp_mono (fun z w' h'=>?_) (d.2 k c);refine ih (k+1) (L.setIfInBounds k true) z w' oM (by simpa using u) ?_ h'.2;intro j y
    by_cases e:k=j
    . subst e
      simp[gp,u,y]
    . rw[getD_set_ne true e,b j y]
      congr 1
      simp only[eq_iff_iff]
      omega
theorem jo (m:Nat):rem (tj m false)=m:=by unfold rem;simp
theorem mJ {m j:Nat}(a:j<m):(tj m false).getD j true=false:=by simp[gp,a]
theorem CG.region {id:Nat}{ops:Array Oper}{d:Bool}(M:Ms)(k0:Nat)(AL:List Al)(y:P.follows .mixedOrders=true)(c:lk ops=true){h:Hp}(g:G w h)(e:∀ x∈AL,AlOk P ops k0 x)(hM:∀ b∈M.l,b<h.size)
    (H:EG M P n N R X ops k0 h AL (tj ops.size false) Γ w h):CG P n N R X (.region id ops d) Γ w:=by
  intro a p;have f:∀ w' h',Up w h w' h'->A M P ops (iG N R X) k0 (tj ops.size false) a w':=fun w' h' u=>H e hM g (ep _) a p w' h' u [] AL (List.Perm.refl _) (fun _ o=>by cases o) (by simp)
  cases d with
  | true =>
    refine wp_region_any y ?_;have h1:=f w.drew h (Up.drew (Up.refl g))
    unfold A at h1
    rw[jo] at h1
    exact mR _ _ _ _ _ _ _ _ _ h1
  | false =>
    refine wp_region ?_;rw[tq];exact oY c _ 0 _ a w oM (by simp) (fun j i=>by rw[mJ i];simp) (f w h (Up.refl g))
theorem CG.seq {x y:Code}(H:CG P n (fun a w=>y.wp P (iG N R X) a w) R X x Γ w):CG P n N R X (.seq x y) Γ w:=by
 intro a b;refine wp_seq (wp_mono (H a b) ?_);intro e a w hq;cases e<;>exact hq
theorem CG.cond {c:Operand}{x y:Code}(t:Bool)(d:iL Γ c=true)(hv:ev Γ c=.bool t)(ht:t=true->CG P n N R X x Γ w)(hf:t=false->CG P n N R X y Γ w):CG P n N R X (.cond c x y) Γ w :=
 fun a b=>wp_cond_split (by rw[b.eval d];exact hv) (fun e=>ht e a b) (fun e=>hf e a b)
theorem CG.condT {c:Operand}{x y:Code}(a:iL Γ c=true)(hv:ev Γ c=.bool true)(ht:CG P n N R X x Γ w):CG P n N R X (.cond c x y) Γ w:=CG.cond true a hv (fun _=>ht) (fun e=>by cases e)
theorem CG.condF {c:Operand}{x y:Code}(a:iL Γ c=true)(hv:ev Γ c=.bool false)(ht:CG P n N R X y Γ w):CG P n N R X (.cond c x y) Γ w:=CG.cond false a hv (fun e=>by cases e) (fun _=>ht)
theorem CG.skip (H:∀ a,Kn n a Γ->N a w):CG P n N R X .skip Γ w:=fun a b=>wp_skip (H a b)
theorem CG.skipN {y:Code}{N' R':Po}{X':Nat->Po}(H:CG P n N' R' X' y Γ w):CG P n (fun a w=>y.wp P (iG N' R' X') a w) R X .skip Γ w:=fun a b=>wp_skip (H a b)
theorem CG.ret (H:∀ a,Kn n a Γ->R a w):CG P n N R X .ret Γ w:=fun a b=>wp_ret (H a b)
theorem CG.exit {id:Nat}(H:∀ a,Kn n a Γ->X id a w):CG P n N R X (.exit id) Γ w:=fun a b=>wp_exit (H a b)
theorem CG.block {id:Nat}{c:Code}(H:CG P n N R (fun i=>if i=id then N else X i) c Γ w):CG P n N R X (.block id c) Γ w:=by
 intro a d;refine wp_block (wp_mono (H a d) ?_);intro e a w hq;cases e<;>try exact hq
 rename_i i
 simp only[iG] at hq
 simp only[Exit.inBlock,iG]
 split
 ·rename_i b;rw[if_pos b] at hq;exact hq
 ·rename_i b;rw[if_neg b] at hq;exact hq
theorem CG.to {c:Code}(Γ':bU)(b:jK Γ (Γ'.map (·.1))=Γ')(e:gk Γ'=gk Γ)(H:CG P n N R X c Γ' w):CG P n N R X c Γ w :=
 fun a d=>H a (d.mono (fun t v hv=>fO Γ (Γ'.map (·.1)) t v (by rw[b];exact hv)) e)
theorem Kn.to {a:Act}(k:Kn n a Γ)(Γ':bU)(b:jK Γ (Γ'.map (·.1))=Γ')(c:gk Γ'=gk Γ:=by kernel_rfl):Kn n a Γ' :=
 k.mono (fun t v hv=>fO Γ (Γ'.map (·.1)) t v (by rw[b];exact hv)) c
theorem CG.loop {c:Code}(I:Nat->bU->World->Prop)(m:Nat)(h0:I m Γ w)
    (o:∀ m Γ w,I m Γ w->CG P n (fun a w'=>∃ B j,B<m/\I B j w'/\Kn n a j) R X c Γ w):CG P n N R X (.loop c) Γ w:=by
  intro a J
  suffices key:∀ m a w Γ,I m Γ w->Kn n a Γ->∀ (b:Frame) (k:List Item) (cs:List Frame),∃ e C w',iG N R X e C w'/\Arrives P (lone (b.at a (.code c::.inLoop c::k)) cs w) b k cs e C w' by
    intro b k cs;obtain ⟨e,C,w',hq,d⟩:=key m a w Γ h0 J b k cs;exact ⟨e,C,w',hq,.of_steps (.one step_loop) d⟩
  intro m
  induction m using hP with
  | _ m ih =>
    intro a w Γ K J b k cs;obtain ⟨e,h,i,hq,d⟩:=o m Γ w K a J b (.inLoop c::k) cs;cases e with
    | normal =>
      obtain ⟨B,j,H,D,F⟩:=hq;obtain ⟨z,y,u,p,f⟩:=ih B H h i j D F b k cs;exact ⟨z,y,u,p,.of_steps (Steps.trans d (.one step_inLoop)) f⟩
    | exit id=>exact ⟨.exit id,h,i,hq,.pass (x:=.inLoop c) rfl (fun _ _=>.inl (by simp)) d⟩
    | goto l=>exact hq.elim
    | ret=>exact ⟨.ret,h,i,hq,.pass (x:=.inLoop c) rfl (fun _ _=>.inl (by simp)) d⟩
    | panic ch=>exact hq.elim
    | outgrown=>exact hq.elim
def envOf (l:List Value):bU:=go 0 l
where go:Nat->List Value->bU
  | _,[]=>[]
  | k,v::l=>(k,v)::go (k+1) l
theorem qi:∀ (l:List Value) (k t:Nat) (v:Value),(envOf.go k l).lookup t=some v->k<=t/\l[t-k]?=some v
  | [],_,_,_,h=>by simp[envOf.go] at h
  | u :: l,k,t,v,h=>by
    rw[envOf.go,i3] at h
    by_cases e:t=k
    . subst e;simp at h;subst h;exact ⟨ep _,by simp⟩
    . have b:(t == k)=false:=by simp[e]
      rw[b] at h
      obtain ⟨h1,a⟩:=qi l (k+1) t v h;refine ⟨by omega,?_⟩;obtain ⟨d,hd⟩:∃ d,t-k=d+1:=⟨t-k-1,by omega⟩;rw[hd];have:t-(k+1)=d:=by omega
      rw[this] at a
      simpa using a
theorem jU {l:List Value}{t:Nat}{v:Value}(h:(envOf l).lookup t=some v):l[t]?=some v:=by
 have:=qi l 0 t v h
 simpa using this.2
def pf (P:Program)(fn:Func)(Ro:Ending->World->Prop):Po:=fun a w=>a.defers=[]/\∃ v,(results fn a.tmps).run P w=.ok v w/\Ro (.returned v) w
theorem enter {f:FuncId}{b:Func}{c:Code}{args:Array Value}{h:Ending->World->Prop}(hf:P.funcs[f]?=some b)(p:b.body=some c)(hn:b.ntmps=n)(u:args.size<=n)(j:n<=1000000)
    (Γ0:bU)(d:Γ0=envOf args.toList)(H:CG P n (pf P b h) (pf P b h) (fun _ _ _=>False) c Γ0 w):Calls P f args w h:=by
  refine calls_of_wp hf p (wp_mono (H _ ⟨?_,?_,j,?_⟩) ?_)
  . show []=gk Γ0
    unfold gk
    cases e:Γ0.lookup 1000000 with
    | none=>rfl
    | some v =>
      rw[d] at e
      have h1:=jU e;rw[tv (by simp;omega)] at h1
      cases h1
  . simp;omega
  . intro t v _ hv
    rw[d] at hv
    have h1:=jU hv
    have o:t<args.size:=by
      rcases ea t args.size with hl|hl
      . exact hl
      . rw[tv (by simpa using hl)] at h1;cases h1
    rw[tw o]
    simpa using h1
  . intro e a w hq
    cases e with
    | normal=>exact hq
    | ret=>exact hq
    | exit i=>exact hq.elim
    | goto l=>exact hq.elim
    | panic ch=>exact hq.elim
    | outgrown=>exact hq.elim
def LG (P:Program)(n:Nat)(N R:Po)(X:Nat->Po)(ops:Array Oper)(k:Nat)(Γ:bU)(w:World):Prop :=
  ∀ a,Kn n a Γ->wpOps P ops (iG N R X) (tf k (ops.size-k)) a w
theorem CG.listed {id:Nat}{ops:Array Oper}(H:LG P n N R X ops 0 Γ w):CG P n N R X (.region id ops false) Γ w :=
 fun a b=>wp_region (by rw[tq];exact H a b)
section listed
variable {ops:Array Oper} {k:Nat}
def io (ops:Array Oper)(Γ:bU)(k:Nat):Bool:=decide (k<ops.size) && Region.noSelect ops && aZ Γ (am ops k)
theorem LG.op (b:io ops Γ k=true)(e:be ops Γ (am ops k)=some true){R':Value->World->Prop}
  (h:∀ a,Kn n a Γ->OpR P ops (am ops k) a w R')(d:∀ a v w',Kn n a Γ->R' v w'->wpOps P ops (iG N R X) (tf (k+1) (ops.size-(k+1))) (a.put (am ops k).dst v) w'):LG P n N R X ops k Γ w:=by
 unfold io at b
 simp only[na,decide_eq_true_eq] at b
 intro a c;obtain ⟨m,hm⟩:∃ m,ops.size-k=m+1:=⟨ops.size-k-1,by omega⟩;rw[hm,ti,wpOps_cons];refine OpR.wpOp (bG b.1.1) (h a c) (fun v w' hr=>?_);have:=d a v w' c hr;rw[show ops.size-(k+1)=m by omega] at this
 exact this
theorem LG.val (t:Nat)(v:Value)(w':World)(e:(io ops Γ k && ((am ops k).dst == some t) && decide (t<n))=true)(d:be ops Γ (am ops k)=some true)
  (hr:(execOp (ev Γ) (am ops k)).run P w=.ok (.value v) w')(H:LG P n N R X ops (k+1) ((t,v)::Γ) w'):LG P n N R X ops k Γ w:=by
 simp only[na,decide_eq_true_eq,beq_iff_eq] at e
 obtain ⟨⟨h1,f⟩,h⟩:=e;have b:=h1
 unfold io at b
 simp only[na,decide_eq_true_eq] at b
 refine LG.op h1 d (R':=fun u w1=>u=v/\w1=w') (fun a c=>⟨c.want d,.inl ⟨v,w',?_,rfl,rfl⟩⟩) ?_
 ·rw[c.exec (Region.noSelect_spec b.1.2 k _ · · (bG b.1.1)) b.2];exact hr
 ·rintro a _ _ c ⟨rfl,rfl⟩
  rw[f];exact H _ (c.put h _)
theorem LG.out (t:Nat)(c:(decide (k<ops.size) && ((am ops k).dst == some t) && decide (t<n))=true)(d:be ops Γ (am ops k)=some false)
  (H:LG P n N R X ops (k+1) ((t,undef)::Γ) w):LG P n N R X ops k Γ w:=by
 simp only[na,decide_eq_true_eq,beq_iff_eq] at c
 obtain ⟨⟨h1,e⟩,f⟩:=c;intro a b;obtain ⟨m,hm⟩:∃ m,ops.size-k=m+1:=⟨ops.size-k-1,by omega⟩;rw[hm,ti,wpOps_cons]
 unfold wpOp
 simp only[bG h1,b.want d,s5,if_false]
 have:=H _ (b.put f undef);rw[show ops.size-(k+1)=m by omega] at this
 rw[e];exact this
theorem LG.store (w':World)(e:(io ops Γ k && ((am ops k).dst == none))=true)(d:be ops Γ (am ops k)=some true)
  (hr:(execOp (ev Γ) (am ops k)).run P w=.ok .skip w')(H:LG P n N R X ops (k+1) Γ w'):LG P n N R X ops k Γ w:=by
 simp only[na,beq_iff_eq] at e
 obtain ⟨h1,f⟩:=e;have b:=h1
 unfold io at b
 simp only[na,decide_eq_true_eq] at b
 refine LG.op h1 d (R':=fun u w1=>w1=w') (fun a c=>⟨c.want d,.inr (.inl ⟨w',?_,rfl⟩)⟩) ?_
 ·rw[c.exec (Region.noSelect_spec b.1.2 k _ · · (bG b.1.1)) b.2];exact hr
 ·rintro a _ _ c rfl
  rw[f];exact H _ c
theorem LG.call (t f:Nat)(args:Array Value)(i:(io ops Γ k && ((am ops k).dst == some t) && decide (t<n))=true)(d:be ops Γ (am ops k)=some true)
  (hr:(execOp (ev Γ) (am ops k)).run P w=.ok (.enter f args) w)(H:Calls P f args w (fun e w'=>∃ v,e=.returned v/\LG P n N R X ops (k+1) ((t,v)::Γ) w')):LG P n N R X ops k Γ w:=by
 simp only[na,decide_eq_true_eq,beq_iff_eq] at i
 obtain ⟨⟨h1,j⟩,l⟩:=i;have b:=h1
 unfold io at b
 simp only[na,decide_eq_true_eq] at b
 refine LG.op h1 d (R':=fun v w'=>LG P n N R X ops (k+1) ((t,v)::Γ) w') (fun a c=>⟨c.want d,.inr (.inr ⟨f,args,?_,H⟩)⟩) ?_
 ·rw[c.exec (Region.noSelect_spec b.1.2 k _ · · (bG b.1.1)) b.2];exact hr
 ·rintro a v w' c h
  rw[j];exact h _ (c.put l _)
theorem LG.done (b:(k == ops.size)=true)(H:∀ a,Kn n a Γ->N a w):LG P n N R X ops k Γ w:=by
 simp only[beq_iff_eq] at b
 subst b;intro a c;rw[Nat.sub_self];exact H a c
theorem LG.next {y:Code}{N' R':Po}{X':Nat->Po}(b:(k == ops.size)=true)(H:CG P n N' R' X' y Γ w):LG P n (fun a w=>y.wp P (iG N' R' X') a w) R X ops k Γ w:=LG.done b H
end listed
theorem ao {ops:Array Oper}{k0:Nat}:∀ x∈([]:List Al),AlOk P ops k0 x:=fun _ h=>by cases h
theorem bv {ops:Array Oper}{k0:Nat}{x:Al}{l:List Al}(h:AlOk P ops k0 x)(k:∀ y∈l,AlOk P ops k0 y):∀ y∈x::l,AlOk P ops k0 y:=fun y a=>by
 rcases g4.1 a with rfl|a
 ·exact h
 ·exact k y a
def Fj (ops:Array Oper)(k0:Nat)(x:Al):Bool:=decide (x.i<ops.size) && ((am ops x.i).dst == some x.t) && (am ops x.i).guard.isNone && (am ops x.i).after.isEmpty && decide (x.i<k0)
theorem eg {ops:Array Oper}{k0:Nat}{x:Al}(a:Fj ops k0 x=true)(hr:∀ (ρ:Operand->Value) (w:World),(execOp ρ (am ops x.i)).run P w=.ok (.value (.pointer (some ⟨w.heap.size,0,none⟩))) (w.alloc x.o)):AlOk P ops k0 x:=by
 unfold Fj at a
 simp only[na,decide_eq_true_eq,beq_iff_eq,Option.isNone_iff_eq_none,Array.isEmpty_iff] at a
 exact ⟨⟨_,bG a.1.1.1.1,a.1.1.1.2,a.1.1.2,a.1.2,hr⟩,a.2⟩
end code
def cl {α:Type}(P:Program):Sem α->List Value->Option (α × List Addr)
  | .pure a,_=>some (a,[])
  | .load _ a k,v::vs=>(cl P (k v) vs).map fun r=>(r.1,a::r.2)
  | .program k,vs=>cl P (k P) vs
  | .mark _ k,vs=>cl P k vs
  | _,_=>none
theorem cZ {α:Type}{P:Program}{w:World}:∀ (s:Sem α) (vs:List Value) (r:α) (l:List Addr),cl P s vs=some (r,l) ->
    (∀ (i:Nat) a v,l[i]?=some a->vs[i]?=some v->w.cell? a=some v)->s.run P w=.ok r w:=by
  intro s
  induction s with
  | pure a=>intro vs r l h _;simp[cl] at h;simp[Sem.run,h.1]
  | load m a k ih =>
    intro vs r l h b;cases vs with
    | nil=>simp[cl] at h
    | cons v vs =>
      simp only[cl,tz] at h
      obtain ⟨⟨e,f⟩,h1,c⟩:=h
      injection c with e1 e2
      subst e1;subst e2;have h0:=b 0 a v (by simp) (by simp)
      simp only[Sem.run,h0]
      exact ih v vs _ _ h1 (fun i d v' ha hv=>b (i+1) d v' (by simpa using ha) (by simpa using hv))
  | program k ih=>intro vs r l h b;exact ih P vs r l h b
  | mark m k ih=>intro vs r l h b;exact ih vs r l h b
  | _=>intro vs r l h _;simp[cl] at h
def dK {α:Type}(P:Program):Sem α->Option (α × List (Addr × Value))
  | .pure a=>some (a,[])
  | .store _ _ (.agg _) _=>none
  | .store _ _ (.tuple _) _=>none
  | .store _ a v k=>(dK P k).map fun r=>(r.1,(a,v)::r.2)
  | .program k=>dK P (k P)
  | .mark _ k=>dK P k
  | _=>none
structure Put (b:Nat) (w w':World):Prop where
  os:w'.os=w.os
  tape:w'.tape=w.tape
  output:w'.output=w.output
  size:w'.heap.size=w.heap.size
  blk:∀ c,c≠b->w'.heap[c]?=w.heap[c]?
theorem Put.tl {b:Nat}{w w':World}(p:Put b w w'){M:Ms}(hz:∀ K bs,M.z=some (K,bs)->K<=b\/b∈bs):Tl M w w':=fun K bs e=>⟨Nat.le_of_eq p.size.symm,fun c a hn=>p.blk c (fun h=>by
 rcases hz K bs e with h1|h1
 ·omega
 ·exact hn (h▸h1))⟩
theorem Put.refl (b:Nat)(w:World):Put b w w:=⟨rfl,rfl,rfl,rfl,fun _ _=>rfl⟩
theorem Put.trans {b:Nat}{w1 w2 w3:World}(p:Put b w1 w2)(q:Put b w2 w3):Put b w1 w3 :=
 ⟨q.os.trans p.os,q.tape.trans p.tape,q.output.trans p.output,q.size.trans p.size,fun c a=>(q.blk c a).trans (p.blk c a)⟩
theorem Put.set (w:World)(p:Addr)(v:Value):Put p.block w (w.setCell p v) :=
 ⟨rfl,rfl,rfl,by simp,fun c a=>Below.heap_setCell _ _ _ _ a⟩
def Own (w:World)(b:Nat)(t:TypeId)(vs:List Value):Prop:=w.heap[b]?=some (.cells vs.toArray t (0,0))
theorem Own.cell {w:World}{b:Nat}{t:TypeId}{vs:List Value}(h:Own w b t vs)(i:Nat):w.cell? ⟨b,i,none⟩=vs[i]?:=by
 unfold World.cell?;rw[show w.heap[b]?=_ from h];simp
theorem Own.frozen {w:World}{b:Nat}{t:TypeId}{vs:List Value}(h:Own w b t vs)(i:Nat):w.frozen? ⟨b,i,none⟩=false:=by
 unfold World.frozen?;rw[show w.heap[b]?=_ from h];simp
theorem Own.set {w:World}{b:Nat}{t:TypeId}{vs:List Value}(h:Own w b t vs)(i:Nat)(v:Value):Own (w.setCell ⟨b,i,none⟩ v) b t (vs.set i v):=by
 unfold Own World.setCell
 simp only[Array.getElem?_modify,if_true,show w.heap[b]?=_ from h,ua]
 simp
theorem Own.lt {w:World}{b:Nat}{t:TypeId}{vs:List Value}(h:Own w b t vs):b<w.heap.size:=by
 rcases ea b w.heap.size with hl|hl
 ·exact hl
 ·unfold Own at h;rw[eb hl] at h;cases h
theorem Own.ext {w w':World}{b:Nat}{t:TypeId}{vs:List Value}(h:Own w b t vs)(x:Ext w w'):Own w' b t vs:=(Below.block x b h.lt).trans h
def bW (vs:List Value)(o:Nat):List Value->List Value
  | []=>vs
  | c::cs=>bW (vs.set o c) (o+1) cs
def lm (b o:Nat):List Value->List (Addr × Value)
  | []=>[]
  | c::cs=>(⟨b,o,none⟩,c)::lm b (o+1) cs
theorem fQ {α:Type}{P:Program}{b:Nat}{t:TypeId}:∀ (s:Sem α) (r:α) (o:Nat) (cs vs:List Value) (w:World),dK P s=some (r,lm b o cs)->Own w b t vs->o+cs.length<=vs.length ->
    ∃ w',s.run P w=.ok r w'/\Put b w w'/\Own w' b t (bW vs o cs):=by
  intro s
  induction s with
  | pure a =>
    intro r o cs vs w h d _
    simp only[dK,Option.some.injEq,Prod.mk.injEq] at h
    obtain ⟨h1,f⟩:=h;cases cs with
    | nil=>exact ⟨w,by simp[Sem.run,h1],Put.refl _ _,d⟩
    | cons c cs=>simp[lm] at f
  | store m a v k ih =>
    intro r o cs vs w h d i
    have h':∃ e,dK P k=some e/\(e.1,(a,v)::e.2)=(r,lm b o cs)/\(∀ l,v≠.agg l)/\∀ l,v≠.tuple l:=by
      cases v<;>simp only[dK,tz] at h<;>first|(obtain ⟨e,h1,f⟩:=h;exact ⟨e,h1,f,by simp,by simp⟩)|cases h
    obtain ⟨⟨e,C⟩,h1,f,z,p⟩:=h'
    injection f with e1 e2
    cases cs with
    | nil=>simp[lm] at e2
    | cons c cs =>
      simp only[lm,List.cons.injEq,Prod.mk.injEq] at e2
      obtain ⟨⟨x,ev⟩,y⟩:=e2;subst x;subst ev;subst y;subst e1
      simp only[ub] at i
      have B:w.cell? ⟨b,o,none⟩=some (vs[o]'oM):=by rw[d.cell,List.getElem?_eq_getElem]
      obtain ⟨w',hr,u,j⟩:=ih _ (o+1) cs (vs.set o v) (w.setCell ⟨b,o,none⟩ v) h1 (d.set o v) (by simp;omega);refine ⟨w',?_,(Put.set w ⟨b,o,none⟩ v).trans u,j⟩
      have:(Sem.store m ⟨b,o,none⟩ v k).run P w=k.run P (w.setCell ⟨b,o,none⟩ v):=by
        cases v<;>first|(simp only[Sem.run,B,d.frozen];rfl)|exact absurd rfl (z _)|exact absurd rfl (p _)
      rw[this];exact hr
  | program k ih=>intro r o cs vs w h d i;exact ih P r o cs vs w h d i
  | mark m k ih=>intro r o cs vs w h d i;exact ih r o cs vs w h d i
  | _=>intro r o cs vs w h _ _;simp[dK] at h
structure Bx where
  b:Nat
  t:TypeId
  vs:List Value
  deriving Inhabited
structure St (w0:World) (h0:Hp) (w:World) (h:Hp) (B:List Bx):Prop where
  up:Up w0 h0 w h
  own:∀ x∈B,Own w x.b x.t x.vs
  jk:∀ x∈B,h[x.b]?=some bc
  lo:∀ x∈B,h0.size<=x.b
  nd:(B.map (·.b)).Nodup
theorem aJ {h:Hp}{b:Nat}{o:Obj}(e:h[b]?=some o):b<h.size:=by
 rcases ea b h.size with hl|hl
 ·exact hl
 ·rw[eb hl] at e;cases e
section st
variable {w0:World} {h0:Hp} {w:World} {h:Hp} {B:List Bx}
theorem St.start (g:G w h):St w h w h []:=⟨Up.refl g,fun _ a=>(by cases a),fun _ a=>(by cases a),fun _ a=>(by cases a),by simp⟩
theorem St.step (s:St w0 h0 w h B){w':World}{h':Hp}(u:Up w h w' h'):St w0 h0 w' h' B :=
 ⟨s.up.trans u,fun x a=>(s.own x a).ext u.ext,fun x a=>(u.gr.blk _ (aJ (s.jk x a))).trans (s.jk x a),s.lo,s.nd⟩
theorem St.g (s:St w0 h0 w h B):G w h:=s.up.g
theorem St.sz (s:St w0 h0 w h B):h0.size<=h.size:=s.up.gr.size
theorem St.new {wr:World}{hr:Hp}{B':List Bx}{x:Al}{b:Nat}(f:St w0 h0 wr hr B')(s:St w0 h0 w h B)(hB:∀ y∈B,y.b<hr.size\/y.b≠b)(k:Blk hr w h (x,b))(t:TypeId)(vs:List Value)(i:x.o=.cells vs.toArray t (0,0)) :
  St w0 h0 w h (⟨b,t,vs⟩::B):=by
 obtain ⟨p,k2,c⟩:=k;refine ⟨s.up,?_,?_,?_,?_⟩
 ·intro y a
  rcases g4.1 a with rfl|a
  ·show w.heap[b]?=_
   rw[<-i];exact p
  ·exact s.own y a
 ·intro y a
  rcases g4.1 a with rfl|a
  ·exact k2
  ·exact s.jk y a
 ·intro y a
  rcases g4.1 a with rfl|a
  ·exact e4 f.sz c
  ·exact s.lo y a
 ·refine hO.2 ⟨fun l=>?_,s.nd⟩
  obtain ⟨y,a,d⟩:=g1.1 l
  rcases hB y a with hl|hl
  ·have j:y.b=b:=d
   have e:hr.size<=b:=c
   omega
  ·exact hl d
theorem St.new1 {wr:World}{hr:Hp}{x:Al}{b:Nat}(a:St w0 h0 wr hr B)(s:St w0 h0 w h B)(k:Blk hr w h (x,b))(t:TypeId)(vs:List Value)(d:x.o=.cells vs.toArray t (0,0)) :
 St w0 h0 w h (⟨b,t,vs⟩::B):=St.new a s (fun y c=>.inl (aJ (a.jk y c))) k t vs d
theorem St.new2 {wr:World}{hr:Hp}{x y:Al}{b c:Nat}(e:St w0 h0 wr hr B)(s:St w0 h0 w h B)(k:Blk hr w h (x,b))(k2:Blk hr w h (y,c))(f:b≠c)(t:TypeId)(vs:List Value)(j:x.o=.cells vs.toArray t (0,0))(d:TypeId)(a:List Value)(i:y.o=.cells a.toArray d (0,0)) :
  St w0 h0 w h (⟨b,t,vs⟩::⟨c,d,a⟩::B) :=
 St.new e (St.new1 e s k2 d a i) (fun z hz=>by
  rcases g4.1 hz with rfl|hz
  ·exact .inr (Ne.symm f)
  ·exact .inl (aJ (e.jk z hz))) k t vs j
def av (B:List Bx)(j:Nat):Bx:=B.getD j default
def gJ (B:List Bx)(j o:Nat)(cs:List Value):List Bx:=B.set j { av B j with vs:=bW (av B j).vs o cs }
theorem bp {j:Nat}(h:j<B.length):av B j∈B:=by
 unfold av
 have:B.getD j default=B[j]:=by simp[h]
 rw[this];exact gq h
theorem Up.put {b:Nat}{w':World}(u:Up w0 h0 w h)(p:Put b w w')(f:h[b]?=some bc)(d:h0.size<=b)(a:w0.heap.size=h0.size):Up w0 h0 w' h:=by
 refine ⟨⟨p.os.trans u.ext.os,p.tape.trans u.ext.tape,p.output.trans u.ext.output,by rw[p.size];exact u.ext.size,fun c i=>?_⟩,u.gr,⟨by rw[p.size];exact u.g.size,fun c=>?_⟩⟩
 ·rw[p.blk c oM]
  exact Below.block u.ext c i
 ·by_cases e:c=b
  ·subst e;exact .inr f
  ·rw[p.blk c e];exact u.g.blk c
theorem St.put (s:St w0 h0 w h B)(H:G w0 h0){j o:Nat}{cs:List Value}{w':World}(d:j<B.length)(p:Put (av B j).b w w')(I:Own w' (av B j).b (av B j).t (bW (av B j).vs o cs)):St w0 h0 w' h (gJ B j o cs):=by
  have F:=bp d
  have a:(gJ B j o cs).map (·.b)=B.map (·.b):=by
    unfold gJ
    rw[ul]
    apply um
    intro i
    by_cases e:j=i
    . subst e
      rw[uA (by simpa using d)]
      simp[av,d]
    . rw[u9 e]
  refine ⟨s.up.put p (s.jk _ F) (s.lo _ F) H.size,?_,?_,?_,by rw[a];exact s.nd⟩
  . intro x l
    obtain ⟨i,hi,c⟩:=vi.1 l;have f:i<B.length:=by simpa [gJ] using hi
    by_cases e:j=i
    . subst e
      have:x={ av B j with vs:=bW (av B j).vs o cs }:=by rw[<-c];simp[gJ]
      subst this;exact I
    . have z:x=B[i]:=by rw[<-c];simp[gJ,e]
      subst z
      have D:B[i].b≠(av B j).b:=by
        intro C
        have h1:(B.map (·.b))[i]'(by simpa using f)=(B.map (·.b))[j]'(by simpa using d):=by
          simp only[vj]
          rw[C]
          simp[av,d]
        exact e ((vl s.nd).1 h1).symm
      show w'.heap[B[i].b]?=_
      rw[p.blk _ D];exact s.own _ (gq f)
  . intro x l
    have:x.b∈(gJ B j o cs).map (·.b):=g1.2 ⟨x,l,rfl⟩;rw[a] at this
    obtain ⟨y,u,c⟩:=g1.1 this;rw[<-c];exact s.jk y u
  . intro x l
    have:x.b∈(gJ B j o cs).map (·.b):=g1.2 ⟨x,l,rfl⟩;rw[a] at this
    obtain ⟨y,u,c⟩:=g1.1 this;rw[<-c];exact s.lo y u
def k8 (b o:Nat):Nat->List Addr
  | 0=>[]
  | n+1=>⟨b,o,none⟩::k8 b (o+1) n
theorem fh (b:Nat):∀ (n o i:Nat) (a:Addr),(k8 b o n)[i]?=some a->a=⟨b,o+i,none⟩
  | 0,_,_,_,h=>by simp[k8] at h
  | n+1,o,0,a,h=>by simp[k8] at h;rw[<-h];rfl
  | n+1,o,i+1,a,h=>by
    have:=fh b n (o+1) i a (by simpa [k8] using h);rw[this];congr 1;omega
def dQ (B:List Bx):List (Nat × Nat × Nat)->List Value
  | []=>[]
  | p::ps=>((av B p.1).vs.drop p.2.1).take p.2.2++dQ B ps
def cM (B:List Bx):List (Nat × Nat × Nat)->List Addr
  | []=>[]
  | p::ps=>k8 (av B p.1).b p.2.1 p.2.2++cM B ps
def dj (B:List Bx)(ps:List (Nat × Nat × Nat)):Bool:=ps.all fun p=>decide (p.1<B.length) && decide (p.2.1+p.2.2<=(av B p.1).vs.length)
theorem i9 (b o n:Nat):(k8 b o n).length=n:=by
 induction n generalizing o with
 | zero=>rfl
 | succ n ih=>simp[k8,ih]
theorem fq (d:∀ x∈B,Own w x.b x.t x.vs):∀ (ps:List (Nat × Nat × Nat)),dj B ps=true->∀ (i:Nat) a v,(cM B ps)[i]?=some a->(dQ B ps)[i]?=some v->w.cell? a=some v
  | [],_,i,a,v,h,_=>by simp[cM] at h
  | p :: ps,hok,i,a,v,ha,hv=>by
    unfold dj at hok
    rw[v6,na] at hok
    obtain ⟨h1,e⟩:=hok
    simp only[na,decide_eq_true_eq] at h1
    have c:(((av B p.1).vs.drop p.2.1).take p.2.2).length=p.2.2:=by simp;omega
    unfold cM at ha
    unfold dQ at hv
    rcases ea i p.2.2 with hl|hl
    . rw[wj (by rw[i9];exact hl)] at ha
      rw[wj (by rw[c];exact hl)] at hv
      rw[fh _ _ _ _ _ ha,(d _ (bp h1.1)).cell];rw[yh hl,yy] at hv
      exact hv
    . rw[yz (by rw[i9];exact hl),i9] at ha
      rw[yz (by rw[c];exact hl),c] at hv
      exact fq d ps e _ a v ha hv
theorem Own.mo {w w':World}{b:Nat}{t:TypeId}{vs:List Value}{M:List Nat}(h:Own w b t vs)(x:Mo M w w')(a:b ∉ M):Own w' b t vs:=(x.blk b h.lt a).trans h
theorem g8 {M:List Nat}{d:List (Nat × Nat × Nat)}(hM:∀ p∈d,(av B p.1).b ∉ M)(e:∀ x∈B,x.b ∉ M->Own w x.b x.t x.vs):∀ (ps:List (Nat × Nat × Nat)),(∀ p∈ps,p∈d)->dj B ps=true->∀ (i:Nat) a v,(cM B ps)[i]?=some a->(dQ B ps)[i]?=some v->w.cell? a=some v
  | [],_,_,i,a,v,h,_=>by simp[cM] at h
  | p :: ps,hsub,hok,i,a,v,ha,hv=>by
    unfold dj at hok
    rw[v6,na] at hok
    obtain ⟨h1,f⟩:=hok
    simp only[na,decide_eq_true_eq] at h1
    have c:(((av B p.1).vs.drop p.2.1).take p.2.2).length=p.2.2:=by simp;omega
    unfold cM at ha
    unfold dQ at hv
    rcases ea i p.2.2 with hl|hl
    . rw[wj (by rw[i9];exact hl)] at ha
      rw[wj (by rw[c];exact hl)] at hv
      rw[fh _ _ _ _ _ ha,(e _ (bp h1.1) (hM p (hsub p (by simp)))).cell];rw[yh hl,yy] at hv
      exact hv
    . rw[yz (by rw[i9];exact hl),i9] at ha
      rw[yz (by rw[c];exact hl),c] at hv
      exact g8 hM e ps (fun q hq=>hsub q (by simp[hq])) f _ a v ha hv
end st
section own
variable {M:Ms} {P:Program} {n:Nat} {N R:Po} {X:Nat->Po} {ops:Array Oper} {k0:Nat} {hr:Hp} {AL:List Al} {L:Array Bool} {Γ:bU} {w:World} {h:Hp} {w0:World} {h0:Hp} {B:List Bx}
theorem Rg.own (i t:Nat)(ps:List (Nat × Nat × Nat))(v:Value)(s:St w0 h0 w h B)(o:(dX n ops k0 AL L i t && aZ Γ (am ops i) && iX ops k0 i)=true)(d:be ops Γ (am ops i)=some true)
  (hM:∀ p∈ps,(av B p.1).b ∉ M.l)(c:dj B ps=true)(e:cl P (execOp (ev Γ) (am ops i)) (dQ B ps)=some (.value v,cM B ps))
  (k:EG M P n N R X ops k0 hr AL (L.setIfInBounds i true) ((t,v)::Γ) w h):EG M P n N R X ops k0 hr AL L Γ w h :=
 Rg.load i t v o d (fun w' f=>cZ _ _ _ _ e (g8 hM (fun x j a=>(s.own x j).mo f a) ps (fun _ h=>h) c)) k
theorem T.put (i j o:Nat)(cs:List Value)(s:St w0 h0 w h B)(u:G w0 h0)(x:(g7 ops k0 L i && aZ Γ (am ops i) && ((am ops i).dst == none))=true)(l:be ops Γ (am ops i)=some true)
  (f:(decide (j<B.length) && decide (o+cs.length<=(av B j).vs.length))=true)(p:dK P (execOp (ev Γ) (am ops i))=some (.skip,lm (av B j).b o cs))
  (k:∀ w',Put (av B j).b w w'->St w0 h0 w' h (gJ B j o cs)->AG M P n N R X ops k0 (L.setIfInBounds i true) Γ w')(hz:∀ K bs,M.z=some (K,bs)->K<=(av B j).b\/(av B j).b∈bs:=by intro _ _ e;cases e):AG M P n N R X ops k0 L Γ w:=by
 simp only[na,decide_eq_true_eq] at f
 obtain ⟨w',c,a,d⟩:=fQ _ _ _ _ _ w p (s.own _ (bp f.1)) f.2;exact T.store i w' x l c (a.tl hz) (k w' a (s.put u f.1 a d))
theorem LG.own {k:Nat}(t:Nat)(ps:List (Nat × Nat × Nat))(v:Value)(s:St w0 h0 w h B)(d:(io ops Γ k && ((am ops k).dst == some t) && decide (t<n))=true)(b:be ops Γ (am ops k)=some true)
  (a:dj B ps=true)(c:cl P (execOp (ev Γ) (am ops k)) (dQ B ps)=some (.value v,cM B ps))
  (H:LG P n N R X ops (k+1) ((t,v)::Γ) w):LG P n N R X ops k Γ w :=
 LG.val t v w d b (cZ _ _ _ _ c (fq s.own ps a)) H
theorem LG.put {k:Nat}(j o:Nat)(cs:List Value)(s:St w0 h0 w h B)(p:G w0 h0)(l:(io ops Γ k && ((am ops k).dst == none))=true)(f:be ops Γ (am ops k)=some true)
  (e:(decide (j<B.length) && decide (o+cs.length<=(av B j).vs.length))=true)(i:dK P (execOp (ev Γ) (am ops k))=some (.skip,lm (av B j).b o cs))
  (H:∀ w',Put (av B j).b w w'->St w0 h0 w' h (gJ B j o cs)->LG P n N R X ops (k+1) Γ w'):LG P n N R X ops k Γ w:=by
 simp only[na,decide_eq_true_eq] at e
 obtain ⟨w',c,a,d⟩:=fQ _ _ _ _ _ w i (s.own _ (bp e.1)) e.2;exact LG.store w' l f c (H w' a (s.put p e.1 a d))
theorem LG.var {k:Nat}(t:Nat)(ty:TypeId)(vs:List Value)(s:St w0 h0 w h B)(c:(io ops Γ k && ((am ops k).dst == some t) && decide (t<n))=true)(a:be ops Γ (am ops k)=some true)
  (hr:(execOp (ev Γ) (am ops k)).run P w=.ok (.value (.pointer (some ⟨w.heap.size,0,none⟩))) (w.alloc (.cells vs.toArray ty (0,0))))
  (H:∀ b w' h',h.size<=b->Up w h w' h'->St w0 h0 w' h' (⟨b,ty,vs⟩::B)->LG P n N R X ops (k+1) ((t,.pointer (some ⟨b,0,none⟩))::Γ) w'):LG P n N R X ops k Γ w:=by
 have u:Up w h (w.alloc (.cells vs.toArray ty (0,0))) (h.push bc):=Up.allocAny s.g _ _ (.inr rfl);refine LG.val t _ _ c a hr (H _ _ _ (by rw[s.g.size];exact ep _) u (St.new1 (x:=⟨0,0,.cells vs.toArray ty (0,0)⟩) s (s.step u) ⟨?_,?_,?_⟩ ty vs rfl))
 ·rw[heap_alloc];exact gg
 ·rw[s.g.size];exact gg
 ·show h.size<=w.heap.size;rw[s.g.size];exact ep _
def qD (fn:Func)(Γ:bU):Sem Value:=do
  let vs <-fn.results.mapM fun
    | .tmp t=>Pure.pure (ev Γ (.tmp t))
    | .cell a t=>do loadVar t (<-asAddr (ev Γ (.tmp a)))
  Pure.pure (if h:vs.size=1 then vs[0] else .tuple vs)
def Jm (fn:Func)(Γ:bU):Bool:=fn.results.all fun|.tmp t=>iL Γ (.tmp t)|.cell a _=>iL Γ (.tmp a)
def oK (fn:Func)(Γ:bU):Bool:=(gk Γ).isEmpty && Jm fn Γ
theorem tS {a:Func}{Γ:bU}(h:oK a Γ=true):gk Γ=[]:=by
 unfold oK at h;rw[na] at h;exact List.isEmpty_iff.1 h.1
theorem qI {α β:Type}(l:List α)(f g:α->Sem β)(h:∀ x∈l,f x=g x):l.mapM f=l.mapM g:=by
 induction l with
 | nil=>rfl
 | cons a l ih=>rw[yY,yY,h a (by simp),ih (fun x b=>h x (by simp[b]))]
theorem oU {b:Func}{a:Act}(c:Kn n a Γ)(hk:Jm b Γ=true):results b a.tmps=qD b Γ:=by
 unfold results qD
 have e:∀ x∈b.results.toList,((match x with|.tmp t=>Pure.pure (a.tmps.getD t undef)|.cell ad t=>(do loadVar t (<-asAddr (a.tmps.getD ad undef)))):Sem Value)=((match x with|.tmp t=>Pure.pure (ev Γ (.tmp t))|.cell ad t=>(do loadVar t (<-asAddr (ev Γ (.tmp ad))))):Sem Value):=by
  intro x d;have h1:=(ov.1 hk) x (by simpa using d);cases x with
  | tmp t=>have:=c.eval h1;simp only[Act.eval] at this;simp only[this]
  | cell ad t=>have:=c.eval h1;simp only[Act.eval] at this;simp only[this]
 rw[yZ,yZ]
 congr 2
 exact qI _ _ _ e
theorem kK {b:Func}{a:Act}(c:Kn n a Γ)(hk:oK b Γ=true):results b a.tmps=qD b Γ :=
 oU c (by unfold oK at hk;rw[na] at hk;exact hk.2)
def Ret (w0:World)(h0:Hp)(Φ:Value->Hp->Prop):Ending->World->Prop:=fun e w'=>∃ v h',e=.returned v/\Up w0 h0 w' h'/\Φ v h'
theorem KG {c:Func}{Φ:Value->Hp->Prop}(s:St w0 h0 w h B)(ps:List (Nat × Nat × Nat))(v:Value)(hk:(oK c Γ && dj B ps)=true)(e:cl P (qD c Γ) (dQ B ps)=some (v,cM B ps))(b:Φ v h) :
  ∀ a,Kn n a Γ->pf P c (Ret w0 h0 Φ) a w:=by
 intro a d;rw[na] at hk
 refine ⟨d.df.trans (tS hk.1),v,?_,v,h,rfl,s.up,b⟩;rw[kK d hk.1];exact cZ _ _ _ _ e (fq s.own ps hk.2)
end own
abbrev CV (f:FuncId)(a:Array Value)(w:World)(h:Hp)(x:Value):Prop:=Calls Tryz.prog f a w (Ret w h fun v _=>v=x)
abbrev CR (f:FuncId)(a:Array Value)(w:World)(h:Hp)(Φ:Value->Hp->Prop):Prop:=Calls Tryz.prog f a w (Ret w h Φ)
def d7 (h:Hp)(b i:Nat):Option Value :=
  match h[b]? with
  | some (.cells c _ _)=>c[i]?
  | _=>none
structure Gw (h h':Hp):Prop where
  size:h.size<=h'.size
  blk:∀ b:Nat,b<h.size->h'[b]?=h[b]?\/h[b]?=some bc
theorem Gr.gw {h h':Hp}(u:Gr h h'):Gw h h':=⟨u.size,fun b a=>.inl (u.blk b a)⟩
theorem wR {h h':Hp}(u:Gw h h'){b i:Nat}{v:Value}(e:d7 h b i=some v):d7 h' b i=some v:=by
  unfold d7 at *
  cases a:h[b]? with
  | none=>rw[a] at e;cases e
  | some o =>
    rcases u.blk b (aJ a) with h1|h1
    . rw[h1];exact e
    . rw[h1] at e;simp[bc] at e
theorem kW {w:World}{h:Hp}(g:G w h){b i:Nat}{v:Value}(e:d7 h b i=some v):w.cell? ⟨b,i,none⟩=some v:=by
 unfold d7 at e
 rcases g.blk b with h1|h1
 ·unfold World.cell?
  rw[<-h1];cases a:h[b]? with
  | none=>rw[a] at e;cases e
  | some o=>rw[a] at e;cases o<;>simp at e ⊢ <;> exact e
 ·rw[h1] at e;simp[bc] at e
def Seg (h:Hp)(b o:Nat)(cs:List Value):Prop:=∀ (i:Nat) (v:Value),cs[i]?=some v->d7 h b (o+i)=some v
theorem Seg.gw {h h':Hp}{b o:Nat}{cs:List Value}(s:Seg h b o cs)(u:Gw h h'):Seg h' b o cs:=fun i v hv=>wR u (s i v hv)
theorem BO {M:List Nat}{w w':World}{h:Hp}(g:G w h)(x:Mo M w w')(hM:∀ b∈M,h[b]?=some bc){b i:Nat}{v:Value}(e:d7 h b i=some v):w'.cell? ⟨b,i,none⟩=some v:=by
 have f:b ∉ M:=fun j=>by
  unfold d7 at e
  rw[hM b j] at e
  simp[bc] at e
 have d:=kW g e
 have c:b<w.heap.size:=by
  rcases ea b w.heap.size with c|c
  ·exact c
  ·unfold World.cell? at d;rw[eb c] at d;cases d
 rw[World.cell?_of_block (w:=w) (a:=⟨b,i,none⟩) (x.blk b c f)];exact d
theorem Seg.runM {α:Type}{M:List Nat}{P:Program}{w w':World}{h:Hp}{b o:Nat}{cs:List Value}{s:Sem α}{r:α}(sg:Seg h b o cs)(g:G w h)(hM:∀ b∈M,h[b]?=some bc)(x:Mo M w w')(c:cl P s cs=some (r,k8 b o cs.length)):s.run P w'=.ok r w' :=
 cZ _ _ _ _ c (fun i a v ha hv=>by rw[fh _ _ _ _ _ ha];exact BO g x hM (sg i v hv))
theorem Seg.run {α:Type}{P:Program}{w w':World}{h:Hp}{b o:Nat}{cs:List Value}{s:Sem α}{r:α}(sg:Seg h b o cs)(g:G w h)(x:Ext w w')(c:cl P s cs=some (r,k8 b o cs.length)):s.run P w'=.ok r w' :=
 cZ _ _ _ _ c (fun i a v ha hv=>by rw[fh _ _ _ _ _ ha];exact x.some (kW g (sg i v hv)))
theorem Seg.part {h:Hp}{b o:Nat}{cs:List Value}(s:Seg h b o cs)(j n:Nat):Seg h b (o+j) ((cs.drop j).take n):=fun i v hv=>by
 have hi:i<n:=by
  rcases ea i n with hl|hl
  ·exact hl
  ·rw[tv (by simp;omega)] at hv;cases hv
 rw[yh hi,yy] at hv
 rw[y3];exact s (j+i) v hv
def aB (A:Option Addr):Nat:=match A with|some a=>a.block|none=>0
def aO (A:Option Addr):Nat:=match A with|some a=>a.off|none=>0
structure SlO {α:Type} (sz:Nat) (f:α->List Value) (d:α) (h:Hp) (A:Option Addr) (l:List α):Prop where
  ok:0<l.length->A=some ⟨aB A,aO A,none⟩
  el:∀ k,k<l.length->Seg h (aB A) (aO A+k*sz) (f (l.getD k d))
theorem SlO.gw {α:Type}{sz:Nat}{f:α->List Value}{d:α}{h h':Hp}{A:Option Addr}{l:List α}(s:SlO sz f d h A l)(u:Gw h h'):SlO sz f d h' A l:=⟨s.ok,fun k hk=>(s.el k hk).gw u⟩
theorem SlO.nil {α:Type}{sz:Nat}{f:α->List Value}{d:α}{h:Hp}{A:Option Addr}:SlO sz f d h A []:=⟨fun h=>by simp at h,fun k hk=>by simp at hk⟩
def Jz {α:Type}(sz:Nat)(f:α->List Value)(d:α)(h:Hp)(v:Value)(l:List α):Prop :=
  ∃ A cap,v=.slice A l.length cap/\l.length<=cap/\SlO sz f d h A l
theorem SlO.of_flat {α:Type}{sz:Nat}{f:α->List Value}{d:α}{h:Hp}{b o:Nat}{l:List α}(hf:∀ x,(f x).length=sz)(s:Seg h b o (l.flatMap f)):SlO sz f d h (some ⟨b,o,none⟩) l:=by
  refine ⟨fun _=>rfl,?_⟩
  induction l generalizing o with
  | nil=>intro k hk;simp at hk
  | cons x l ih =>
    intro k hk;cases k with
    | zero =>
      have:=s.part 0 sz
      simp only[y4,y5,y6] at this
      rw[y7 (by rw[hf];exact ep _),<-hf x,y8] at this
      simpa [aB,aO] using this
    | succ k =>
      have a:Seg h b (o+sz) (l.flatMap f):=fun i v hv=>by
        have:=s (sz+i) v (by rw[y4,yz (by rw[hf];omega),hf];simpa using hv)
        rwa [<-y3] at this
      have:=ih a k (by simpa using hk)
      simp only[aB,aO,y9] at this ⊢
      rw[zh,zy (k*sz) sz,<-y3];exact this
theorem Seg.new {h:Hp}(cs:List Value)(ty:TypeId):Seg (h.push (.cells cs.toArray ty (0,0))) h.size 0 cs:=fun i v hv=>by
 unfold d7
 rw[gg]
 simpa using hv
theorem bV {α:Type}{f:α->List Value}{sz:Nat}(hf:∀ x,(f x).length=sz)(l:List α):(l.flatMap f).length=l.length*sz:=by
 induction l with
 | nil=>simp
 | cons x l ih=>simp only[y4,zY,ih,hf,ub,zh];omega
theorem fP {α:Type}{f:α->List Value}{sz:Nat}(hf:∀ x,(f x).length=sz)(d:α):∀ (l:List α) (k:Nat),k<l.length->((l.flatMap f).drop (k*sz)).take sz=f (l.getD k d)
  | [],k,h=>by simp at h
  | x::l,0,h=>by
    simp only[y4,zZ,y6,z1]
    rw[y7 (by rw[hf];exact ep _),<-hf x,y8]
  | x::l,k+1,h=>by
    simp only[y4,y9]
    rw[zh,List.drop_append,hf,show k*sz+sz-sz=k*sz by omega,z2 (by rw[hf];omega),List.nil_append];exact fP hf d l k (by simpa using h)
theorem fL (cs:List Value):∀ (a b:List Value) (o:Nat),bW (a++b) (a.length+o) cs=a++bW b o cs:=by
  induction cs with
  | nil=>intro a b o;rfl
  | cons c cs ih =>
    intro a b o
    show bW ((a++b).set (a.length+o) c) (a.length+o+1) cs=a++bW (b.set o c) (o+1) cs
    rw[List.set_append_right _ _ oM,show a.length+o-a.length=o by omega,y3];exact ih a (b.set o c) (o+1)
theorem jb:∀ (cs a b:List Value),a.length=cs.length->bW (a++b) 0 cs=cs++b:=by
  intro cs
  induction cs with
  | nil=>intro a b h;have:a=[]:=z6 (by simpa using h);subst this;rfl
  | cons c cs ih =>
    intro a b h;cases a with
    | nil=>simp at h
    | cons y a =>
      show bW (c::(a++b)) (0+1) cs=c::(cs++b)
      have:=fL cs [c] (a++b) 0
      simp only[List.length_singleton,List.singleton_append] at this
      rw[show 0+1=1+0 by omega,this,ih a b (by simpa using h)]
theorem jC {α:Type}{f:α->List Value}{sz:Nat}(hf:∀ x,(f x).length=sz):∀ (l:List α) (k:Nat) (x:α),k<l.length->bW (l.flatMap f) (k*sz) (f x)=(l.set k x).flatMap f
  | [],k,x,h=>by simp at h
  | y::l,0,x,h=>by
    simp only[y4,zZ,z7]
    exact jb _ _ _ (by rw[hf,hf])
  | y::l,k+1,x,h=>by
    simp only[y4,z8]
    rw[zh,zy,<-hf y,fL,hf y,jC hf l k x (by simpa using h)]
section rows
variable {M:Ms} {P:Program} {n:Nat} {N R:Po} {X:Nat->Po} {ops:Array Oper} {k0:Nat} {hr:Hp} {AL:List Al} {L:Array Bool} {Γ:bU} {w:World} {h:Hp}
theorem LG.row {k:Nat}(t:Nat)(ty:TypeId)(m:Nat)(cs:List Value)(g:G w h)(d:(io ops Γ k && ((am ops k).dst == some t) && decide (t<n))=true)(c:be ops Γ (am ops k)=some true)
  (a:(execOp (ev Γ) (am ops k)).run P w=.ok (.value (.slice (some ⟨w.heap.size,0,none⟩) m m)) (w.alloc (.cells cs.toArray ty (0,0))))
  (H:∀ b w' h',Up w h w' h'->Seg h' b 0 cs->LG P n N R X ops (k+1) ((t,.slice (some ⟨b,0,none⟩) m m)::Γ) w'):LG P n N R X ops k Γ w :=
 LG.val t _ _ d c a (H _ _ _ (Up.allocAny g _ _ (.inl rfl)) (by rw[g.size];exact Seg.new cs ty))
theorem Rg.row (i t:Nat)(ty:TypeId)(m:Nat)(cs:List Value)(d:(ny n ops k0 AL L i t && aZ Γ (am ops i))=true)(c:be ops Γ (am ops i)=some true)
  (a:∀ w,(execOp (ev Γ) (am ops i)).run P w=.ok (.value (.slice (some ⟨w.heap.size,0,none⟩) m m)) (w.alloc (.cells cs.toArray ty (0,0))))
  (H:∀ b w' h',Up w h w' h'->Seg h' b 0 cs->EG M P n N R X ops k0 hr AL (L.setIfInBounds i true) ((t,.slice (some ⟨b,0,none⟩) m m)::Γ) w' h'):EG M P n N R X ops k0 hr AL L Γ w h :=
 Rg.event i t d c (fun w' h' u=>.inl ⟨_,_,_,a w',(Up.allocAny u.g _ _ (.inl rfl)).m M.l,H _ _ _ (u.trans (Up.allocAny u.g _ _ (.inl rfl))) (by rw[u.g.size];exact Seg.new cs ty)⟩)
theorem Rg.ownA {w0:World}{h0:Hp}{B:List Bx}{α:Type}(i t j:Nat)(l:List α)(f:α->List Value)(sz:Nat)(d:α)(e:Nat)(v:Value)(s:St w0 h0 w h B)(D:(dX n ops k0 AL L i t && aZ Γ (am ops i) && iX ops k0 i)=true)(y:be ops Γ (am ops i)=some true)
  (o:(av B j).b ∉ M.l)(p:decide (j<B.length)=true)(hB:(av B j).vs=l.flatMap f)(hf:∀ x,(f x).length=sz)(hk:e<l.length)
  (z:cl P (execOp (ev Γ) (am ops i)) (f (l.getD e d))=some (.value v,k8 (av B j).b (0+e*sz) (f (l.getD e d)).length))
  (k:EG M P n N R X ops k0 hr AL (L.setIfInBounds i true) ((t,v)::Γ) w h):EG M P n N R X ops k0 hr AL L Γ w h :=
 Rg.load i t v D y (fun w' C=>cZ _ _ _ _ z (fun q a u ha c=>by
  rw[fh _ _ _ _ _ ha,((s.own _ (bp (oT p))).mo C o).cell,hB];rw[<-fP hf d l e hk] at c
  have hq:q<sz:=by
   rcases ea q sz with hl|hl
   ·exact hl
   ·rw[tv (by simp;omega)] at c;cases c
  rw[yh hq,yy] at c
  rw[Ab];exact c)) k
theorem LG.ownA {w0:World}{h0:Hp}{B:List Bx}{α:Type}{k:Nat}(t j:Nat)(l:List α)(f:α->List Value)(sz:Nat)(d:α)(e:Nat)(v:Value)(s:St w0 h0 w h B)(y:(io ops Γ k && ((am ops k).dst == some t) && decide (t<n))=true)(o:be ops Γ (am ops k)=some true)
  (i:decide (j<B.length)=true)(hB:(av B j).vs=l.flatMap f)(hf:∀ x,(f x).length=sz)(hk:e<l.length)
  (p:cl P (execOp (ev Γ) (am ops k)) (f (l.getD e d))=some (.value v,k8 (av B j).b (0+e*sz) (f (l.getD e d)).length))
  (H:LG P n N R X ops (k+1) ((t,v)::Γ) w):LG P n N R X ops k Γ w :=
 LG.val t v w y o (cZ _ _ _ _ p (fun q a u ha c=>by
  rw[fh _ _ _ _ _ ha,(s.own _ (bp (oT i))).cell,hB];rw[<-fP hf d l e hk] at c
  have hq:q<sz:=by
   rcases ea q sz with hl|hl
   ·exact hl
   ·rw[tv (by simp;omega)] at c;cases c
  rw[yh hq,yy] at c
  rw[Ab];exact c)) H
theorem LG.arr {w0:World}{h0:Hp}{B:List Bx}{k:Nat}(t:Nat)(ty:TypeId)(m:Nat)(vs:List Value)(s:St w0 h0 w h B)(d:(io ops Γ k && ((am ops k).dst == some t) && decide (t<n))=true)(c:be ops Γ (am ops k)=some true)
  (a:(execOp (ev Γ) (am ops k)).run P w=.ok (.value (.slice (some ⟨w.heap.size,0,none⟩) m m)) (w.alloc (.cells vs.toArray ty (0,0))))
  (H:∀ b w' h',h.size<=b->Up w h w' h'->St w0 h0 w' h' (⟨b,ty,vs⟩::B)->LG P n N R X ops (k+1) ((t,.slice (some ⟨b,0,none⟩) m m)::Γ) w'):LG P n N R X ops k Γ w:=by
 have u:Up w h (w.alloc (.cells vs.toArray ty (0,0))) (h.push bc):=Up.allocAny s.g _ _ (.inr rfl);refine LG.val t _ _ d c a (H _ _ _ (by rw[s.g.size];exact ep _) u (St.new1 (x:=⟨0,0,.cells vs.toArray ty (0,0)⟩) s (s.step u) ⟨?_,?_,?_⟩ ty vs rfl))
 ·rw[heap_alloc];exact gg
 ·rw[s.g.size];exact gg
 ·show h.size<=w.heap.size;rw[s.g.size];exact ep _
def gK (B:List Bx)(j:Nat)(vs:List Value):List Bx:=B.set j { av B j with vs:=vs }
theorem LG.putA {w0:World}{h0:Hp}{B:List Bx}{α:Type}{k:Nat}(j:Nat)(l:List α)(f:α->List Value)(sz e:Nat)(x:α)(s:St w0 h0 w h B)(y:G w0 h0)(D:(io ops Γ k && ((am ops k).dst == none))=true)(z:be ops Γ (am ops k)=some true)
  (u:decide (j<B.length)=true)(hB:(av B j).vs=l.flatMap f)(hf:∀ x,(f x).length=sz)(hk:e<l.length)
  (C:dK P (execOp (ev Γ) (am ops k))=some (.skip,lm (av B j).b (0+e*sz) (f x)))
  (H:∀ w',Put (av B j).b w w'->St w0 h0 w' h (gK B j ((l.set e x).flatMap f))->LG P n N R X ops (k+1) Γ w'):LG P n N R X ops k Γ w:=by
 have i:=oT u
 have p:(0+e*sz)+(f x).length<=(av B j).vs.length:=by
  rw[hB,bV hf,hf,Ab,<-zh];exact Af _ hk
 obtain ⟨w',o,a,d⟩:=fQ _ _ _ _ _ w C (s.own _ (bp i)) p;have c:=s.put y i a d;refine LG.store w' D z o (H w' a ?_)
 unfold gJ at c
 rw[hB,Ab,jC hf l e x hk] at c
 exact c
theorem T.putA {w0:World}{h0:Hp}{B:List Bx}{α:Type}(i j:Nat)(l:List α)(f:α->List Value)(sz e:Nat)(x:α)(s:St w0 h0 w h B)(C:G w0 h0)(I:(g7 ops k0 L i && aZ Γ (am ops i) && ((am ops i).dst == none))=true)(D:be ops Γ (am ops i)=some true)
  (y:decide (j<B.length)=true)(hB:(av B j).vs=l.flatMap f)(hf:∀ x,(f x).length=sz)(hk:e<l.length)
  (F:dK P (execOp (ev Γ) (am ops i))=some (.skip,lm (av B j).b (0+e*sz) (f x)))
  (H:∀ w',Put (av B j).b w w'->St w0 h0 w' h (gK B j ((l.set e x).flatMap f))->AG M P n N R X ops k0 (L.setIfInBounds i true) Γ w')(hz:∀ K bs,M.z=some (K,bs)->K<=(av B j).b\/(av B j).b∈bs:=by intro _ _ e;cases e):AG M P n N R X ops k0 L Γ w:=by
 have o:=oT y
 have u:(0+e*sz)+(f x).length<=(av B j).vs.length:=by
  rw[hB,bV hf,hf,Ab,<-zh];exact Af _ hk
 obtain ⟨w',p,a,d⟩:=fQ _ _ _ _ _ w F (s.own _ (bp o)) u;have c:=s.put C o a d;refine T.store i w' I D p (a.tl hz) (H w' a ?_)
 unfold gJ at c
 rw[hB,Ab,jC hf l e x hk] at c
 exact c
end rows
theorem sN {a b:Int}(h:a=b):(a == b)=true:=by simpa using h
theorem eM {a b:Int}(h:a≠b):(a == b)=false:=by simpa using h
theorem AE {a b:Int}(h:a≠b):(a != b)=true:=by simpa using h
theorem JI {a b:Int}(h:a=b):(a != b)=false:=by simpa using h
theorem St.drop {w0:World}{h0:Hp}{w:World}{h:Hp}{B:List Bx}(s:St w0 h0 w h B)(k:Nat):St w0 h0 w h (B.drop k) :=
 ⟨s.up,fun x a=>s.own x (Ag a),fun x a=>s.jk x (Ag a),fun x a=>s.lo x (Ag a),s.nd.sublist ((Am k B).map (·.b))⟩
theorem aW {a b:Int}(h:(a != b)=false):a=b:=by simpa using h
theorem aN {a b:Int}(h:(a != b)=true):a≠b:=by simpa using h
theorem aj {a b:Int}(h:(a == b)=false):a≠b:=by simpa using h
theorem pJ {α:Type}{f:α->List Value}{b:α}{sz:Nat}(hf:(f b).length=sz)(a:0<sz):∀ (m i:Nat),i<m*sz->((As m b).flatMap f)[i]?=(f b)[i%sz]?
  | 0,i,h=>by simp at h
  | m + 1,i,h=>by
    rw[AS,y4]
    rcases ea i sz with hl|hl
    . rw[wj oM,A0 hl]
    . rw[yz oM,hf,pJ hf a m (i-sz) (by rw[zh] at h;omega)]
      congr 1
      rw[Nat.mod_eq_sub_mod hl]
theorem vp {α:Type}{f:α->List Value}{c:α}{z:Value}{sz m:Nat}(d:z.cells.toList=f c)(b:z.cells.size=sz)(a:0<sz):madeCells z.cells (m*sz)=((As m c).flatMap f).toArray:=by
 have hf:(f c).length=sz:=by rw[<-d];simpa using b
 apply Array.ext_getElem?
 intro i;rw[show ((As m c).flatMap f).toArray[i]?=((As m c).flatMap f)[i]? from by simp]
 rcases ea i (m*sz) with hl|hl
 ·rw[pJ hf a m i hl,<-d]
  have e:i%sz<z.cells.size:=by rw[b];exact Nat.mod_lt _ a
  simp only[madeCells,Array.getElem?_map,Array.getElem?_range,hl,if_true,ua,b,Array.getElem?_toList]
  rw[fo e,getElem!_pos z.cells (i%sz) e]
 ·rw[eb (by rw[size_madeCells];exact hl),tv]
  have:∀ m,((As m c).flatMap f).length=m*sz:=by
   intro m
   induction m with
   | zero=>simp
   | succ m ih=>rw[AS,y4,zY,ih,hf,zh];omega
  rw[this];exact hl
section ops
variable {P:Program} {Γ:bU} {o:Oper}
theorem Gc {t e:TypeId}{x ix:Operand}{A:Option Addr}{len b sz:Nat}{i:Int}(k:Nat)(u:o.op=.indexAddr t x ix)(p:ev Γ x=.slice A len b)(hi:ev Γ ix=.int .i64 i)
    (f:P.underlying t=some (.slice e))(c:(P.info? e).map (·.size)=some sz)(y:A=some ⟨aB A,aO A,none⟩)(hk:i=k)(l:k<len)(w:World) :
    (execOp (ev Γ) o).run P w=.ok (.value (.pointer (some ⟨aB A,aO A+k*sz,none⟩))) w:=by
  subst hk
  unfold execOp
  simp only[u]
  rw[p,hi];have d:P.elem t=e:=by unfold Program.elem;rw[f]
  have h1:=run_indexAt_slice (P:=P) w t ⟨aB A,aO A,none⟩ len b .i64 (k:Int) (by rw[d];exact f);rw[if_pos ⟨by omega,by omega⟩,d] at h1
  have h:(sizeOf e).run P w=.ok sz w:=by
    cases a:P.info? e with
    | none=>rw[a] at c;cases c
    | some i =>
      rw[a] at c
      simp at c
      simp[sizeOf,typeInfo,a,c]
  rw[h] at h1
  have j:((⟨aB A,aO A,none⟩:Addr).add ((k:Int).toNat*sz))=⟨aB A,aO A+k*sz,none⟩:=by
    unfold Addr.add
    simp only[A6]
    split
    . rename_i h0;rw[h0];rfl
    . rfl
  simp only[Result.andThen] at h1
  rw[j] at h1
  rw[<-y] at h1
  rw[Sem.run_bind,h1]
  rfl
theorem KA {t e:TypeId}{x y:Operand}{z:Value}{m sz d:Nat}{α:Type}{f:α->List Value}{j:α}(H:o.op=.makeSlice t x y)(F:ev Γ x=.int .i64 (m:Int))(l:ev Γ y=.int .i64 (m:Int))
    (u:P.underlying t=some (.slice e))(hi:(P.info? e).map (fun i=>(i.zero,i.size,i.bytes))=some (some z,sz,d))(h:z.cells.toList=f j)(c:z.cells.size=sz)(b:0<sz)(I:d*m<=140737488355328)(D:m<9223372036854775808)(w:World) :
    (execOp (ev Γ) o).run P w=.ok (.value (.slice (some ⟨w.heap.size,0,none⟩) m m)) (w.alloc (.cells ((As m j).flatMap f).toArray e (0,0))):=by
  cases a:P.info? e with
  | none=>rw[a] at hi;cases hi
  | some inf =>
    rw[a] at hi
    simp only[ua,Option.some.injEq,Prod.mk.injEq] at hi
    obtain ⟨h1,p,B⟩:=hi
    unfold execOp
    simp only[H]
    have C:(inf.bytes:Int)*(m:Int)<=281474976710656:=by
      rw[B];have:((d*m:Nat):Int)<=281474976710656:=by omega
      simpa using this
    rw[F,l,Sem.run_bind,run_make (P:=P) w t e inf z u a h1 .i64 .i64 (m:Int) (m:Int) oM oM C oM]
    simp only[Result.andThen,A6,p]
    rw[vp h c b]
    rfl
theorem KH {t e:TypeId}{x hi:Operand}{A:Option Addr}{len b:Nat}{i:Int}(k:Nat)(u:o.op=.slice t x none (some hi) none)(p:ev Γ x=.slice A len b)(h:ev Γ hi=.int .i64 i)
  (j:P.underlying t=some (.slice e))(l:(P.info? e).isSome=true)(hk:i=k)(f:k<=b)(w:World) :
  (execOp (ev Γ) o).run P w=.ok (.value (.slice A k b)) w:=by
 subst hk;obtain ⟨d,c⟩:=oi.1 l
 unfold execOp
 simp only[u,A9,ua]
 rw[p,h];have e0:∀ a:Addr,a.add 0=a:=fun a=>by unfold Addr.add;simp
 have e1:A.map (fun a=>a.add (0*d.size))=A:=by cases A<;>simp[e0]
 simp[Instr.sliceAt,Instr.slice,Instr.sliceBounds,Instr.sliceBound,run_underlying j,asIntOf,sizeOf,typeInfo,c,Result.andThen,f]
 intro _;cases A<;>simp[e0]
theorem GY {t e:TypeId}{x d:Operand}{A:Option Addr}{len b sz:Nat}{i:Int}(k:Nat)(p:o.op=.slice t x (some d) none none)(l:ev Γ x=.slice A len b)(f:ev Γ d=.int .i64 i)
    (j:P.underlying t=some (.slice e))(c:(P.info? e).map (·.size)=some sz)(hk:i=k)(h:k<=len)(w:World) :
    (execOp (ev Γ) o).run P w=.ok (.value (.slice (if b=k then A else A.map (·.add (k*sz))) (len-k) (b-k))) w:=by
  subst hk;cases a:P.info? e with
  | none=>rw[a] at c;cases c
  | some inf =>
    rw[a] at c
    simp at c
    unfold execOp
    simp only[p,A9,ua]
    rw[l,f]
    simp[Instr.sliceAt,Instr.slice,Instr.sliceBounds,Instr.sliceBound,run_underlying j,asIntOf,sizeOf,typeInfo,a,Result.andThen,h,c]
end ops
def CD (z:Int):List Value:=[.int .i64 z]
abbrev Si (A:Option Addr)(l:List Int):Hp->Prop:=fun h_=>SlO 1 CD 0 h_ A l
structure Gro (h0:Hp) (B:List Nat) (w:World) (h:Hp) (ty:TypeId) (sz:Nat) (v:Value) (n:Nat) (cs:List Value):Prop where
  own:w.ownsRow h0.size ty sz v n cs
  jk:∀ b,v.ownBlock=some b->h[b]?=some bc
  ap:∀ b,v.ownBlock=some b->b ∉ B
section gro
variable {h0:Hp} {B:List Nat} {w:World} {h:Hp} {ty:TypeId} {sz:Nat} {v:Value} {n:Nat} {cs:List Value}
theorem Gro.nil:Gro h0 B w h ty sz (.slice none 0 0) 0 []:=⟨World.ownsRow_nil _ _ _ _,fun b a=>by simp[Value.ownBlock] at a,fun b a=>by simp[Value.ownBlock] at a⟩
theorem em {base:Nat}(o:w.ownsRow base ty sz v n cs){w':World}(a:∀ b,v.ownBlock=some b->w'.heap[b]?=w.heap[b]?):w'.ownsRow base ty sz v n cs:=by
 rcases o with ⟨h1,h2|⟨g,cap,cur,hv,hb',hg,hn,hm,hs,ht⟩⟩
 ·exact ⟨h1,.inl h2⟩
 ·exact ⟨h1,.inr ⟨g,cap,cur,hv,hb',(a g (by rw[hv];rfl)).trans hg,hn,hm,hs,ht⟩⟩
theorem Gro.lt (r:Gro h0 B w h ty sz v n cs){b:Nat}(a:v.ownBlock=some b):b<h.size:=aJ (r.jk b a)
theorem jF {base:Nat}(o:w.ownsRow base ty sz v n cs){b:Nat}(a:v.ownBlock=some b):b<w.heap.size:=by
 rcases o with ⟨_,⟨rfl,_⟩|⟨g,cap,cur,rfl,_,hg,_⟩⟩
 ·simp[Value.ownBlock] at a
 ·simp[Value.ownBlock] at a
  subst a
  rcases ea g w.heap.size with hl|hl
  ·exact hl
  ·rw[eb hl] at hg;cases hg
theorem Gro.up (r:Gro h0 B w h ty sz v n cs){w':World}{h':Hp}(u:Up w h w' h'):Gro h0 B w' h' ty sz v n cs :=
 ⟨em r.own (fun b a=>Below.block u.ext b (jF r.own a)),fun b a=>(u.gr.blk b (r.lt a)).trans (r.jk b a),r.ap⟩
theorem Gro.put (r:Gro h0 B w h ty sz v n cs){w':World}{b:Nat}(p:Put b w w')(a:b∈B):Gro h0 B w' h ty sz v n cs :=
 ⟨em r.own (fun c d=>p.blk c (fun e=>r.ap c d (e▸a))),r.jk,r.ap⟩
theorem Gro.new (r:Gro h0 B w h ty sz v n cs)(b:Nat)(d:∀ c,v.ownBlock=some c->c≠b):Gro h0 (b::B) w h ty sz v n cs :=
 ⟨r.own,r.jk,fun c a f=>by
  rcases g4.1 f with e|e
  ·exact d c a e
  ·exact r.ap c a e⟩
theorem Gro.sub (r:Gro h0 B w h ty sz v n cs)(B':List Nat)(a:∀ b∈B',b∈B):Gro h0 B' w h ty sz v n cs:=⟨r.own,r.jk,fun b c d=>r.ap b c (a b d)⟩
theorem Gro.out (r:Gro h0 B w h ty sz v n cs){h':Hp}{b:Nat}(d:b∈B)(f:∀ c,c≠b->h'[c]?=h[c]?):Gro h0 B w h' ty sz v n cs :=
 ⟨r.own,fun c a=>(f c (fun e=>r.ap c a (e▸d))).trans (r.jk c a),r.ap⟩
theorem Gro.app (r:Gro h0 B w h ty sz v n cs){w':World}{h':Hp}{row:Option Nat}(f:w.grownBy w' row)(d:Gr h h')(c:∀ b,v.ownBlock=some b->row≠some b):Gro h0 B w' h' ty sz v n cs :=
 ⟨em r.own (fun b a=>f.block b (jF r.own a) (fun e=>c b a e.symm)),fun b a=>(d.blk b (r.lt a)).trans (r.jk b a),r.ap⟩
theorem xw {w0:World}{B':List Bx}{w':World}(s:St w0 h0 w h B')(p:G w0 h0)(r:Gro h0 (B'.map (·.b)) w h ty sz v n cs)(c:w.grownBy w' v.ownBlock):∃ h',Gr h h'/\St w0 h0 w' h' B'/\∀ b,h.size<=b->b<w'.heap.size->h'[b]?=some bc:=by
  have i:∀ b,v.ownBlock=some b->h0.size<=b:=by
    intro b a
    rcases r.own with ⟨_,⟨rfl,_⟩|⟨g,cap,cur,rfl,hbb,_⟩⟩
    . simp[Value.ownBlock] at a
    . simp[Value.ownBlock] at a;omega
  have l:=s.g.size;have j:=c.size;have d:Gr h (h++tj (w'.heap.size-h.size) bc):=⟨by simp,fun b a=>tw a⟩;refine ⟨h++tj (w'.heap.size-h.size) bc,d,⟨⟨⟨c.os.trans s.up.ext.os,c.tape.trans s.up.ext.tape,c.output.trans s.up.ext.output,e4 s.up.ext.size j,fun b a=>?_⟩,s.up.gr.trans d,⟨by simp;omega,fun b=>?_⟩⟩,?_,?_,s.lo,s.nd⟩,?_⟩
  . rw[c.block b (e5 a s.up.ext.size) (fun e=>by have:=i b e.symm;rw[p.size] at a;omega)]
    exact Below.block s.up.ext b a
  . rcases ea b h.size with a|a
    . rw[tw a]
      by_cases e:v.ownBlock=some b
      . exact .inr (r.jk b e)
      . rw[c.block b oM (fun o=>e o.symm)];exact s.g.blk b
    . by_cases hl:b<w'.heap.size
      . right
        rw[Bs a,Dw,if_pos oM]
      . left
        rw[eb (by simp;omega),eb oM]
  . intro x f
    show w'.heap[x.b]?=_
    rw[c.block x.b (s.own x f).lt (fun e=>r.ap x.b e.symm (g1.2 ⟨x,f,rfl⟩))];exact s.own x f
  . intro x f
    rw[d.blk _ (aJ (s.jk x f))];exact s.jk x f
  . intro b h1 u
    rw[Bs h1,Dw,if_pos oM]
def Apart (v u:Value):Prop:=∀ b,v.ownBlock=some b->u.ownBlock≠some b
theorem Apart.symm {v u:Value}(h:Apart v u):Apart u v:=fun b a hv=>h b hv a
theorem Apart.grown {v v' u:Value}(h:Apart v u)(c:v'.ownBlock=v.ownBlock\/v'.ownBlock=some w.heap.size)(d:∀ b,u.ownBlock=some b->b<w.heap.size):Apart v' u:=fun b hv a=>by
 rcases c with e|e
 ·exact h b (e▸hv) a
 ·rw[e] at hv
  injection hv with hv
  have:=d b a
  omega
theorem Apart.nil {u:Value}:Apart (.slice none 0 0) u:=fun b a=>by simp[Value.ownBlock] at a
end gro
section app
variable {P:Program} {n:Nat} {N R:Po} {X:Nat->Po} {ops:Array Oper} {k0:Nat} {hr:Hp} {AL:List Al} {L:Array Bool} {Γ:bU} {w:World} {h:Hp} {w0:World} {h0:Hp} {B:List Bx}
theorem lc {o:Oper}{x y:Operand}{t e:TypeId}{z:Value}{sz D m m2 c:Nat}{v:Value}{cs news:List Value}{a:Addr}(O:o.op=.call { callee:=.builtin .append,args:=#[x,y],argTypes:=#[t,t] })
    (M:ev Γ x=v)(F:ev Γ y=.slice (some a) m2 c)(I:P.underlying t=some (.slice e))(hi:(P.info? e).map (fun i=>(i.zero,i.size,i.bytes))=some (some z,sz,D))(C:z.cells.size=sz)(l:0<sz)
    (s:St w0 h0 w h B)(r:Gro h0 (B.map (·.b)) w h e sz v m cs)(Q:news.length=m2*sz)(f:∀ j u,news[j]?=some u->w.cell? (a.add j)=some u)(h1:∀ u∈news,u.oneCell'=true)
    (W:m+m2<=1099511627776)(K:(m+m2)*D<=140737488355328) :
    ∃ v' w',(execOp (ev Γ) o).run P w=.ok (.value v') w'/\w'.ownsRow h0.size e sz v' (m+m2) (cs++news)/\w.grownBy w' v.ownBlock/\(v'.ownBlock=v.ownBlock\/v'.ownBlock=some w.heap.size):=by
  cases d:P.info? e with
  | none=>rw[d] at hi;cases hi
  | some inf =>
    rw[d] at hi
    simp only[ua,Option.some.injEq,Prod.mk.injEq] at hi
    obtain ⟨i1,S,L⟩:=hi;obtain ⟨v',w',p,H,J,V,U⟩:=run_append_own_at (P:=P) w h0.size t o.type e inf z sz D I d i1 S L C l v m cs r.own a m2 c news Q f h1 (by unfold maxLen;omega) K (by rw[s.g.size];exact s.sz);refine ⟨v',w',?_,H,J,U⟩
    unfold execOp
    simp only[O,resolve,invoke,builtin,Sem.run_bind,Sem.run_pure,Result.andThen_ok,D0,D1,D2,M,F,p]
theorem Gro.grown {ty:TypeId}{sz m m2:Nat}{v v':Value}{cs news:List Value}{w':World}{h':Hp}(s:St w0 h0 w h B)(r:Gro h0 (B.map (·.b)) w h ty sz v m cs)(f:w'.ownsRow h0.size ty sz v' (m+m2) (cs++news))(d:v'.ownBlock=v.ownBlock\/v'.ownBlock=some w.heap.size)(o:Gr h h')(i:∀ b,h.size<=b->b<w'.heap.size->h'[b]?=some bc) :
  Gro h0 (B.map (·.b)) w' h' ty sz v' (m+m2) (cs++news):=by
 have c:∀ b,v'.ownBlock=some b->b<w'.heap.size:=by
  intro b a
  rcases f with ⟨_,⟨rfl,_⟩|⟨g,cap,cur,rfl,_,hg,_⟩⟩
  ·simp[Value.ownBlock] at a
  ·simp[Value.ownBlock] at a
   subst a
   rcases ea g w'.heap.size with hl|hl
   ·exact hl
   ·rw[eb hl] at hg;cases hg
 refine ⟨f,fun b a=>?_,fun b a=>?_⟩
 ·rcases d with e|e
  ·rw[e] at a;rw[o.blk b (r.lt a)];exact r.jk b a
  ·have:b=w.heap.size:=by rw[e] at a;injection a with a;exact a.symm
   exact i b (by rw[this,s.g.size];exact ep _) (c b a)
 ·rcases d with e|e
  ·rw[e] at a;exact r.ap b a
  ·have:b=w.heap.size:=by rw[e] at a;injection a with a;exact a.symm
   intro u;obtain ⟨x,l,j⟩:=g1.1 u;have:=(s.own x l).lt;have p:x.b=b:=j
   omega
theorem j5 {b:Nat}{news:List Value}(g:G w h)(sg:Seg h b 0 news):∀ j u,news[j]?=some u->w.cell? ((⟨b,0,none⟩:Addr).add j)=some u:=by
 intro j u a;have:=kW g (sg j u a)
 unfold Addr.add
 split
 ·rename_i h0;subst h0;exact this
 ·exact this
end app
theorem UpM.put {M:List Nat}{w0 w w':World}{h0 h:Hp}{b:Nat}(u:UpM M w0 h0 w h)(p:Put b w w')(a:b∈M)(g:G w' h):UpM M w0 h0 w' h :=
 ⟨⟨p.os.trans u.mo.os,p.tape.trans u.mo.tape,p.output.trans u.mo.output,by rw[p.size];exact u.mo.size,fun c d hn=>(p.blk c (fun e=>hn (e▸a))).trans (u.mo.blk c d hn)⟩,u.gr,g⟩
theorem St.at_ {w:World}{h:Hp}{rb:Nat}{t:TypeId}{vs:List Value}(g:G w h)(o:Own w rb t vs)(j:h[rb]?=some bc):∃ w0 h0,G w0 h0/\St w0 h0 w h [⟨rb,t,vs⟩]:=by
 have e:=aJ j;have f:=g.size;refine ⟨{ w with heap:=w.heap.extract 0 rb },h.extract 0 rb,⟨by simp;omega,fun b=>?_⟩,⟨⟨⟨rfl,rfl,rfl,by simp;omega,fun b c=>?_⟩,⟨by simp;omega,fun b c=>?_⟩,g⟩,?_,?_,?_,by simp⟩⟩
 ·show (h.extract 0 rb)[b]?=(w.heap.extract 0 rb)[b]?\/_
  rw[Ft,Ft]
  by_cases c:b<rb
  ·rw[if_pos oM,if_pos oM];simpa using g.blk b
  ·rw[if_neg oM,if_neg oM];exact .inl rfl
 ·have d:b<rb:=by have:b<(w.heap.extract 0 rb).size:=c;simp at this;omega
  show w.heap[b]?=(w.heap.extract 0 rb)[b]?
  rw[Ft,if_pos oM];simp
 ·have d:b<rb:=by simp at c;omega
  rw[Ft,if_pos oM];simp
 ·intro x a;rw[te] at a;subst a;exact o
 ·intro x a;rw[te] at a;subst a;exact j
 ·intro x a;rw[te] at a;subst a;simp;omega
def eP (rb:Nat)(w0:World)(h0:Hp)(Φ:Value->World->Hp->Prop):Ending->World->Prop:=fun e w'=>∃ v h',e=.returned v/\UpM [rb] w0 h0 w' h'/\Φ v w' h'
section
variable {P:Program} {n:Nat} {Γ:bU} {w:World} {h:Hp} {w0 wz:World} {h0 hz:Hp} {B:List Bx}
theorem retM {c:Func}{rb:Nat}{Φ:Value->World->Hp->Prop}(s:St wz hz w h B)(e:UpM [rb] w0 h0 w h)(ps:List (Nat × Nat × Nat))(v:Value)(hk:(oK c Γ && dj B ps)=true)(f:cl P (qD c Γ) (dQ B ps)=some (v,cM B ps))(b:Φ v w h) :
  ∀ a,Kn n a Γ->pf P c (eP rb w0 h0 Φ) a w:=by
 intro a d;rw[na] at hk
 refine ⟨d.df.trans (tS hk.1),v,?_,v,h,rfl,e,b⟩;rw[kK d hk.1];exact cZ _ _ _ _ f (fq s.own ps hk.2)
theorem St.stepM (s:St w0 h0 w h B)(M:G w0 h0){j:Nat}{vs:List Value}{w':World}{h':Hp}(o:j<B.length)(u:UpM [(av B j).b] w h w' h')(O:Own w' (av B j).b (av B j).t vs):St w0 h0 w' h' (gK B j vs):=by
  have C:=bp o;have L:=s.lo _ C
  have p:(gK B j vs).map (·.b)=B.map (·.b):=by
    unfold gK
    rw[ul]
    apply um
    intro i
    by_cases e:j=i
    . subst e
      rw[uA (by simpa using o)]
      simp[av,o]
    . rw[u9 e]
  have H:Up w0 h0 w' h':=by
    refine ⟨⟨u.mo.os.trans s.up.ext.os,u.mo.tape.trans s.up.ext.tape,u.mo.output.trans s.up.ext.output,e4 s.up.ext.size u.mo.size,fun c I=>?_⟩,s.up.gr.trans u.gr,u.g⟩;rw[u.mo.blk c (e5 I s.up.ext.size) (fun C=>by rw[te] at C;rw[M.size] at I;omega)];exact Below.block s.up.ext c I
  have a:∀ x∈gK B j vs,∃ y∈B,y.b=x.b:=by
    intro x f;have:x.b∈(gK B j vs).map (·.b):=g1.2 ⟨x,f,rfl⟩;rw[p] at this
    obtain ⟨y,l,d⟩:=g1.1 this;exact ⟨y,l,d⟩
  refine ⟨H,?_,?_,?_,by rw[p];exact s.nd⟩
  . intro x f
    obtain ⟨i,hi,d⟩:=vi.1 f;have z:i<B.length:=by simpa [gK] using hi
    by_cases e:j=i
    . subst e
      have:x={ av B j with vs:=vs }:=by rw[<-d];simp[gK]
      subst this;exact O
    . have D:x=B[i]:=by rw[<-d];simp[gK,e]
      subst D
      have J:B[i].b≠(av B j).b:=by
        intro F
        have h1:(B.map (·.b))[i]'(by simpa using z)=(B.map (·.b))[j]'(by simpa using o):=by
          simp only[vj]
          rw[F]
          simp[av,o]
        exact e ((vl s.nd).1 h1).symm
      have K:=s.own _ (gq z)
      show w'.heap[B[i].b]?=_
      rw[u.mo.blk _ K.lt (fun C=>J (te.1 C))];exact K
  . intro x f
    obtain ⟨y,l,d⟩:=a x f;rw[<-d,u.gr.blk _ (aJ (s.jk y l))];exact s.jk y l
  . intro x f
    obtain ⟨y,l,d⟩:=a x f;rw[<-d];exact s.lo y l
theorem Gro.upM {f:Hp}{d:List Nat}{ty:TypeId}{sz:Nat}{v:Value}{m:Nat}{cs:List Value}(r:Gro f d w h ty sz v m cs){w':World}{h':Hp}{b:Nat}(u:UpM [b] w h w' h')(i:b∈d):Gro f d w' h' ty sz v m cs :=
 ⟨em r.own (fun c a=>u.mo.blk c (jF r.own a) (fun e=>by rw[te] at e;exact r.ap c a (e▸i))),fun c a=>(u.gr.blk c (r.lt a)).trans (r.jk c a),r.ap⟩
theorem gt (s:St w0 h0 w h B){i j:Nat}(hi:decide (i<B.length)=true)(f:decide (j<B.length)=true)(e:(i == j)=false):(av B i).b≠(av B j).b:=by
 have c:=oT hi;have a:=oT f;intro d
 have h1:(B.map (·.b))[i]'(by simpa using c)=(B.map (·.b))[j]'(by simpa using a):=by
  simp only[vj]
  simpa [av,c,a] using d
 have:=(vl s.nd).1 h1;subst this
 simp at e
end
section pub
variable {h0:Hp} {B:List Nat} {w:World} {h:Hp} {ty:TypeId} {sz:Nat} {v:Value} {n:Nat} {cs:List Value}
theorem Gro.pub3 {w0:World}{B':List Bx}{A:Option Addr}{l a:Nat}(s:St w0 h0 w h B')(r:Gro h0 (B'.map (·.b)) w h ty sz (.slice A l a) n cs):∃ h',St w0 h0 w h' B'/\Gw h h'/\(∀ c,(Value.slice A l a).ownBlock≠some c->h'[c]?=h[c]?)/\l=n/\n<=a/\(0<n->A=some ⟨aB A,0,none⟩/\aO A=0)/\Seg h' (aB A) 0 cs:=by
  rcases r.own with ⟨h1,⟨e,rfl⟩|⟨b,cap',cur,e,hbb,hg,hn,hm,hs,ht⟩⟩
  . injection e with e1 e2 e3
    subst e1 e2 e3;have:cs=[]:=z6 (by simpa using h1);subst this;exact ⟨h,s,⟨ep _,fun _ _=>.inl rfl⟩,fun _ _=>rfl,rfl,ep _,fun h=>by omega,fun i v hv=>by simp at hv⟩
  . injection e with e1 e2 e3
    subst e1 e2 e3;have f:=r.jk b rfl;have j:=aJ f;have y:∀ x∈B',x.b≠b:=fun x o e=>r.ap b rfl (g1.2 ⟨x,o,e⟩)
    refine ⟨h.setIfInBounds b (.cells cur ty),⟨⟨s.up.ext,⟨by simp;exact s.up.gr.size,fun c p=>?_⟩,⟨by simp;exact s.up.g.size,fun c=>?_⟩⟩,s.own,?_,s.lo,s.nd⟩,⟨by simp,fun c p=>?_⟩,fun c p=>?_,rfl,hn,fun _=>⟨rfl,rfl⟩,?_⟩
    . rw[la oM];exact s.up.gr.blk c p
    . by_cases e:b=c
      . subst e;left;rw[FA j];exact hg.symm
      . rw[la e];exact s.up.g.blk c
    . intro x o
      rw[la (Ne.symm (y x o))];exact s.jk x o
    . by_cases e:b=c
      . subst e;exact .inr f
      . left;rw[la e]
    . rw[la (fun e=>p (by rw[<-e];rfl))]
    . intro i u d
      unfold d7
      show (match (h.setIfInBounds b (.cells cur ty))[b]? with|some (.cells c _ _)=>c[0+i]?|_=>none)=some u
      rw[FA j];rw[<-ht] at d
      have hi:i<l*sz:=by
        rcases ea i (l*sz) with hl|hl
        . exact hl
        . rw[tv (by simp;omega)] at d;cases d
      rw[yh hi] at d
      simpa using d
theorem Gro.pubo (r:Gro h0 B w h ty sz v n cs){h':Hp}{u:Value}(d:∀ c,u.ownBlock≠some c->h'[c]?=h[c]?)(e:Apart v u):Gro h0 B w h' ty sz v n cs:=⟨r.own,fun b a=>(d b (e b a)).trans (r.jk b a),r.ap⟩
theorem SlO.of_pub {α:Type}{f:α->List Value}{d:α}{l:List α}{A:Option Addr}(hf:∀ x,(f x).length=sz)(a:0<l.length->A=some ⟨aB A,0,none⟩/\aO A=0)(sg:Seg h (aB A) 0 (l.flatMap f)):SlO sz f d h A l:=by
 rcases Ga l.length with h0'|h0'
 ·have:l=[]:=z6 h0'
  subst this;exact SlO.nil
 ·obtain ⟨e1,e2⟩:=a h0'
  have:=SlO.of_flat (d:=d) hf sg;rw[<-e1] at this
  exact this
end pub
theorem St.pubX {w0:World}{h0:Hp}{w:World}{h:Hp}{B:List Bx}(s:St w0 h0 w h B)(j:Nat)(f:j<B.length):∃ h',St w0 h0 w h' (B.eraseIdx j)/\Gw h h'/\Seg h' (av B j).b 0 (av B j).vs/\h'[(av B j).b]?=some (.cells (av B j).vs.toArray (av B j).t (0,0))/\∀ c,c≠(av B j).b->h'[c]?=h[c]?:=by
 have C:=bp f;have D:=s.own _ C;have o:=s.jk _ C;have d:=aJ o
 have z:∀ x∈B.eraseIdx j,x.b≠(av B j).b:=by
  intro x a;obtain ⟨i,hi,u⟩:=vi.1 a;rw[Gb] at u
  intro l;have p:=s.nd;have e0:(av B j)=B[j]:=by unfold av;simp[f]
  split at u
  ·rename_i H
   have:(B.map (·.b))[i]'(by simp;omega)=(B.map (·.b))[j]'(by simpa using f):=by simp only[vj];rw[u,l,e0]
   have:=(vl p).1 this
   omega
  ·rename_i H
   have y:i+1<B.length:=by rw[Gx f] at hi;omega
   have:(B.map (·.b))[i+1]'(by simpa using y)=(B.map (·.b))[j]'(by simpa using f):=by simp only[vj];rw[u,l,e0]
   have:=(vl p).1 this
   omega
 refine ⟨h.setIfInBounds (av B j).b (.cells (av B j).vs.toArray (av B j).t (0,0)),⟨⟨s.up.ext,⟨by simp;exact s.up.gr.size,fun b l=>?_⟩,⟨by simp;exact s.up.g.size,fun b=>?_⟩⟩,?_,?_,?_,?_⟩,⟨by simp,fun b l=>?_⟩,?_,FA d,fun c F=>la (Ne.symm F)⟩
 ·have:=s.lo _ C
  rw[la oM];exact s.up.gr.blk b l
 ·by_cases e:(av B j).b=b
  ·subst e
   left
   rw[FA d];exact D.symm
  ·rw[la e];exact s.up.g.blk b
 ·exact fun x a=>s.own x (G1 a)
 ·intro x a
  rw[la (Ne.symm (z x a))];exact s.jk x (G1 a)
 ·exact fun x a=>s.lo x (G1 a)
 ·exact s.nd.sublist ((Hi B j).map (·.b))
 ·by_cases e:(av B j).b=b
  ·subst e;exact .inr o
  ·left;rw[la e]
 ·intro i v hv
  unfold d7
  rw[FA d]
  simpa using hv
structure Rw where
  ty:TypeId
  sz:Nat
  A:Option Addr
  c:Nat
  n:Nat
  cs:List Value
  deriving Inhabited
def Rw.v (r:Rw):Value:=.slice r.A r.n r.c
def AllF:List (Hp->Prop)->Hp->Prop
  | [],_=>True
  | p::l,h=>p h/\AllF l h
theorem AllF.q {a b c d:Hp->Prop}{F:List (Hp->Prop)}{h:Hp}(x:AllF (a::b::c::d::F) h):AllF F h:=x.2.2.2.2
theorem AllF.r {a b:Hp->Prop}{F:List (Hp->Prop)}{h:Hp}(x:AllF (a::b::F) h):AllF F h:=x.2.2
theorem AllF.gw:∀ {F:List (Hp->Prop)} {h h':Hp},(∀ p∈F,∀ h h',Gw h h'->p h->p h')->Gw h h'->AllF F h->AllF F h'
 | [],_,_,_,_,_=>trivial
 | p::_,_,_,m,u,x=>⟨m p (by simp) _ _ u x.1,AllF.gw (fun q hq=>m q (by simp[hq])) u x.2⟩
structure SS (w0:World) (h0:Hp) (w:World) (h:Hp) (B:List Bx) (R:List Rw) (F:List (Hp->Prop)):Prop where
  g0:G w0 h0
  st:St w0 h0 w h B
  ro:∀ r∈R,Gro h0 (B.map (·.b)) w h r.ty r.sz r.v r.n r.cs
  ap:R.Pairwise (fun r s=>Apart r.v s.v)
  mo:∀ p∈F,∀ h h',Gw h h'->p h->p h'
  f:AllF F h
section ss
variable {w0:World} {h0:Hp} {w:World} {h:Hp} {B:List Bx} {R:List Rw} {F:List (Hp->Prop)}
theorem SS.start (g:G w h):SS w h w h [] [] []:=⟨g,St.start g,fun _ a=>(by cases a),.nil,fun _ a=>(by cases a),trivial⟩
theorem SS.g (s:SS w0 h0 w h B R F):G w h:=s.st.g
theorem SS.step (s:SS w0 h0 w h B R F){w':World}{h':Hp}(u:Up w h w' h'):SS w0 h0 w' h' B R F :=
 ⟨s.g0,s.st.step u,fun r hr=>(s.ro r hr).up u,s.ap,s.mo,s.f.gw s.mo u.gr.gw⟩
theorem SS.add (s:SS w0 h0 w h B R F){K:Hp->Prop}(x:K h)(m:∀ h h',Gw h h'->K h->K h':=by intro _ _ u x;exact x.gw u):SS w0 h0 w h B R (K::F) :=
 ⟨s.g0,s.st,s.ro,s.ap,fun p a=>by
  rcases g4.1 a with rfl|a
  ·exact m
  ·exact s.mo p a,x,s.f⟩
theorem SS.a_SlO {α:Type}{sz:Nat}{f:α->List Value}{d:α}{A:Option Addr}{l:List α}(s:SS w0 h0 w h B R F)(x:SlO sz f d h A l):SS w0 h0 w h B R ((fun h=>SlO sz f d h A l)::F):=s.add (K:=fun h=>SlO sz f d h A l) x
theorem SS.a_Seg {b o:Nat}{cs:List Value}(s:SS w0 h0 w h B R F)(x:Seg h b o cs):SS w0 h0 w h B R ((fun h=>Seg h b o cs)::F):=s.add (K:=fun h=>Seg h b o cs) x
theorem SS.tl {K:Hp->Prop}(s:SS w0 h0 w h B R (K::F)):SS w0 h0 w h B R F:=⟨s.g0,s.st,s.ro,s.ap,fun p a=>s.mo p (List.mem_cons_of_mem _ a),s.f.2⟩
theorem SS.nil (s:SS w0 h0 w h B R F)(ty:TypeId)(sz:Nat):SS w0 h0 w h B (⟨ty,sz,none,0,0,[]⟩::R) F :=
 ⟨s.g0,s.st,fun r hr=>by
  rcases g4.1 hr with rfl|hr
  ·exact Gro.nil
  ·exact s.ro r hr,Hj.2 ⟨fun _ _=>Apart.nil,s.ap⟩,s.mo,s.f⟩
theorem SS.to (s:SS w0 h0 w h B R F)(B':List Bx)(R':List Rw)(e:B=B':=by kernel_rfl)(e2:R=R':=by kernel_rfl):SS w0 h0 w h B' R' F:=e▸e2▸s
theorem oz {j o:Nat}{cs:List Value}(a:j<B.length):(gJ B j o cs).map (·.b)=B.map (·.b):=by
 unfold gJ
 rw[ul]
 apply um
 intro i
 by_cases e:j=i
 ·subst e
  rw[uA (by simpa using a)]
  simp[av,a]
 ·rw[u9 e]
theorem kB {j:Nat}{vs:List Value}(a:j<B.length):(gK B j vs).map (·.b)=B.map (·.b):=by
 unfold gK
 rw[ul]
 apply um
 intro i
 by_cases e:j=i
 ·subst e
  rw[uA (by simpa using a)]
  simp[av,a]
 ·rw[u9 e]
theorem SS.put0 (s:SS w0 h0 w h B R F){j:Nat}{B':List Bx}{w':World}(c:j<B.length)(p:Put (av B j).b w w')(a:St w0 h0 w' h B')(e:B'.map (·.b)=B.map (·.b)):SS w0 h0 w' h B' R F :=
 ⟨s.g0,a,fun r hr=>by rw[e];exact (s.ro r hr).put p (g1.2 ⟨_,bp c,rfl⟩),s.ap,s.mo,s.f⟩
theorem SS.new (s:SS w0 h0 w h B R F){w':World}{h':Hp}(u:Up w h w' h'){b:Nat}{ty:TypeId}{vs:List Value}(i:h.size<=b)(a:St w0 h0 w' h' (⟨b,ty,vs⟩::B)):SS w0 h0 w' h' (⟨b,ty,vs⟩::B) R F :=
 ⟨s.g0,a,fun r hr=>((s.ro r hr).up u).new b (fun c d e=>by have:=(s.ro r hr).lt d;omega),s.ap,s.mo,s.f.gw s.mo u.gr.gw⟩
theorem SS.stepM (s:SS w0 h0 w h B R F)(j:Nat){rb:Nat}{vs:List Value}{w':World}{h':Hp}(u:UpM [rb] w h w' h')(c:Own w' rb (av B j).t vs)(d:decide (j<B.length)=true:=by kernel_rfl)(e:(av B j).b=rb:=by kernel_rfl):SS w0 h0 w' h' (gK B j vs) R F:=by
 subst e;have a:=oT d;exact ⟨s.g0,s.st.stepM s.g0 a u c,fun r hr=>by rw[kB a];exact (s.ro r hr).upM u (g1.2 ⟨_,bp a,rfl⟩),s.ap,s.mo,s.f.gw s.mo u.gr.gw⟩
theorem SS.drop (s:SS w0 h0 w h B R F)(k m:Nat):SS w0 h0 w h (B.drop k) (R.drop m) F :=
 ⟨s.g0,s.st.drop k,fun r hr=>(s.ro r (Ag hr)).sub _ (fun b a=>by
  obtain ⟨x,c,e⟩:=g1.1 a;exact g1.2 ⟨x,Ag c,e⟩),s.ap.sublist (Am _ _),s.mo,s.f⟩
theorem SS.own (s:SS w0 h0 w h B R F)(j:Nat)(a:decide (j<B.length)=true:=by kernel_rfl):Own w (av B j).b (av B j).t (av B j).vs:=s.st.own _ (bp (oT a))
theorem SS.jk (s:SS w0 h0 w h B R F)(j:Nat)(a:decide (j<B.length)=true:=by kernel_rfl):h[(av B j).b]?=some bc:=s.st.jk _ (bp (oT a))
theorem SS.pub (s:SS w0 h0 w h B R F)(j:Nat)(u:decide (j<B.length)=true:=by kernel_rfl):∃ h',SS w0 h0 w h' (B.eraseIdx j) R F/\Seg h' (av B j).b 0 (av B j).vs/\h0.size<=(av B j).b/\h'[(av B j).b]?=some (.cells (av B j).vs.toArray (av B j).t (0,0)):=by
 have a:=oT u;obtain ⟨h',l,gw,sg,p,c⟩:=s.st.pubX j a;have d:=bp a;refine ⟨h',⟨s.g0,l,fun r hr=>((s.ro r hr).out (g1.2 ⟨_,d,rfl⟩) c).sub _ (fun b i=>?_),s.ap,s.mo,s.f.gw s.mo gw⟩,sg,s.st.lo _ d,p⟩;obtain ⟨x,o,e⟩:=g1.1 i;exact g1.2 ⟨x,G1 o,e⟩
theorem SS.take (s:SS w0 h0 w h B R F){w':World}{h':Hp}(u:Up w h w' h'){b:Nat}{ty:TypeId}{vs:List Value}(z:h.size<=b)(f:h'[b]?=some (.cells vs.toArray ty (0,0)))(l:(ty == 0)=false:=by kernel_rfl) :
  ∃ i,SS w0 h0 w' i (⟨b,ty,vs⟩::B) R F/\(∀ c,c≠b->i[c]?=h'[c]?)/\Gr h i:=by
 have j:=aJ f;have o:Gr h (h'.setIfInBounds b bc):=⟨by simp;exact u.gr.size,fun c d=>by rw[la oM];exact u.gr.blk c d⟩
 have D:G w' (h'.setIfInBounds b bc):=⟨by simp;exact u.g.size,fun c=>by
  by_cases e:b=c
  ·subst e;right;rw[FA j]
  ·rw[la e];exact u.g.blk c⟩
 have p:Up w h w' (h'.setIfInBounds b bc):=⟨u.ext,o,D⟩
 have I:Own w' b ty vs:=by
  rcases u.g.blk b with e|e
  ·exact e.symm.trans f
  ·rw[e] at f
   injection f with f
   unfold bc at f
   injection f with h1 h2 h3
   rw[<-h2] at l
   cases l
 refine ⟨h'.setIfInBounds b bc,s.new p z ⟨s.st.up.trans p,?_,?_,?_,?_⟩,fun c d=>la (Ne.symm d),o⟩
 ·intro x a
  rcases g4.1 a with rfl|a
  ·exact I
  ·exact (s.st.own x a).ext u.ext
 ·intro x a
  rcases g4.1 a with rfl|a
  ·exact FA j
  ·rw[o.blk _ (aJ (s.st.jk x a))];exact s.st.jk x a
 ·intro x a
  rcases g4.1 a with rfl|a
  ·exact e4 s.st.sz z
  ·exact s.st.lo x a
 ·refine hO.2 ⟨fun K=>?_,s.st.nd⟩
  obtain ⟨y,C,H⟩:=g1.1 K;have:=aJ (s.st.jk y C);have J:y.b=b:=H
  omega
theorem SS.pubr (s:SS w0 h0 w h B R F)(j:Nat){ty:TypeId}{sz c:Nat}{A:Option Addr}{α:Type}{f:α->List Value}{l:List α}(d:α)(hf:∀ x,(f x).length=sz)(hr:R.getD j default=⟨ty,sz,A,c,l.length,l.flatMap f⟩:=by kernel_rfl)(H:decide (j<R.length)=true:=by kernel_rfl) :
  ∃ h',SS w0 h0 w h' B (R.eraseIdx j) ((fun h=>SlO sz f d h A l)::F)/\l.length<=c:=by
 have a:=oT H;have e0:R[j]=⟨ty,sz,A,c,l.length,l.flatMap f⟩:=by rw[<-hr];simp[a]
 have K:R[j]∈R:=gq a;have z:=s.ro _ K;rw[e0] at z
 obtain ⟨h',D,gw,J,_,I,hz,sg⟩:=Gro.pub3 s.st z
 have y:∀ r∈R.eraseIdx j,Apart r.v R[j].v:=by
  intro r hr;obtain ⟨i,hi,e⟩:=vi.1 hr;rw[Gb] at e
  have b:=HA.1 s.ap
  split at e
  ·rename_i C;rw[<-e];exact b i j oM a C
  ·rename_i C
   rw[<-e];have o:i+1<R.length:=by rw[Gx a] at hi;omega
   exact (b j (i+1) a o oM).symm
 refine ⟨h',⟨s.g0,D,fun r hr=>(s.ro r (G1 hr)).pubo J (by have:=y r hr;rw[e0] at this;exact this),s.ap.sublist (Hi R j),fun p b=>by
  rcases g4.1 b with rfl|b
  ·exact fun _ _ u x=>x.gw u
  ·exact s.mo p b,SlO.of_pub hf hz sg,s.f.gw s.mo gw⟩,I⟩
theorem SS.grown (s:SS w0 h0 w h B R F){j:Nat}(H:j<R.length){w':World}{v':Value}{m2:Nat}{news:List Value}(O:w'.ownsRow h0.size R[j].ty R[j].sz v' (R[j].n+m2) (R[j].cs++news))(L:w.grownBy w' R[j].v.ownBlock)(M:v'.ownBlock=R[j].v.ownBlock\/v'.ownBlock=some w.heap.size) :
    ∃ h' A c,v'=.slice A (R[j].n+m2) c/\Gr h h'/\SS w0 h0 w' h' B (R.set j ⟨R[j].ty,R[j].sz,A,c,R[j].n+m2,R[j].cs++news⟩) F:=by
  have V:R[j]∈R:=gq H;have r:=s.ro _ V;obtain ⟨h',z,Q,J⟩:=xw s.st s.g0 r L;have S:=r.grown s.st O M z J
  have K:∃ A c,v'=.slice A (R[j].n+m2) c:=by
    rcases O with ⟨_,⟨e,e2⟩|⟨g,cap,cur,e,_⟩⟩
    . exact ⟨none,0,by rw[e,e2]⟩
    . exact ⟨_,_,e⟩
  obtain ⟨A,c,e⟩:=K;subst e;have C:=HA.1 s.ap
  have d:∀ i (hi:i<R.length),i≠j->Apart R[j].v R[i].v:=fun i hi p=>by
    rcases H1 p with hl|hl
    . exact (C i j hi H hl).symm
    . exact C j i H hi hl
  have l:∀ i (hi:i<R.length),i≠j->Apart (.slice A (R[j].n+m2) c) R[i].v:=fun i hi p =>
    Apart.grown (w:=w) (d i hi p) M (fun b o=>jF (s.ro _ (gq hi)).own o)
  refine ⟨h',A,c,rfl,z,⟨s.g0,Q,?_,?_,s.mo,s.f.gw s.mo z.gw⟩⟩
  . intro x U
    obtain ⟨i,hi,y⟩:=vi.1 U;have a:i<R.length:=by simpa using hi
    by_cases e:j=i
    . subst e
      simp at y
      rw[<-y];exact S
    . rw[Lv e] at y
      rw[<-y];exact (s.ro _ (gq a)).app L z (fun b o I=>d i a (Ne.symm e) b I o)
  . refine HA.2 (fun i k hi hk D=>?_)
    have a:i<R.length:=by simpa using hi
    have u:k<R.length:=by simpa using hk
    by_cases e:j=i
    . subst e
      rw[Lw,Lv oM];exact l k u oM
    . by_cases e2:j=k
      . subst e2
        rw[Lw,Lv oM];exact (l i a oM).symm
      . rw[Lv e,Lv e2]
        exact C i k a u D
end ss
theorem SS.aS {α:Type}{sz:Nat}{f:α->List Value}{x:α}{A:Option Addr}{l:List α}{w0 w:World}{h0 h:Hp}{B:List Bx}{R:List Rw}{F:List (Hp->Prop)}(s:SS w0 h0 w h B R F)(p:SlO sz f x h A l):SS w0 h0 w h B R ((fun h=>SlO sz f x h A l)::F):=s.a_SlO p
theorem SS.aP {α β:Type}{sz a:Nat}{f:α->List Value}{x:α}{A:Option Addr}{l:List α}{g:β->List Value}{y:β}{D:Option Addr}{m:List β}{w0 w:World}{h0 h:Hp}{B:List Bx}{R:List Rw}{F:List (Hp->Prop)}(s:SS w0 h0 w h B R F)(p:SlO sz f x h A l)(q:SlO a g y h D m):SS w0 h0 w h B R ((fun h=>SlO a g y h D m)::(fun h=>SlO sz f x h A l)::F):=(s.a_SlO p).a_SlO q
section
variable {P:Program}{n:Nat}{N R:Po}{X:Nat->Po}{Γ:bU}{w:World}{h:Hp}
theorem cQ {x y:Code}(H:CG P n (fun a w=>y.wp P (iG N R X) a w) R X x Γ w):CG P n N R X (.seq x y) Γ w:=CG.seq H
theorem cK {y:Code}{N' R':Po}{X':Nat->Po}(H:CG P n N' R' X' y Γ w):CG P n (fun a w=>y.wp P (iG N' R' X') a w) R X .skip Γ w:=CG.skipN H
theorem kQ {id:Nat}{ops:Array Oper}(H:LG P n N R X ops 0 Γ w):CG P n N R X (.region id ops false) Γ w:=CG.listed H
theorem kZ {id:Nat}{c:Code}(H:CG P n N R (fun i=>if i=id then N else X i) c Γ w):CG P n N R X (.block id c) Γ w:=CG.block H
theorem kX (H:∀ a,Kn n a Γ->R a w):CG P n N R X .ret Γ w:=CG.ret H
theorem sS (g:G w h):SS w h w h [] [] []:=SS.start g
end
theorem nR (n:Nat):n<=n:=ep n
theorem gL {n:Int}(h0 : -9223372036854775808<=n)(h1:n<=9223372036854775807):IntKind.wrap .i64 n=n:=by rw[IntKind.wrap_i64];omega
def EC (P:Program)(ρ:Operand->Value)(o:Oper):Option (Value × Value × Nat) :=
  match o.op with
  | .indexAddr t x ix=>match P.underlying t with
    | some (.slice e)=>(P.info? e).map fun i=>(ρ x,ρ ix,i.size)
    | _=>none
  | _=>none
theorem im {P:Program}{Γ:bU}{o:Oper}{A:Option Addr}{len a sz:Nat}{i:Int}{k:Nat}(h:EC P (ev Γ) o=some (.slice A len a,.int .i64 i,sz))(f:A=some ⟨aB A,aO A,none⟩)(hk:i=k)(b:k<len)(w:World) :
    (execOp (ev Γ) o).run P w=.ok (.value (.pointer (some ⟨aB A,aO A+k*sz,none⟩))) w:=by
  unfold EC at h
  split at h
  . rename_i t x ix d
    split at h
    . rename_i e c
      cases hi:P.info? e with
      | none=>rw[hi] at h;cases h
      | some inf =>
        rw[hi] at h
        simp only[ua,Option.some.injEq,Prod.mk.injEq] at h
        exact Gc (P:=P) k d h.1 h.2.1 c (by rw[hi];simp[h.2.2]) f hk b w
    . cases h
  . cases h
def Ca (P:Program)(ρ:Operand->Value)(o:Oper):Option (Value × Option Value × Option Value × Nat) :=
  match o.op with
  | .slice t x lo' hi' none=>match P.underlying t with
    | some (.slice e)=>(P.info? e).map fun i=>(ρ x,lo'.map ρ,hi'.map ρ,i.size)
    | _=>none
  | _=>none
theorem sl {P:Program}{Γ:bU}{o:Oper}{A:Option Addr}{len a sz:Nat}{i:Int}(k:Nat)(h:Ca P (ev Γ) o=some (.slice A len a,none,some (.int .i64 i),sz))(hk:i=k)(b:k<=a)(w:World) :
    (execOp (ev Γ) o).run P w=.ok (.value (.slice A k a)) w:=by
  unfold Ca at h
  split at h
  . rename_i t x l r f
    split at h
    . rename_i e c
      cases hi:P.info? e with
      | none=>rw[hi] at h;cases h
      | some inf =>
        rw[hi] at h
        simp only[ua,Option.some.injEq,Prod.mk.injEq,Lx,tz] at h
        obtain ⟨h1,rfl,⟨y,rfl,d⟩,j⟩:=h;exact KH (P:=P) k f h1 d c (by rw[hi];rfl) hk b w
    . cases h
  . cases h
theorem m7 {P:Program}{Γ:bU}{o:Oper}{A:Option Addr}{len a sz:Nat}{i:Int}(k:Nat)(h:Ca P (ev Γ) o=some (.slice A len a,some (.int .i64 i),none,sz))(hk:i=k)(b:k<=len)(w:World) :
    (execOp (ev Γ) o).run P w=.ok (.value (.slice (if a=k then A else A.map (·.add (k*sz))) (len-k) (a-k))) w:=by
  unfold Ca at h
  split at h
  . rename_i t x l r j
    split at h
    . rename_i e d
      cases hi:P.info? e with
      | none=>rw[hi] at h;cases h
      | some inf =>
        rw[hi] at h
        simp only[ua,Option.some.injEq,Prod.mk.injEq,Lx,tz] at h
        obtain ⟨h1,⟨y,rfl,f⟩,rfl,c⟩:=h;exact GY (P:=P) k j h1 f d (by rw[hi];simp[c]) hk b w
    . cases h
  . cases h
def JZ (P:Program)(ρ:Operand->Value)(o:Oper):Option (Value × Value × TypeId × Value × Nat × Nat) :=
  match o.op with
  | .makeSlice t x y=>match P.underlying t with
    | some (.slice e)=>match P.info? e with
      | some i=>i.zero.map fun z=>(ρ x,ρ y,e,z,i.size,i.bytes)
      | _=>none
    | _=>none
  | _=>none
theorem uh {P:Program}{Γ:bU}{o:Oper}{e:TypeId}{z:Value}{m sz i:Nat}{α:Type}{f:α->List Value}{j:α}(h:JZ P (ev Γ) o=some (.int .i64 (m:Int),.int .i64 (m:Int),e,z,sz,i))(d:z.cells.toList=f j)(b:z.cells.size=sz)(a:0<sz)(F:i*m<=140737488355328)(c:m<9223372036854775808)(w:World) :
    (execOp (ev Γ) o).run P w=.ok (.value (.slice (some ⟨w.heap.size,0,none⟩) m m)) (w.alloc (.cells ((As m j).flatMap f).toArray e (0,0))):=by
  unfold JZ at h
  split at h
  . rename_i t x y D
    split at h
    . rename_i I B
      split at h
      . rename_i p hi
        simp only[tz,Prod.mk.injEq] at h
        obtain ⟨H,hz,h1,u,rfl,rfl,C,l⟩:=h;exact KA (P:=P) D h1 u B (by rw[hi];simp[hz,C,l]) d b a F c w
      . cases h
    . cases h
  . cases h
def p8 (P:Program)(ρ:Operand->Value)(o:Oper):Option (Value × Value × TypeId × Value × Nat × Nat) :=
  match o.op with
  | .call { callee:=.builtin .append,args:=⟨[x,y]⟩,argTypes:=⟨[t,u]⟩ }=>if t=u then match P.underlying t with
    | some (.slice e)=>match P.info? e with
      | some i=>i.zero.map fun z=>(ρ x,ρ y,e,z,i.size,i.bytes)
      | _=>none
    | _=>none else none
  | _=>none
theorem js {P:Program}{ρ:Operand->Value}{o:Oper}{r:Value × Value × TypeId × Value × Nat × Nat}(h:p8 P ρ o=some r):∃ x y t,o.op=.call { callee:=.builtin .append,args:=#[x,y],argTypes:=#[t,t] }/\ρ x=r.1/\ρ y=r.2.1/\P.underlying t=some (.slice r.2.2.1)/\(P.info? r.2.2.1).map (fun i=>(i.zero,i.size,i.bytes))=some (some r.2.2.2.1,r.2.2.2.2.1,r.2.2.2.2.2):=by
  unfold p8 at h
  split at h
  . rename_i x y t u d
    split at h
    . rename_i a
      subst a
      split at h
      . rename_i e b
        split at h
        . rename_i c hi
          simp only[tz] at h
          obtain ⟨z,hz,rfl⟩:=h;exact ⟨x,y,t,d,rfl,rfl,b,by rw[hi];simp[hz]⟩
        . cases h
      . cases h
    . cases h
  . cases h
section listed
variable {P:Program} {n:Nat} {N R:Po} {X:Nat->Po} {ops:Array Oper} {k:Nat} {Γ:bU} {w:World} {h:Hp} {w0:World} {h0:Hp} {B:List Bx} {Rs:List Rw} {F:List (Hp->Prop)}
def cL (ops:Array Oper)(Γ:bU)(k t n:Nat):Bool:=io ops Γ k && ((am ops k).dst == some t) && decide (t<n) && (be ops Γ (am ops k) == some true)
def cS (ops:Array Oper)(Γ:bU)(k:Nat):Bool:=io ops Γ k && ((am ops k).dst == none) && (be ops Γ (am ops k) == some true)
theorem bQ {t:Nat}(h:cL ops Γ k t n=true):(io ops Γ k && ((am ops k).dst == some t) && decide (t<n))=true/\be ops Γ (am ops k)=some true:=by
 unfold cL at h
 rw[na] at h
 exact ⟨h.1,by simpa using h.2⟩
theorem iu (h:cS ops Γ k=true):(io ops Γ k && ((am ops k).dst == none))=true/\be ops Γ (am ops k)=some true:=by
 unfold cS at h
 rw[na] at h
 exact ⟨h.1,by simpa using h.2⟩
theorem lV (t:Nat)(v:Value)(H:LG P n N R X ops (k+1) ((t,v)::Γ) w)(a:cL ops Γ k t n=true:=by kernel_rfl)(hr:(execOp (ev Γ) (am ops k)).run P w=.ok (.value v) w:=by kernel_rfl):LG P n N R X ops k Γ w :=
 LG.val t v w (bQ a).1 (bQ a).2 hr H
theorem lB (t:Nat){e b:Bool}(c:e=b)(H:LG P n N R X ops (k+1) ((t,.bool b)::Γ) w)(a:cL ops Γ k t n=true:=by kernel_rfl)(hr:(execOp (ev Γ) (am ops k)).run P w=.ok (.value (.bool e)) w:=by kernel_rfl):LG P n N R X ops k Γ w :=
 LG.val t _ w (bQ a).1 (bQ a).2 (c▸hr) H
theorem lI (t:Nat)(m:Int)(H:LG P n N R X ops (k+1) ((t,.int .i64 m)::Γ) w)(a:cL ops Γ k t n=true:=by kernel_rfl)(hr:(execOp (ev Γ) (am ops k)).run P w=.ok (.value (.int .i64 (IntKind.wrap .i64 m))) w:=by kernel_rfl)(h0 : -9223372036854775808<=m:=by omega)(h1:m<=9223372036854775807:=by omega):LG P n N R X ops k Γ w :=
 LG.val t _ w (bQ a).1 (bQ a).2 (by rw[gL h0 h1] at hr;exact hr) H
theorem bh (t:Nat)(m:Int)(j:Nat)(H:LG P n N R X ops (k+1) ((t,.int .i64 (j:Int))::Γ) w)(a:cL ops Γ k t n=true:=by kernel_rfl)(hr:(execOp (ev Γ) (am ops k)).run P w=.ok (.value (.int .i64 (IntKind.wrap .i64 m))) w:=by kernel_rfl)(b:m=j:=by omega)(h1:m<=9223372036854775807:=by omega):LG P n N R X ops k Γ w :=
 LG.val t _ w (bQ a).1 (bQ a).2 (by rw[gL oM h1,b] at hr;exact hr) H
theorem lO (t:Nat)(ps:List (Nat × Nat × Nat))(v:Value)(s:SS w0 h0 w h B Rs F)(H:LG P n N R X ops (k+1) ((t,v)::Γ) w)(a:cL ops Γ k t n=true:=by kernel_rfl)(b:dj B ps=true:=by kernel_rfl)(c:cl P (execOp (ev Γ) (am ops k)) (dQ B ps)=some (.value v,cM B ps):=by kernel_rfl):LG P n N R X ops k Γ w :=
 LG.own t ps v s.st (bQ a).1 (bQ a).2 b c H
def H6 (P:Program)(ops:Array Oper)(B:List Bx):bU->Nat->List (Nat × Value × List (Nat × Nat × Nat))->List (Option (Next × List Addr))
  | _,_,[]=>[]
  | Γ,k,x::l=>cl P (execOp (ev Γ) (am ops k)) (dQ B x.2.2)::H6 P ops B ((x.1,x.2.1)::Γ) (k+1) l
def Jk (n:Nat)(ops:Array Oper)(B:List Bx):bU->Nat->List (Nat × Value × List (Nat × Nat × Nat))->Bool
  | _,_,[]=>true
  | Γ,k,x::l=>cL ops Γ k x.1 n && dj B x.2.2 && Jk n ops B ((x.1,x.2.1)::Γ) (k+1) l
def tC (Γ:bU):List (Nat × Value × List (Nat × Nat × Nat))->bU
  | []=>Γ
  | x::l=>tC ((x.1,x.2.1)::Γ) l
theorem lS (s:SS w0 h0 w h B Rs F)(l:List (Nat × Value × List (Nat × Nat × Nat)))(H:LG P n N R X ops (k+l.length) (tC Γ l) w)(a:Jk n ops B Γ k l=true:=by kernel_rfl)(b:H6 P ops B Γ k l=l.map (fun x=>some (.value x.2.1,cM B x.2.2)):=by kernel_rfl):LG P n N R X ops k Γ w:=by
  induction l generalizing Γ k with
  | nil=>exact H
  | cons x l ih =>
    unfold Jk at a
    simp only[na] at a
    unfold H6 at b
    rw[D1] at b
    injection b with e1 e2
    refine lO x.1 x.2.2 x.2.1 s (ih ?_ a.2 e2) a.1.1 a.1.2 e1;have:k+1+l.length=k+(x::l).length:=by simp;omega
    rw[this];exact H
inductive It where
  | c
  | v (x:Value)
  | o (x:Value) (j a n:Nat)
def nT (ops:Array Oper)(k:Nat):Nat:=(am ops k).dst.getD 0
def nX (ops:Array Oper)(k:Nat)(Γ:bU):Value:=match (am ops k).op with
  | .move x=>ev Γ x
  | .assign x=>ev Γ x
  | _=>.tuple #[]
def It.to (ops:Array Oper)(k:Nat)(Γ:bU):It->Nat × Value × List (Nat × Nat × Nat)
  | .c=>(nT ops k,nX ops k Γ,[])
  | .v x=>(nT ops k,x,[])
  | .o x j a n=>(nT ops k,x,[(j,a,n)])
def wc (ops:Array Oper):Nat->bU->List It->List (Nat × Value × List (Nat × Nat × Nat))
  | _,_,[]=>[]
  | k,Γ,x::l=>x.to ops k Γ::wc ops (k+1) (((x.to ops k Γ).1,(x.to ops k Γ).2.1)::Γ) l
theorem Cq (ops:Array Oper)(k:Nat)(Γ:bU)(l:List It):(wc ops k Γ l).length=l.length:=by
 induction l generalizing k Γ with
 | nil=>rfl
 | cons x l ih=>show (wc _ _ _ l).length+1=_;rw[ih];rfl
abbrev ac:List It:=[.c]
abbrev aD:List It:=[.c,.c]
abbrev di:List It:=[.c,.c,.c]
abbrev pd:List It:=[.c,.c,.c,.c]
abbrev Jp:List It:=[.c,.c,.c,.c,.c]
abbrev m6:List It:=[.c,.c,.c,.c,.c,.c]
theorem lL (s:SS w0 h0 w h B Rs F)(l:List It)(H:LG P n N R X ops (k+l.length) (tC Γ (wc ops k Γ l)) w)(b:Jk n ops B Γ k (wc ops k Γ l)=true:=by kernel_rfl)(a:H6 P ops B Γ k (wc ops k Γ l)=(wc ops k Γ l).map (fun x=>some (.value x.2.1,cM B x.2.2)):=by kernel_rfl):LG P n N R X ops k Γ w :=
 lS s (wc ops k Γ l) (by rw[Cq];exact H) b a
theorem lP (j o:Nat)(cs:List Value)(s:SS w0 h0 w h B Rs F)(H:∀ w',SS w0 h0 w' h (gJ B j o cs) Rs F->LG P n N R X ops (k+1) Γ w')(c:cS ops Γ k=true:=by kernel_rfl)
  (a:(decide (j<B.length) && decide (o+cs.length<=(av B j).vs.length))=true:=by kernel_rfl)(d:dK P (execOp (ev Γ) (am ops k))=some (.skip,lm (av B j).b o cs):=by kernel_rfl):LG P n N R X ops k Γ w :=
 LG.put j o cs s.st s.g0 (iu c).1 (iu c).2 a d (fun w' p e=>H w' (s.put0 (oT (na _ _▸a).1) p e (oz (oT (na _ _▸a).1))))
theorem lA (t:Nat)(ty:TypeId)(vs:List Value)(s:SS w0 h0 w h B Rs F)(H:∀ b w' h',SS w0 h0 w' h' (⟨b,ty,vs⟩::B) Rs F->LG P n N R X ops (k+1) ((t,.pointer (some ⟨b,0,none⟩))::Γ) w')(a:cL ops Γ k t n=true:=by kernel_rfl)
  (hr:(execOp (ev Γ) (am ops k)).run P w=.ok (.value (.pointer (some ⟨w.heap.size,0,none⟩))) (w.alloc (.cells vs.toArray ty (0,0))):=by kernel_rfl):LG P n N R X ops k Γ w :=
 LG.var t ty vs s.st (bQ a).1 (bQ a).2 hr (fun b w' h' c u d=>H b w' h' (s.new u c d))
theorem lC (t:Nat){f:FuncId}{args:Array Value}{Φ:Value->Hp->Prop}(s:SS w0 h0 w h B Rs F)(c:Calls P f args w (Ret w h Φ))(H:∀ v w' h',SS w0 h0 w' h' B Rs F->Φ v h'->LG P n N R X ops (k+1) ((t,v)::Γ) w')(b:cL ops Γ k t n=true:=by kernel_rfl)(hr:(execOp (ev Γ) (am ops k)).run P w=.ok (.enter f args) w:=by kernel_rfl):LG P n N R X ops k Γ w :=
 LG.call t f args (bQ b).1 (bQ b).2 hr (c.mono fun e w' ⟨v,h',d,u,a⟩=>⟨v,d,H v w' h' (s.step u) a⟩)
theorem kd (t:Nat){f:FuncId}{args:Array Value}{Φ:Value->Hp->Prop}(c:Calls P f args w (Ret w h Φ))(H:∀ v w' h',Up w h w' h'->Φ v h'->LG P n N R X ops (k+1) ((t,v)::Γ) w')(b:cL ops Γ k t n=true:=by kernel_rfl)(hr:(execOp (ev Γ) (am ops k)).run P w=.ok (.enter f args) w:=by kernel_rfl):LG P n N R X ops k Γ w :=
 LG.call t f args (bQ b).1 (bQ b).2 hr (c.mono fun e w' ⟨v,h',d,u,a⟩=>⟨v,d,H v w' h' u a⟩)
theorem gi (t:Nat){f:FuncId}{args:Array Value}{rb:Nat}{Φ:Value->World->Hp->Prop}(c:Calls P f args w (eP rb w h Φ))(H:∀ v w' h',UpM [rb] w h w' h'->Φ v w' h'->LG P n N R X ops (k+1) ((t,v)::Γ) w')(b:cL ops Γ k t n=true:=by kernel_rfl)(hr:(execOp (ev Γ) (am ops k)).run P w=.ok (.enter f args) w:=by kernel_rfl):LG P n N R X ops k Γ w :=
 LG.call t f args (bQ b).1 (bQ b).2 hr (c.mono fun e w' ⟨v,h',d,u,a⟩=>⟨v,d,H v w' h' u a⟩)
theorem lH (t:Nat)(v:Value){b o:Nat}{cs:List Value}(s:SS w0 h0 w h B Rs F)(sg:Seg h b o cs)(H:LG P n N R X ops (k+1) ((t,v)::Γ) w)(a:cL ops Γ k t n=true:=by kernel_rfl)(c:cl P (execOp (ev Γ) (am ops k)) cs=some (.value v,k8 b o cs.length):=by kernel_rfl):LG P n N R X ops k Γ w :=
 LG.val t v w (bQ a).1 (bQ a).2 (Seg.run sg s.g (Ext.refl _) c) H
theorem Fo (t:Nat)(v:Value){u:Value}{b o:Nat}{cs:List Value}(s:SS w0 h0 w h B Rs F)(sg:Seg h b o cs)(e:v=u)(H:LG P n N R X ops (k+1) ((t,u)::Γ) w)(a:cL ops Γ k t n=true:=by kernel_rfl)(c:cl P (execOp (ev Γ) (am ops k)) cs=some (.value v,k8 b o cs.length):=by kernel_rfl):LG P n N R X ops k Γ w :=
 LG.val t u w (bQ a).1 (bQ a).2 (e▸Seg.run sg s.g (Ext.refl _) c) H
theorem lX (t:Nat)(A:Option Addr)(len b sz:Nat)(i:Int)(j:Nat)(d:A=some ⟨aB A,aO A,none⟩)(H:LG P n N R X ops (k+1) ((t,.pointer (some ⟨aB A,aO A+j*sz,none⟩))::Γ) w)(c:cL ops Γ k t n=true:=by kernel_rfl)(e:EC P (ev Γ) (am ops k)=some (.slice A len b,.int .i64 i,sz):=by kernel_rfl)(hk:i=j:=by omega)(a:j<len:=by omega):LG P n N R X ops k Γ w :=
 LG.val t _ w (bQ c).1 (bQ c).2 (im e d hk a w) H
theorem lT (t:Nat)(A:Option Addr)(len a sz:Nat)(i:Int)(j:Nat)(H:LG P n N R X ops (k+1) ((t,.slice A j a)::Γ) w)(c:cL ops Γ k t n=true:=by kernel_rfl)(d:Ca P (ev Γ) (am ops k)=some (.slice A len a,none,some (.int .i64 i),sz):=by kernel_rfl)(hk:i=j:=by omega)(b:j<=a:=by omega):LG P n N R X ops k Γ w :=
 LG.val t _ w (bQ c).1 (bQ c).2 (sl j d hk b w) H
theorem lF (t:Nat)(A:Option Addr)(len a sz:Nat)(i:Int)(j:Nat)(H:LG P n N R X ops (k+1) ((t,.slice (if a=j then A else A.map (·.add (j*sz))) (len-j) (a-j))::Γ) w)(c:cL ops Γ k t n=true:=by kernel_rfl)(d:Ca P (ev Γ) (am ops k)=some (.slice A len a,some (.int .i64 i),none,sz):=by kernel_rfl)(hk:i=j:=by omega)(b:j<=len:=by omega):LG P n N R X ops k Γ w :=
 LG.val t _ w (bQ c).1 (bQ c).2 (m7 j d hk b w) H
theorem lR (t:Nat)(ty:TypeId)(m:Nat)(cs:List Value)(s:SS w0 h0 w h B Rs F)(H:∀ b w' h',SS w0 h0 w' h' B Rs ((fun h=>Seg h b 0 cs)::F)->LG P n N R X ops (k+1) ((t,.slice (some ⟨b,0,none⟩) m m)::Γ) w')(a:cL ops Γ k t n=true:=by kernel_rfl)
  (hr:(execOp (ev Γ) (am ops k)).run P w=.ok (.value (.slice (some ⟨w.heap.size,0,none⟩) m m)) (w.alloc (.cells cs.toArray ty (0,0))):=by kernel_rfl):LG P n N R X ops k Γ w :=
 LG.row t ty m cs s.g (bQ a).1 (bQ a).2 hr (fun b w' h' u sg=>H b w' h' ((s.step u).a_Seg sg))
theorem lK {α:Type}(t:Nat)(ty:TypeId)(m sz i:Nat)(z:Value)(f:α->List Value)(l:α)(s:SS w0 h0 w h B Rs F)(H:∀ b w' h',SS w0 h0 w' h' (⟨b,ty,(As m l).flatMap f⟩::B) Rs F->LG P n N R X ops (k+1) ((t,.slice (some ⟨b,0,none⟩) m m)::Γ) w')(j:cL ops Γ k t n=true:=by kernel_rfl)
  (x:JZ P (ev Γ) (am ops k)=some (.int .i64 (m:Int),.int .i64 (m:Int),ty,z,sz,i):=by kernel_rfl)(e:z.cells.toList=f l:=by kernel_rfl)(c:z.cells.size=sz:=by kernel_rfl)(a:0<sz:=by decide)(y:i*m<=140737488355328:=by omega)(d:m<9223372036854775808:=by omega):LG P n N R X ops k Γ w :=
 LG.arr t ty m _ s.st (bQ j).1 (bQ j).2 (uh x e c a y d w) (fun b w' h' p u o=>H b w' h' (s.new u p o))
theorem lQ {α:Type}(t j:Nat)(l:List α)(f:α->List Value)(sz:Nat)(d:α)(e:Nat)(v:Value)(s:SS w0 h0 w h B Rs F)(hk:e<l.length)(H:LG P n N R X ops (k+1) ((t,v)::Γ) w)(a:cL ops Γ k t n=true:=by kernel_rfl)
  (c:decide (j<B.length)=true:=by kernel_rfl)(hB:(av B j).vs=l.flatMap f:=by kernel_rfl)(hf:∀ x,(f x).length=sz:=by intro _;rfl)
  (i:cl P (execOp (ev Γ) (am ops k)) (f (l.getD e d))=some (.value v,k8 (av B j).b (0+e*sz) (f (l.getD e d)).length):=by kernel_rfl):LG P n N R X ops k Γ w :=
 LG.ownA t j l f sz d e v s.st (bQ a).1 (bQ a).2 c hB hf hk i H
theorem lW {α:Type}(j:Nat)(l:List α)(f:α->List Value)(sz e:Nat)(x:α)(s:SS w0 h0 w h B Rs F)(hk:e<l.length)(H:∀ w',SS w0 h0 w' h (gK B j ((l.set e x).flatMap f)) Rs F->LG P n N R X ops (k+1) Γ w')(c:cS ops Γ k=true:=by kernel_rfl)
  (a:decide (j<B.length)=true:=by kernel_rfl)(hB:(av B j).vs=l.flatMap f:=by kernel_rfl)(hf:∀ x,(f x).length=sz:=by intro _;rfl)
  (d:dK P (execOp (ev Γ) (am ops k))=some (.skip,lm (av B j).b (0+e*sz) (f x)):=by kernel_rfl):LG P n N R X ops k Γ w :=
 LG.putA j l f sz e x s.st s.g0 (iu c).1 (iu c).2 a hB hf hk d (fun w' p i=>H w' (s.put0 (oT a) p i (kB (oT a))))
theorem eN {R:List Rw}{j:Nat}{r:Rw}(hr:R.getD j default=r)(a:j<R.length):R[j]=r:=by rw[<-hr];simp[a]
theorem Kb (t j:Nat){ty:TypeId}{sz c m:Nat}{A:Option Addr}{cs:List Value}{C m2 c2:Nat}{z:Value}{a:Addr}(news:List Value)(s:SS w0 h0 w h B Rs F)(b:∀ i u,news[i]?=some u->w.cell? (a.add i)=some u)(W:news.length=m2*sz)(h1:∀ u∈news,u.oneCell'=true)(p:j<Rs.length)(hr:Rs[j]=⟨ty,sz,A,c,m,cs⟩)
  (I:cL ops Γ k t n=true)(Q:p8 P (ev Γ) (am ops k)=some (.slice A m c,.slice (some a) m2 c2,ty,z,sz,C))(o:z.cells.size=sz)(e:0<sz)(Y:m+m2<=1099511627776)(O:(m+m2)*C<=140737488355328)
  (H:∀ l c' w' h',SS w0 h0 w' h' B (Rs.set j ⟨ty,sz,l,c',m+m2,cs++news⟩) F->LG P n N R X ops (k+1) ((t,.slice l (m+m2) c')::Γ) w'):LG P n N R X ops k Γ w:=by
 obtain ⟨x,y,Z,V,S,J,M,hi⟩:=js Q;have r:=s.ro _ (gq p);rw[hr] at r
 obtain ⟨v',w',f,U,L,d⟩:=lc (P:=P) V S J M hi o e s.st r W b h1 Y O;have D:=s.grown (j:=j) p (w':=w') (v':=v') (m2:=m2) (news:=news) (by rw[hr];exact U) (by rw[hr];exact L) (by rw[hr];exact d);rw[hr] at D
 obtain ⟨h',l,c',rfl,_,K⟩:=D;exact LG.val t _ w' (bQ I).1 (bQ I).2 f (H l c' w' h' K)
theorem mB {α:Type}{f:α->List Value}{l:List α}{x:α}:l.flatMap f++f x=(l++[x]).flatMap f:=by simp
theorem lY {α:Type}(t j:Nat)(ty:TypeId)(sz c:Nat)(A:Option Addr)(l:List α)(f:α->List Value)(x:α)(p b:Nat)(z:Value)(s:SS w0 h0 w h B Rs F)(sg:Seg h b 0 (f x))
  (H:∀ e c' w' h',SS w0 h0 w' h' B (Rs.set j ⟨ty,sz,e,c',(l++[x]).length,(l++[x]).flatMap f⟩) F->LG P n N R X ops (k+1) ((t,.slice e (l++[x]).length c')::Γ) w')
  (J:cL ops Γ k t n=true:=by kernel_rfl)(I:p8 P (ev Γ) (am ops k)=some (.slice A l.length c,.slice (some ⟨b,0,none⟩) 1 1,ty,z,sz,p):=by kernel_rfl)(i:z.cells.size=sz:=by kernel_rfl)(a:0<sz:=by decide)
  (hr:Rs.getD j default=⟨ty,sz,A,c,l.length,l.flatMap f⟩:=by kernel_rfl)(C:decide (j<Rs.length)=true:=by kernel_rfl)(h1:(f x).all (·.oneCell')=true:=by kernel_rfl)(K:(f x).length=1*sz:=by kernel_rfl)(L:l.length+1<=1099511627776:=by omega)(D:(l.length+1)*p<=140737488355328:=by omega):LG P n N R X ops k Γ w:=by
 have d:=oT C;refine Kb t j (f x) s (j5 s.g sg) K (fun u y=>(o0.1 h1) u y) d (eN hr d) J I i a L D (fun e c' w' h' o=>?_);have e1:l.length+1=(l++[x]).length:=by simp
 rw[mB,e1] at o
 rw[e1];exact H e c' w' h' o
end listed
section code
variable {P:Program} {n:Nat} {N R:Po} {X:Nat->Po} {Γ:bU} {w:World}
theorem ax {id:Nat}{ops:Array Oper}{y:Code}(H:LG P n (fun a w=>y.wp P (iG N R X) a w) R X ops 0 Γ w):CG P n N R X (.seq (.region id ops false) y) Γ w:=CG.seq (CG.listed H)
theorem co {c:Operand}{x y:Code}(ht:CG P n N R X x Γ w)(a:iL Γ c=true:=by kernel_rfl)(hv:ev Γ c=.bool true:=by kernel_rfl):CG P n N R X (.cond c x y) Γ w:=CG.condT a hv ht
theorem dr {c:Operand}{x y:Code}(ht:CG P n N R X y Γ w)(a:iL Γ c=true:=by kernel_rfl)(hv:ev Γ c=.bool false:=by kernel_rfl):CG P n N R X (.cond c x y) Γ w:=CG.condF a hv ht
theorem bH {c:Code}(Γ':bU)(H:CG P n N R X c Γ' w)(b:jK Γ (Γ'.map (·.1))=Γ':=by kernel_rfl)(a:gk Γ'=gk Γ:=by kernel_rfl):CG P n N R X c Γ w:=CG.to Γ' b a H
theorem lN {ops:Array Oper}{k:Nat}{y:Code}{N' R':Po}{X':Nat->Po}(H:CG P n N' R' X' y Γ w)(b:(k == ops.size)=true:=by kernel_rfl):LG P n (fun a w=>y.wp P (iG N' R' X') a w) R X ops k Γ w:=LG.next b H
theorem aG {ops:Array Oper}{k:Nat}{id:Nat}{b:Array Oper}{y:Code}{N' R':Po}{X':Nat->Po}(H:LG P n (fun a w=>y.wp P (iG N' R' X') a w) R' X' b 0 Γ w)(c:(k == ops.size)=true:=by kernel_rfl):LG P n (fun a w=>(Code.seq (.region id b false) y).wp P (iG N' R' X') a w) R X ops k Γ w:=lN (ax H) c
theorem lD {ops:Array Oper}{k:Nat}(H:∀ a,Kn n a Γ->N a w)(b:(k == ops.size)=true:=by kernel_rfl):LG P n N R X ops k Γ w:=LG.done b H
theorem lG {ops:Array Oper}{k:Nat}(t:Nat)(H:LG P n N R X ops (k+1) ((t,undef)::Γ) w)(b:(decide (k<ops.size) && ((am ops k).dst == some t) && decide (t<n))=true:=by kernel_rfl)(a:be ops Γ (am ops k)=some false:=by kernel_rfl):LG P n N R X ops k Γ w:=LG.out t b a H
theorem SS.ret {c:Func}{Φ:Value->Hp->Prop}{w0:World}{h0:Hp}{h:Hp}{B:List Bx}{Rs:List Rw}{F:List (Hp->Prop)}(s:SS w0 h0 w h B Rs F)(ps:List (Nat × Nat × Nat))(v:Value)(b:Φ v h)(hk:(oK c Γ && dj B ps)=true:=by kernel_rfl)(d:cl P (qD c Γ) (dQ B ps)=some (v,cM B ps):=by kernel_rfl):∀ a,Kn n a Γ->pf P c (Ret w0 h0 Φ) a w:=KG s.st ps v hk d b
theorem SS.retM {c:Func}{rb:Nat}{Φ:Value->World->Hp->Prop}{w0 wz:World}{h0 hz:Hp}{h:Hp}{B:List Bx}{Rs:List Rw}{F:List (Hp->Prop)}(s:SS wz hz w h B Rs F)(d:UpM [rb] w0 h0 w h)(ps:List (Nat × Nat × Nat))(v:Value)(b:Φ v w h)(hk:(oK c Γ && dj B ps)=true:=by kernel_rfl)(e:cl P (qD c Γ) (dQ B ps)=some (v,cM B ps):=by kernel_rfl):∀ a,Kn n a Γ->pf P c (eP rb w0 h0 Φ) a w:=Go.Proofs.YtnphimgdpdiekaaGreatDoor.retM s.st d ps v hk e b
theorem go {f:FuncId}{a:Func}{c:Code}{args:Array Value}{b:Ending->World->Prop}(hf:P.funcs[f]?=some a)(Γ0:bU)(h:a.body=some c)(H:CG P a.ntmps (pf P a b) (pf P a b) (fun _ _ _=>False) c Γ0 w)(i:Ly args.size a.ntmps=true:=by kernel_rfl)(e:Γ0=envOf args.toList:=by kernel_rfl)(d:Ly a.ntmps 1000000=true:=by kernel_rfl):Calls P f args w b :=
 enter hf h rfl (Lz i) (Lz d) Γ0 e H
end code
section
variable {P:Program}{n:Nat}{N R N' R' R2:Po}{X X' X2:Nat->Po}{Γ:bU}{w w0:World}{h h0:Hp}{B:List Bx}{Rs:List Rw}{F:List (Hp->Prop)}{ops:Array Oper}{k:Nat}
theorem ar (t:Nat){f:FuncId}{args:Array Value}{x:Value}(s:SS w0 h0 w h B Rs F)(c:Calls P f args w (Ret w h fun v _=>v=x))(H:∀ w1 h1,SS w0 h0 w1 h1 B Rs F->LG P n N R X ops (k+1) ((t,x)::Γ) w1)(a:cL ops Γ k t n=true:=by kernel_rfl)(hr:(execOp (ev Γ) (am ops k)).run P w=.ok (.enter f args) w:=by kernel_rfl):LG P n N R X ops k Γ w:=lC t s c (fun v w1 h1 b e=>by subst e;exact H w1 h1 b) a hr
theorem aa {id:Nat}{y:Code}(s:SS w0 h0 w h B Rs F)(l:List It)(H:LG P n (fun a w=>y.wp P (iG N R X) a w) R X ops (0+l.length) (tC Γ (wc ops 0 Γ l)) w)(c:Jk n ops B Γ 0 (wc ops 0 Γ l)=true:=by kernel_rfl)(b:H6 P ops B Γ 0 (wc ops 0 Γ l)=(wc ops 0 Γ l).map (fun x=>some (.value x.2.1,cM B x.2.2)):=by kernel_rfl):CG P n N R X (.seq (.region id ops false) y) Γ w:=ax (lL s l H c b)
theorem ah {x y:Code}(H:CG P n (fun a w=>y.wp P (iG N' R' X') a w) R' X' x Γ w)(b:(k==ops.size)=true:=by kernel_rfl):LG P n (fun a w=>(Code.seq x y).wp P (iG N' R' X') a w) R X ops k Γ w:=lN (CG.seq H) b
theorem aY {id:Nat}{c:Code}(H:CG P n N' R' (fun i=>if i=id then N' else X' i) c Γ w)(b:(k==ops.size)=true:=by kernel_rfl):LG P n (fun a w=>(Code.block id c).wp P (iG N' R' X') a w) R X ops k Γ w:=lN (CG.block H) b
theorem ag {c:Operand}{x y:Code}(H:CG P n N' R' X' y Γ w)(b:(k==ops.size)=true:=by kernel_rfl)(hi:iL Γ c=true:=by kernel_rfl)(hv:ev Γ c=.bool false:=by kernel_rfl):LG P n (fun a w=>(Code.cond c x y).wp P (iG N' R' X') a w) R X ops k Γ w:=lN (dr H hi hv) b
theorem ak {c:Operand}{x y:Code}(H:CG P n N' R' X' x Γ w)(b:(k==ops.size)=true:=by kernel_rfl)(hi:iL Γ c=true:=by kernel_rfl)(hv:ev Γ c=.bool true:=by kernel_rfl):LG P n (fun a w=>(Code.cond c x y).wp P (iG N' R' X') a w) R X ops k Γ w:=lN (co H hi hv) b
theorem ae {c:Func}{Φ:Value->Hp->Prop}(s:SS w0 h0 w h B Rs F)(ps:List (Nat×Nat×Nat))(v:Value)(b:Φ v h)(e:(k==ops.size)=true:=by kernel_rfl)(hk:(oK c Γ&&dj B ps)=true:=by kernel_rfl)(d:cl P (qD c Γ) (dQ B ps)=some (v,cM B ps):=by kernel_rfl):LG P n (fun a w=>Code.ret.wp P (iG N' (pf P c (Ret w0 h0 Φ)) X') a w) R X ops k Γ w:=lN (CG.ret (s.ret ps v b hk d)) e
end
section drawn
variable {M:Ms} {P:Program} {n:Nat} {N R:Po} {X:Nat->Po} {ops:Array Oper} {k0:Nat} {hr:Hp} {AL:List Al} {L:Array Bool} {Γ:bU} {w:World} {h:Hp} {w0:World} {h0:Hp} {B:List Bx} {Rs:List Rw} {F:List (Hp->Prop)}
def cE (n:Nat)(ops:Array Oper)(k0:Nat)(AL:List Al)(L:Array Bool)(Γ:bU)(i t:Nat):Bool:=dX n ops k0 AL L i t && aZ Γ (am ops i) && (be ops Γ (am ops i) == some true)
def B5 (n:Nat)(ops:Array Oper)(k0:Nat)(AL:List Al)(L:Array Bool)(Γ:bU)(i t:Nat):Bool:=dX n ops k0 AL L i t && aZ Γ (am ops i) && iX ops k0 i && (be ops Γ (am ops i) == some true)
def EP (n:Nat)(ops:Array Oper)(k0:Nat)(AL:List Al)(L:Array Bool)(Γ:bU)(i t:Nat):Bool:=ny n ops k0 AL L i t && aZ Γ (am ops i) && (be ops Γ (am ops i) == some true)
theorem jB {i t:Nat}(h:cE n ops k0 AL L Γ i t=true):(dX n ops k0 AL L i t && aZ Γ (am ops i))=true/\be ops Γ (am ops i)=some true:=by
 unfold cE at h;rw[na] at h;exact ⟨h.1,by simpa using h.2⟩
theorem iE {i t:Nat}(h:B5 n ops k0 AL L Γ i t=true):(dX n ops k0 AL L i t && aZ Γ (am ops i) && iX ops k0 i)=true/\be ops Γ (am ops i)=some true:=by
 unfold B5 at h;rw[na] at h;exact ⟨h.1,by simpa using h.2⟩
theorem jh {i t:Nat}(h:EP n ops k0 AL L Γ i t=true):(ny n ops k0 AL L i t && aZ Γ (am ops i))=true/\be ops Γ (am ops i)=some true:=by
 unfold EP at h;rw[na] at h;exact ⟨h.1,by simpa using h.2⟩
theorem eV (i t:Nat)(v:Value)(H:EG M P n N R X ops k0 hr AL (L.setIfInBounds i true) ((t,v)::Γ) w h)(a:cE n ops k0 AL L Γ i t=true:=by kernel_rfl)(hv:∀ w,(execOp (ev Γ) (am ops i)).run P w=.ok (.value v) w:=by intro _;kernel_rfl):EG M P n N R X ops k0 hr AL L Γ w h :=
 Rg.pure i t v (jB a).1 (jB a).2 hv H
theorem eB (i t:Nat){e b:Bool}(c:e=b)(H:EG M P n N R X ops k0 hr AL (L.setIfInBounds i true) ((t,.bool b)::Γ) w h)(a:cE n ops k0 AL L Γ i t=true:=by kernel_rfl)(hv:∀ w,(execOp (ev Γ) (am ops i)).run P w=.ok (.value (.bool e)) w:=by intro _;kernel_rfl):EG M P n N R X ops k0 hr AL L Γ w h :=
 Rg.pure i t _ (jB a).1 (jB a).2 (fun w=>c▸hv w) H
theorem eI (i t:Nat)(m:Int)(H:EG M P n N R X ops k0 hr AL (L.setIfInBounds i true) ((t,.int .i64 m)::Γ) w h)(a:cE n ops k0 AL L Γ i t=true:=by kernel_rfl)(hv:∀ w,(execOp (ev Γ) (am ops i)).run P w=.ok (.value (.int .i64 (IntKind.wrap .i64 m))) w:=by intro _;kernel_rfl)(h0 : -9223372036854775808<=m:=by omega)(h1:m<=9223372036854775807:=by omega):EG M P n N R X ops k0 hr AL L Γ w h :=
 Rg.pure i t _ (jB a).1 (jB a).2 (fun w=>by have:=hv w;rw[gL h0 h1] at this;exact this) H
theorem jX (i t:Nat)(m:Int)(j:Nat)(H:EG M P n N R X ops k0 hr AL (L.setIfInBounds i true) ((t,.int .i64 (j:Int))::Γ) w h)(a:cE n ops k0 AL L Γ i t=true:=by kernel_rfl)(hv:∀ w,(execOp (ev Γ) (am ops i)).run P w=.ok (.value (.int .i64 (IntKind.wrap .i64 m))) w:=by intro _;kernel_rfl)(b:m=j:=by omega)(h1:m<=9223372036854775807:=by omega):EG M P n N R X ops k0 hr AL L Γ w h :=
 Rg.pure i t _ (jB a).1 (jB a).2 (fun w=>by have:=hv w;rw[gL oM h1,b] at this;exact this) H
theorem eG (i t:Nat)(H:EG M P n N R X ops k0 hr AL (L.setIfInBounds i true) ((t,undef)::Γ) w h)(b:dX n ops k0 AL L i t=true:=by kernel_rfl)(a:be ops Γ (am ops i)=some false:=by kernel_rfl):EG M P n N R X ops k0 hr AL L Γ w h:=Rg.skip i t b a H
theorem eO (i t:Nat)(ps:List (Nat × Nat × Nat))(v:Value)(s:SS w0 h0 w h B Rs F)(H:EG M P n N R X ops k0 hr AL (L.setIfInBounds i true) ((t,v)::Γ) w h)(hM:∀ p∈ps,(av B p.1).b ∉ M.l:=by intro _ _;exact List.not_mem_nil)(a:B5 n ops k0 AL L Γ i t=true:=by kernel_rfl)(c:dj B ps=true:=by kernel_rfl)(d:cl P (execOp (ev Γ) (am ops i)) (dQ B ps)=some (.value v,cM B ps):=by kernel_rfl):EG M P n N R X ops k0 hr AL L Γ w h :=
 Rg.own i t ps v s.st (iE a).1 (iE a).2 hM c d H
theorem eH (i t:Nat)(v:Value){b o:Nat}{cs:List Value}(s:SS w0 h0 w h B Rs F)(sg:Seg h b o cs)(H:EG M P n N R X ops k0 hr AL (L.setIfInBounds i true) ((t,v)::Γ) w h)(hM:∀ b∈M.l,h[b]?=some bc:=by intro _ hb;cases hb)(a:B5 n ops k0 AL L Γ i t=true:=by kernel_rfl)(c:cl P (execOp (ev Γ) (am ops i)) cs=some (.value v,k8 b o cs.length):=by kernel_rfl):EG M P n N R X ops k0 hr AL L Γ w h :=
 Rg.load i t v (iE a).1 (iE a).2 (fun _ d=>Seg.runM sg s.g hM d c) H
theorem vy (i t:Nat)(v:Value){u:Value}{b o:Nat}{cs:List Value}(s:SS w0 h0 w h B Rs F)(sg:Seg h b o cs)(e:v=u)(H:EG M P n N R X ops k0 hr AL (L.setIfInBounds i true) ((t,u)::Γ) w h)(hM:∀ b∈M.l,h[b]?=some bc:=by intro _ hb;cases hb)(a:B5 n ops k0 AL L Γ i t=true:=by kernel_rfl)(c:cl P (execOp (ev Γ) (am ops i)) cs=some (.value v,k8 b o cs.length):=by kernel_rfl):EG M P n N R X ops k0 hr AL L Γ w h :=
 Rg.load i t u (iE a).1 (iE a).2 (fun _ d=>e▸Seg.runM sg s.g hM d c) H
theorem eX (i t:Nat)(A:Option Addr)(len b sz:Nat)(x:Int)(j:Nat)(d:A=some ⟨aB A,aO A,none⟩)(H:EG M P n N R X ops k0 hr AL (L.setIfInBounds i true) ((t,.pointer (some ⟨aB A,aO A+j*sz,none⟩))::Γ) w h)(c:cE n ops k0 AL L Γ i t=true:=by kernel_rfl)(e:EC P (ev Γ) (am ops i)=some (.slice A len b,.int .i64 x,sz):=by kernel_rfl)(hk:x=j:=by omega)(a:j<len:=by omega):EG M P n N R X ops k0 hr AL L Γ w h :=
 Rg.pure i t _ (jB c).1 (jB c).2 (im e d hk a) H
theorem eT (i t:Nat)(A:Option Addr)(len a sz:Nat)(x:Int)(j:Nat)(H:EG M P n N R X ops k0 hr AL (L.setIfInBounds i true) ((t,.slice A j a)::Γ) w h)(c:cE n ops k0 AL L Γ i t=true:=by kernel_rfl)(d:Ca P (ev Γ) (am ops i)=some (.slice A len a,none,some (.int .i64 x),sz):=by kernel_rfl)(hk:x=j:=by omega)(b:j<=a:=by omega):EG M P n N R X ops k0 hr AL L Γ w h :=
 Rg.pure i t _ (jB c).1 (jB c).2 (sl j d hk b) H
theorem eQ {α:Type}(i t j:Nat)(l:List α)(f:α->List Value)(sz:Nat)(d:α)(e:Nat)(v:Value)(s:SS w0 h0 w h B Rs F)(hk:e<l.length)(H:EG M P n N R X ops k0 hr AL (L.setIfInBounds i true) ((t,v)::Γ) w h)(hM:(av B j).b ∉ M.l:=by exact List.not_mem_nil)(a:B5 n ops k0 AL L Γ i t=true:=by kernel_rfl)
  (c:decide (j<B.length)=true:=by kernel_rfl)(hB:(av B j).vs=l.flatMap f:=by kernel_rfl)(hf:∀ x,(f x).length=sz:=by intro _;rfl)
  (o:cl P (execOp (ev Γ) (am ops i)) (f (l.getD e d))=some (.value v,k8 (av B j).b (0+e*sz) (f (l.getD e d)).length):=by kernel_rfl):EG M P n N R X ops k0 hr AL L Γ w h :=
 Rg.ownA i t j l f sz d e v s.st (iE a).1 (iE a).2 hM c hB hf hk o H
theorem eC (i t:Nat){f:FuncId}{args:Array Value}{Φ:World->Hp->Value->Hp->Prop}(s:SS w0 h0 w h B Rs F)(c:∀ w1 h1,SS w0 h0 w1 h1 B Rs F->Calls P f args w1 (Ret w1 h1 (Φ w1 h1)))(H:∀ w1 h1 v w' h',SS w0 h0 w' h' B Rs F->Φ w1 h1 v h'->EG M P n N R X ops k0 hr AL (L.setIfInBounds i true) ((t,v)::Γ) w' h')(b:EP n ops k0 AL L Γ i t=true:=by kernel_rfl)(hv:∀ w,(execOp (ev Γ) (am ops i)).run P w=.ok (.enter f args) w:=by intro _;kernel_rfl):EG M P n N R X ops k0 hr AL L Γ w h :=
 Rg.call i t f args (jh b).1 (jh b).2 hv (fun w1 h1 u=>(c w1 h1 (s.step u)).mono fun e w' ⟨v,h',j,d,a⟩=>⟨v,h',j,d.m M.l,H w1 h1 v w' h' ((s.step u).step d) a⟩)
theorem eR (i t:Nat)(ty:TypeId)(m:Nat)(cs:List Value)(s:SS w0 h0 w h B Rs F)(H:∀ b w' h',SS w0 h0 w' h' B Rs ((fun h=>Seg h b 0 cs)::F)->EG M P n N R X ops k0 hr AL (L.setIfInBounds i true) ((t,.slice (some ⟨b,0,none⟩) m m)::Γ) w' h')(a:EP n ops k0 AL L Γ i t=true:=by kernel_rfl)
  (hv:∀ w,(execOp (ev Γ) (am ops i)).run P w=.ok (.value (.slice (some ⟨w.heap.size,0,none⟩) m m)) (w.alloc (.cells cs.toArray ty (0,0))):=by intro _;kernel_rfl):EG M P n N R X ops k0 hr AL L Γ w h :=
 Rg.row i t ty m cs (jh a).1 (jh a).2 hv (fun b w' h' u sg=>H b w' h' ((s.step u).a_Seg sg))
theorem eY {α:Type}(i t j:Nat)(ty:TypeId)(sz c:Nat)(A:Option Addr)(l:List α)(f:α->List Value)(x:α)(W b:Nat)(z:Value)(s:SS w0 h0 w h B Rs F)(sg:∀ h,AllF F h->Seg h b 0 (f x))(U:∀ b,(Value.slice A l.length c).ownBlock=some b->b∈M.l)
  (H:∀ O c' w' h',SS w0 h0 w' h' B (Rs.set j ⟨ty,sz,O,c',(l++[x]).length,(l++[x]).flatMap f⟩) F->EG M P n N R X ops k0 hr AL (L.setIfInBounds i true) ((t,.slice O (l++[x]).length c')::Γ) w' h')
  (K:EP n ops k0 AL L Γ i t=true:=by kernel_rfl)(he:p8 P (ev Γ) (am ops i)=some (.slice A l.length c,.slice (some ⟨b,0,none⟩) 1 1,ty,z,sz,W):=by kernel_rfl)(S:z.cells.size=sz:=by kernel_rfl)(I:0<sz:=by decide)
  (V:Rs.getD j default=⟨ty,sz,A,c,l.length,l.flatMap f⟩:=by kernel_rfl)(hj:decide (j<Rs.length)=true:=by kernel_rfl)(h1:(f x).all (·.oneCell')=true:=by kernel_rfl)(hl:(f x).length=1*sz:=by kernel_rfl)(hm:l.length+1<=1099511627776:=by omega)(hb:(l.length+1)*W<=140737488355328:=by omega):EG M P n N R X ops k0 hr AL L Γ w h:=by
 have d:=oT hj;refine Rg.event i t (jh K).1 (jh K).2 (fun w1 h1' u=>?_);have D:=s.step u;obtain ⟨x',y,ty',ho,hx,Z,Q,hi⟩:=js he;have r:=D.ro _ (gq d);have p:=eN V d;rw[p] at r
 obtain ⟨v',w',a,ow,o,C⟩:=lc (P:=P) ho hx Z Q hi S I D.st r hl (j5 D.g (sg _ D.f)) (fun u Q=>(o0.1 h1) u Q) hm hb;have Y:=D.grown (j:=j) d (w':=w') (v':=v') (m2:=1) (news:=f x) (by rw[p];exact ow) (by rw[p];exact o) (by rw[p];exact C);rw[p] at Y
 obtain ⟨h',O,c',rfl,e2,J⟩:=Y;have e1:l.length+1=(l++[x]).length:=by simp
 simp only[] at J
 rw[mB,e1] at J
 rw[e1] at a
 exact .inl ⟨_,w',h',a,⟨⟨o.os,o.tape,o.output,o.size,fun c K hn=>o.block c K (fun e=>hn (U c e.symm))⟩,e2,J.g⟩,H O c' w' h' J⟩
theorem bP (s:SS w0 h0 w h B Rs F)(H:∀ w' h',SS w0 h0 w' h' B Rs F->AG M P n N R X ops k0 L Γ w')(a:gM ops [] L=true:=by kernel_rfl):EG M P n N R X ops k0 hr [] L Γ w h:=Rg.fin0 a (fun w' h' u=>H w' h' (s.step u))
def cT (n:Nat)(ops:Array Oper)(k0:Nat)(L:Array Bool)(Γ:bU)(i t:Nat):Bool:=g7 ops k0 L i && aZ Γ (am ops i) && ((am ops i).dst == some t) && decide (t<n) && (be ops Γ (am ops i) == some true)
def HT (ops:Array Oper)(k0:Nat)(L:Array Bool)(Γ:bU)(i:Nat):Bool:=g7 ops k0 L i && aZ Γ (am ops i) && ((am ops i).dst == none) && (be ops Γ (am ops i) == some true)
theorem jf {i t:Nat}(h:cT n ops k0 L Γ i t=true):(g7 ops k0 L i && aZ Γ (am ops i) && ((am ops i).dst == some t) && decide (t<n))=true/\be ops Γ (am ops i)=some true:=by
 unfold cT at h;rw[na] at h;exact ⟨h.1,by simpa using h.2⟩
theorem kO {i:Nat}(h:HT ops k0 L Γ i=true):(g7 ops k0 L i && aZ Γ (am ops i) && ((am ops i).dst == none))=true/\be ops Γ (am ops i)=some true:=by
 unfold HT at h;rw[na] at h;exact ⟨h.1,by simpa using h.2⟩
theorem tV (i t:Nat)(v:Value)(H:AG M P n N R X ops k0 (L.setIfInBounds i true) ((t,v)::Γ) w)(a:cT n ops k0 L Γ i t=true:=by kernel_rfl)(hv:(execOp (ev Γ) (am ops i)).run P w=.ok (.value v) w:=by kernel_rfl):AG M P n N R X ops k0 L Γ w:=T.val i t v w (jf a).1 (jf a).2 hv H
theorem tP (i j o:Nat)(cs:List Value)(s:SS w0 h0 w h B Rs F)(H:∀ w',SS w0 h0 w' h (gJ B j o cs) Rs F->AG M P n N R X ops k0 (L.setIfInBounds i true) Γ w')(c:HT ops k0 L Γ i=true:=by kernel_rfl)
  (a:(decide (j<B.length) && decide (o+cs.length<=(av B j).vs.length))=true:=by kernel_rfl)(d:dK P (execOp (ev Γ) (am ops i))=some (.skip,lm (av B j).b o cs):=by kernel_rfl)(hz:∀ K bs,M.z=some (K,bs)->K<=(av B j).b\/(av B j).b∈bs:=by intro _ _ e;cases e):AG M P n N R X ops k0 L Γ w :=
 T.put i j o cs s.st s.g0 (kO c).1 (kO c).2 a d (fun w' p f=>H w' (s.put0 (oT (na _ _▸a).1) p f (oz (oT (na _ _▸a).1)))) hz
theorem tW {α:Type}(i j:Nat)(l:List α)(f:α->List Value)(sz e:Nat)(x:α)(s:SS w0 h0 w h B Rs F)(hk:e<l.length)(H:∀ w',SS w0 h0 w' h (gK B j ((l.set e x).flatMap f)) Rs F->AG M P n N R X ops k0 (L.setIfInBounds i true) Γ w')(c:HT ops k0 L Γ i=true:=by kernel_rfl)
  (a:decide (j<B.length)=true:=by kernel_rfl)(hB:(av B j).vs=l.flatMap f:=by kernel_rfl)(hf:∀ x,(f x).length=sz:=by intro _;rfl)
  (o:dK P (execOp (ev Γ) (am ops i))=some (.skip,lm (av B j).b (0+e*sz) (f x)):=by kernel_rfl)(hz:∀ K bs,M.z=some (K,bs)->K<=(av B j).b\/(av B j).b∈bs:=by intro _ _ e;cases e):AG M P n N R X ops k0 L Γ w :=
 T.putA i j l f sz e x s.st s.g0 (kO c).1 (kO c).2 a hB hf hk o (fun w' p d=>H w' (s.put0 (oT a) p d (kB (oT a)))) hz
theorem tN {y:Code}{N' R':Po}{X':Nat->Po}(H:CG P n N' R' X' y Γ w)(b:(Region.ready .any ops L).isEmpty=true:=by kernel_rfl):AG M P n (fun a w=>y.wp P (iG N' R' X') a w) R X ops k0 L Γ w:=T.next b H
theorem rD {id:Nat}{b:Array Oper}{y:Code}{N' R':Po}{X':Nat->Po}(H:LG P n (fun a w=>y.wp P (iG N' R' X') a w) R' X' b 0 Γ w)(c:(Region.ready .any ops L).isEmpty=true:=by kernel_rfl):AG M P n (fun a w=>(Code.seq (.region id b false) y).wp P (iG N' R' X') a w) R X ops k0 L Γ w:=tN (ax H) c
theorem tD (H:∀ a,Kn n a Γ->N a w)(b:(Region.ready .any ops L).isEmpty=true:=by kernel_rfl):AG M P n N R X ops k0 L Γ w:=T.done b H
theorem cR {id:Nat}{d:Bool}(k0:Nat)(AL:List Al)(e:P.follows .mixedOrders=true)(s:SS w0 h0 w h B Rs F)(b:∀ x∈AL,AlOk P ops k0 x)(H:EG ⟨[],none⟩ P n N R X ops k0 h AL (tj ops.size false) Γ w h)(a:lk ops=true:=by kernel_rfl):CG P n N R X (.region id ops d) Γ w :=
 CG.region ⟨[],none⟩ k0 AL e a s.g b (fun _ c=>by cases c) H
end drawn
theorem au {M:Ms}{P:Program}{n:Nat}{N R:Po}{X:Nat->Po}{ops:Array Oper}{k0:Nat}{hr:Hp}{AL:List Al}{L:Array Bool}{Γ:bU}{w w0:World}{h h0:Hp}{B:List Bx}{Rs:List Rw}{F:List (Hp->Prop)}(i t:Nat){f:FuncId}{args:Array Value}{x:Value}(s:SS w0 h0 w h B Rs F)(c:∀ w1 h1,SS w0 h0 w1 h1 B Rs F->Calls P f args w1 (Ret w1 h1 fun v _=>v=x))(H:∀ w1 h1,SS w0 h0 w1 h1 B Rs F->EG M P n N R X ops k0 hr AL (L.setIfInBounds i true) ((t,x)::Γ) w1 h1)(b:EP n ops k0 AL L Γ i t=true:=by kernel_rfl)(hv:∀ w,(execOp (ev Γ) (am ops i)).run P w=.ok (.enter f args) w:=by intro _;kernel_rfl):EG M P n N R X ops k0 hr AL L Γ w h:=eC i t s c (fun _ _ v w1 h1 a e=>by subst e;exact H w1 h1 a) b hv
theorem DM {w:World}{h:Hp}(g:G w h){b:Nat}{ty:TypeId}{vs:List Value}(j:h[b]?=some bc)(o:Own w b ty vs):∃ d,G w d/\Gw h d/\Seg d b 0 vs/\∀ c,c≠b->d[c]?=h[c]?:=by
 have a:=aJ j;refine ⟨h.setIfInBounds b (.cells vs.toArray ty (0,0)),⟨by simp;exact g.size,fun c=>?_⟩,⟨by simp,fun c f=>?_⟩,fun i v hv=>?_,fun c f=>la (Ne.symm f)⟩
 ·by_cases e:b=c
  ·subst e;left;rw[FA a];exact o.symm
  ·rw[la e];exact g.blk c
 ·by_cases e:b=c
  ·subst e;exact .inr j
  ·left;rw[la e]
 ·unfold d7
  rw[FA a]
  simpa using hv
theorem rL {w w':World}{h d h':Hp}{b:Nat}(j:h[b]?=some bc)(o:∀ c,c≠b->d[c]?=h[c]?)(f:d.size=h.size)(u:Up w d w' h'):∃ i,Up w h w' i:=by
 have l:=aJ j;have a:b<h'.size:=e5 oM u.gr.size;refine ⟨h'.setIfInBounds b bc,u.ext,⟨by simp;rw[<-f];exact u.gr.size,fun c p=>?_⟩,⟨by simp;exact u.g.size,fun c=>?_⟩⟩
 ·by_cases e:b=c
  ·subst e;rw[FA a,j]
  ·rw[la e,u.gr.blk c oM,o c (Ne.symm e)]
 ·by_cases e:b=c
  ·subst e;right;rw[FA a]
  ·rw[la e];exact u.g.blk c
theorem G.sz {w:World}{h h':Hp}(g:G w h)(a:G w h'):h'.size=h.size:=by rw[<-g.size,<-a.size]
section lent
variable {M:Ms} {P:Program} {n:Nat} {N R:Po} {X:Nat->Po} {ops:Array Oper} {k k0:Nat} {hr:Hp} {AL:List Al} {L:Array Bool} {Γ:bU} {w:World} {h:Hp} {w0:World} {h0:Hp} {B:List Bx} {Rs:List Rw} {F:List (Hp->Prop)}
theorem SS.lends (s:SS w0 h0 w h B Rs F){j:Nat}(o:j<B.length){f:FuncId}{args:Array Value}{Φ:Value->Prop}(c:∀ a,G w a->AllF F a->Seg a (av B j).b 0 (av B j).vs->Calls P f args w (Ret w a (fun v _=>Φ v))):Calls P f args w (Ret w h (fun v _=>Φ v)):=by
 have l:=bp o;obtain ⟨a,g,gw,sg,y⟩:=DM s.g (s.st.jk _ l) (s.st.own _ l);refine (c a g (s.f.gw s.mo gw) sg).mono ?_;rintro e w' ⟨v,h',x,u,i⟩;obtain ⟨d,p⟩:=rL (s.st.jk _ l) y (s.g.sz g) u;exact ⟨v,d,x,p,i⟩
theorem KB (t j:Nat){f:FuncId}{args:Array Value}{Φ:Value->Prop}(s:SS w0 h0 w h B Rs F)(c:∀ hp,G w hp->AllF F hp->Seg hp (av B j).b 0 (av B j).vs->Calls P f args w (Ret w hp (fun v _=>Φ v)))(H:∀ v w' h',SS w0 h0 w' h' B Rs F->Φ v->LG P n N R X ops (k+1) ((t,v)::Γ) w')(d:decide (j<B.length)=true:=by kernel_rfl)(a:cL ops Γ k t n=true:=by kernel_rfl)(hr:(execOp (ev Γ) (am ops k)).run P w=.ok (.enter f args) w:=by kernel_rfl):LG P n N R X ops k Γ w :=
 lC t s (s.lends (oT d) c) H a hr
end lent
section unroll
variable {P:Program} {n:Nat} {N R:Po} {X:Nat->Po} {Γ:bU} {w:World}
def KW (P:Program)(N R:Po)(X:Nat->Po)(c:Code)(a:Act)(w:World):Prop:=∀ (b:Frame) (k:List Item) (cs:List Frame),∃ e a' w',iG N R X e a' w'/\Arrives P (lone (b.at a (.code c::.inLoop c::k)) cs w) b k cs e a' w'
def CL (P:Program)(n:Nat)(N R:Po)(X:Nat->Po)(c:Code)(Γ:bU)(w:World):Prop:=∀ a,Kn n a Γ->KW P N R X c a w
theorem cU {c:Code}(H:CL P n N R X c Γ w):CG P n N R X (.loop c) Γ w:=fun a f b k cs=>by
 obtain ⟨e,h,w',hq,d⟩:=H a f b k cs;exact ⟨e,h,w',hq,.of_steps (.one step_loop) d⟩
theorem cN {c:Code}(H:CG P n (KW P N R X c) R X c Γ w):CL P n N R X c Γ w:=fun a y b k cs=>by
  obtain ⟨e,h,i,hq,d⟩:=H a y b (.inLoop c::k) cs;cases e with
  | normal =>
    obtain ⟨p,u,o,j,f⟩:=hq b k cs;exact ⟨p,u,o,j,.of_steps (Steps.trans d (.one step_inLoop)) f⟩
  | exit id=>exact ⟨.exit id,h,i,hq,.pass (x:=.inLoop c) rfl (fun _ _=>.inl (by simp)) d⟩
  | goto l=>exact hq.elim
  | ret=>exact ⟨.ret,h,i,hq,.pass (x:=.inLoop c) rfl (fun _ _=>.inl (by simp)) d⟩
  | panic ch=>exact hq.elim
  | outgrown=>exact hq.elim
theorem CL.to {c:Code}(Γ':bU)(H:CL P n N R X c Γ' w)(b:jK Γ (Γ'.map (·.1))=Γ':=by kernel_rfl)(e:gk Γ'=gk Γ:=by kernel_rfl):CL P n N R X c Γ w:=fun a d=>H a (d.to Γ' b e)
end unroll
def Nw (K:Nat)(h:Hp)(b:Nat)(t:TypeId)(cs:List Value):Prop:=K<=b/\t≠0/\h[b]?=some (.cells cs.toArray t (0,0))
theorem Nw.gw {K:Nat}{h h':Hp}{b:Nat}{t:TypeId}{cs:List Value}(x:Nw K h b t cs)(u:Gw h h'):Nw K h' b t cs:=by
 obtain ⟨h1,c,a⟩:=x;refine ⟨h1,c,?_⟩
 rcases u.blk b (aJ a) with e|e
 ·exact e.trans a
 ·rw[e] at a
  injection a with a
  unfold bc at a
  injection a with _ h4
  exact absurd h4.symm c
theorem Nw.mono {K a:Nat}{h:Hp}{b:Nat}{t:TypeId}{cs:List Value}(x:Nw a h b t cs)(k:K<=a):Nw K h b t cs:=⟨e4 k x.1,x.2⟩
theorem Nw.seg {K:Nat}{h:Hp}{b:Nat}{t:TypeId}{cs sp:List Value}(x:Nw K h b t (cs++sp)):Seg h b 0 cs:=fun i v hv=>by
 unfold d7
 rw[x.2.2];have hi:i<cs.length:=(LA.1 hv).1
 simp only[Ab,List.getElem?_toArray]
 rw[wj hi];exact hv
theorem Nw.seg0 {K:Nat}{h:Hp}{b:Nat}{t:TypeId}{cs:List Value}(x:Nw K h b t cs):Seg h b 0 cs:=Nw.seg (sp:=[]) (by rw[List.append_nil];exact x)
section ss
variable {w0:World} {h0:Hp} {w:World} {h:Hp} {B:List Bx} {R:List Rw} {F:List (Hp->Prop)}
theorem SS.pubn (s:SS w0 h0 w h B R F)(j:Nat){ty:TypeId}{sz c:Nat}{A:Option Addr}{α:Type}{f:α->List Value}{l:List α}(Q:0<l.length)(hr:R.getD j default=⟨ty,sz,A,c,l.length,l.flatMap f⟩:=by kernel_rfl)(U:decide (j<R.length)=true:=by kernel_rfl)(O:(ty == 0)=false:=by kernel_rfl) :
  ∃ h' b sp,SS w0 h0 w h' B (R.eraseIdx j) ((fun h=>Nw h0.size h b ty (l.flatMap f++sp))::F)/\A=some ⟨b,0,none⟩/\l.length<=c:=by
 have a:=oT U;have e0:R[j]=⟨ty,sz,A,c,l.length,l.flatMap f⟩:=by rw[<-hr];simp[a]
 have V:R[j]∈R:=gq a;have H:=s.ro _ V;rw[e0] at H
 have M:∀ r∈R.eraseIdx j,Apart r.v R[j].v:=by
  intro r hr;obtain ⟨i,hi,I⟩:=vi.1 hr;rw[Gb] at I
  have d:=HA.1 s.ap
  split at I
  ·rename_i S;rw[<-I];exact d i j oM a S
  ·rename_i S
   rw[<-I];have L:i+1<R.length:=by rw[Gx a] at hi;omega
   exact (d j (i+1) a L oM).symm
 have y:ty≠0:=by simpa using O
 rcases H.own with ⟨h1,⟨e,e2⟩|⟨b,cap',cur,e,hbb,hg,hn,hm2,hs,ht⟩⟩
 ·simp only[] at e2;omega
 ·simp only[Rw.v] at e
  injection e with e1 e2 e3
  subst e1 e3;have z:=H.jk b rfl;have C:=aJ z;have o:∀ x∈B,x.b≠b:=fun x J e=>H.ap b rfl (g1.2 ⟨x,J,e⟩)
  have gw:Gw h (h.setIfInBounds b (.cells cur ty)):=⟨by simp,fun c K=>by
   by_cases e:b=c
   ·subst e;exact .inr z
   ·left;rw[la e]⟩
  have D:cur.toList=l.flatMap f++cur.toList.drop (l.length*sz):=by
   simp only[] at ht
   rw[<-ht,List.take_append_drop]
  refine ⟨h.setIfInBounds b (.cells cur ty),b,cur.toList.drop (l.length*sz),⟨s.g0,⟨⟨s.st.up.ext,⟨by simp;exact s.st.up.gr.size,fun c K=>?_⟩,⟨by simp;exact s.st.up.g.size,fun c=>?_⟩⟩,s.st.own,?_,s.st.lo,s.st.nd⟩,?_,s.ap.sublist (Hi R j),?_,⟨hbb,y,?_⟩,s.f.gw s.mo gw⟩,rfl,hn⟩
  ·rw[la oM];exact s.st.up.gr.blk c K
  ·by_cases e:b=c
   ·subst e;left;rw[FA C];exact hg.symm
   ·rw[la e];exact s.st.up.g.blk c
  ·intro x J
   rw[la (Ne.symm (o x J))];exact s.st.jk x J
  ·intro r hr
   refine (s.ro r (G1 hr)).pubo (u:=.slice (some ⟨b,0,none⟩) l.length c) (fun c' K=>?_) (by have:=M r hr;rw[e0] at this;exact this);rw[la (fun e=>K (by rw[<-e];rfl))]
  ·intro p d
   rcases g4.1 d with rfl|d
   ·exact fun _ _ u x=>x.gw u
   ·exact s.mo p d
  ·rw[<-D,FA C]
end ss
theorem nt {vs cs:List Value}{o:Nat}(h:(vs.drop o).take cs.length=cs)(i:Nat)(v:Value)(hv:cs[i]?=some v):vs[o+i]?=some v:=by
 have hi:i<cs.length:=(LA.1 hv).1;rw[<-h,yh hi,yy] at hv
 exact hv
section laws
variable {M:Ms} {P:Program} {n:Nat} {N R:Po} {X:Nat->Po} {ops:Array Oper} {k k0:Nat} {hr:Hp} {AL:List Al} {L:Array Bool} {Γ:bU} {w:World} {h:Hp} {w0:World} {h0:Hp} {B:List Bx} {Rs:List Rw} {F:List (Hp->Prop)}
theorem kf:∀ (cs vs:List Value) (o:Nat),(bW vs o cs).length=vs.length
 | [],_,_=>rfl
 | c::cs,vs,o=>by show (bW (vs.set o c) (o+1) cs).length=_;rw[kf,LB]
theorem SlO.flat {α:Type}{sz:Nat}{f:α->List Value}{d:α}{A:Option Addr}:∀ {l:List α},(∀ x,(f x).length=sz)->SlO sz f d h A l->Seg h (aB A) (aO A) (l.flatMap f)
  | l,hf,s=>fun i v hv=>by
    have hi:i<(l.flatMap f).length:=(LA.1 hv).1;rw[bV hf] at hi
    rcases Ga sz with h0'|hp
    . subst h0';simp at hi
    . have hk:i/sz<l.length:=(Nat.div_lt_iff_lt_mul hp).2 hi
      have hr:i%sz<sz:=Nat.mod_lt _ hp;have b:=s.el (i/sz) hk (i%sz) v;have c:=fP hf d l (i/sz) hk;have a:i/sz*sz+i%sz=i:=by rw[LC];exact Nat.div_add_mod i sz
      have:=b (by rw[<-c,yh hr,yy,a];exact hv)
      rwa [y3,a] at this
theorem gW {b o:Nat}{news:List Value}(g:G w h)(sg:Seg h b o news):∀ j u,news[j]?=some u->w.cell? ((⟨b,o,none⟩:Addr).add j)=some u:=by
 intro j u a;have:=kW g (sg j u a)
 unfold Addr.add
 split
 ·rename_i h0;subst h0;exact this
 ·exact this
theorem qV {α:Type}{f:α->List Value}{l m:List α}:l.flatMap f++m.flatMap f=(l++m).flatMap f:=by simp
theorem KY {α:Type}(t j:Nat)(ty:TypeId)(sz c:Nat)(A:Option Addr)(l:List α)(f:α->List Value)(d:α)(C:Option Addr)(m:List α)(c2 y:Nat)(z:Value)(s:SS w0 h0 w h B Rs F)(so:SlO sz f d h C m)(o:0<m.length)
  (H:∀ e c' w' h',SS w0 h0 w' h' B (Rs.set j ⟨ty,sz,e,c',(l++m).length,(l++m).flatMap f⟩) F->LG P n N R X ops (k+1) ((t,.slice e (l++m).length c')::Γ) w')
  (M:cL ops Γ k t n=true:=by kernel_rfl)(D:p8 P (ev Γ) (am ops k)=some (.slice A l.length c,.slice C m.length c2,ty,z,sz,y):=by kernel_rfl)(hf:∀ x,(f x).length=sz:=by intro _;rfl)(h1:∀ x,(f x).all (·.oneCell')=true:=by intro _;kernel_rfl)(i:z.cells.size=sz:=by kernel_rfl)(a:0<sz:=by decide)
  (hr:Rs.getD j default=⟨ty,sz,A,c,l.length,l.flatMap f⟩:=by kernel_rfl)(J:decide (j<Rs.length)=true:=by kernel_rfl)(Q:l.length+m.length<=1099511627776:=by omega)(K:(l.length+m.length)*y<=140737488355328:=by omega):LG P n N R X ops k Γ w:=by
 have b:=oT J;have O:=so.ok o;rw[O] at D
 refine Kb t j (m.flatMap f) s (gW s.g (so.flat hf)) (bV hf m) (fun u I=>?_) b (eN hr b) M D i a Q K (fun e c' w' h' p=>?_)
 ·obtain ⟨x,_,L⟩:=LD.1 I
  exact (o0.1 (h1 x)) u L
 ·have e1:l.length+m.length=(l++m).length:=by simp
  rw[qV,e1] at p
  rw[e1];exact H e c' w' h' p
theorem SS.newr {α:Type}{f:α->List Value}{l:List α}{sz:Nat}(s:SS w0 h0 w h B Rs F)(ty:TypeId)(hf:∀ x,(f x).length=sz)(i:l.length<=maxLen):SS w0 h0 (w.alloc (.cells (l.flatMap f).toArray ty (0,0))) (h.push bc) B (⟨ty,sz,some ⟨w.heap.size,0,none⟩,l.length,l.length,l.flatMap f⟩::Rs) F:=by
  have u:Up w h (w.alloc (.cells (l.flatMap f).toArray ty (0,0))) (h.push bc):=Up.allocAny s.g _ _ (.inr rfl);have a:=s.step u;refine ⟨a.g0,a.st,fun r hr=>?_,Hj.2 ⟨fun r hr=>?_,a.ap⟩,a.mo,a.f⟩
  . rcases g4.1 hr with rfl|hr
    . refine ⟨⟨bV hf l,.inr ⟨w.heap.size,l.length,(l.flatMap f).toArray,rfl,by rw[s.g.size];exact s.st.sz,?_,ep _,i,?_,?_⟩⟩,fun b c=>?_,fun b c i=>?_⟩
      . rw[heap_alloc];exact gg
      . simp[<-bV hf l]
      . show List.take (l.length*sz) (l.flatMap f)=_
        rw[<-bV hf l];exact y8
      . simp[Rw.v,Value.ownBlock] at c
        subst c;rw[s.g.size];exact gg
      . simp[Rw.v,Value.ownBlock] at c
        obtain ⟨x,j,e⟩:=g1.1 i;have:=(s.st.own x j).lt;have o:x.b=b:=e
        omega
    . exact a.ro r hr
  . intro b c d
    have:=jF (s.ro r hr).own d
    simp[Rw.v,Value.ownBlock] at c
    omega
theorem HW {α:Type}(t:Nat)(ty:TypeId)(sz:Nat)(f:α->List Value)(l:List α)(s:SS w0 h0 w h B Rs F)(H:∀ b w' h',SS w0 h0 w' h' B (⟨ty,sz,some ⟨b,0,none⟩,l.length,l.length,l.flatMap f⟩::Rs) F->LG P n N R X ops (k+1) ((t,.slice (some ⟨b,0,none⟩) l.length l.length)::Γ) w')(a:cL ops Γ k t n=true:=by kernel_rfl)
  (hr:(execOp (ev Γ) (am ops k)).run P w=.ok (.value (.slice (some ⟨w.heap.size,0,none⟩) l.length l.length)) (w.alloc (.cells (l.flatMap f).toArray ty (0,0))):=by kernel_rfl)(hf:∀ x,(f x).length=sz:=by intro _;rfl)(c:Ly l.length 1000=true:=by kernel_rfl):LG P n N R X ops k Γ w :=
 LG.val t _ _ (bQ a).1 (bQ a).2 hr (H _ _ _ (s.newr ty hf (by have:=Lz c;unfold maxLen;omega)))
theorem nP (j o:Nat)(cs:List Value)(s:SS w0 h0 w h B Rs F)(H:∀ w',Put (av B j).b w w'->SS w0 h0 w' h (gJ B j o cs) Rs F->LG P n N R X ops (k+1) Γ w')(c:cS ops Γ k=true:=by kernel_rfl)
  (a:(decide (j<B.length) && decide (o+cs.length<=(av B j).vs.length))=true:=by kernel_rfl)(d:dK P (execOp (ev Γ) (am ops k))=some (.skip,lm (av B j).b o cs):=by kernel_rfl):LG P n N R X ops k Γ w :=
 LG.put j o cs s.st s.g0 (iu c).1 (iu c).2 a d (fun w' p e=>H w' p (s.put0 (oT (na _ _▸a).1) p e (oz (oT (na _ _▸a).1))))
theorem tX (i t:Nat)(A:Option Addr)(len b sz:Nat)(x:Int)(j:Nat)(d:A=some ⟨aB A,aO A,none⟩)(H:AG M P n N R X ops k0 (L.setIfInBounds i true) ((t,.pointer (some ⟨aB A,aO A+j*sz,none⟩))::Γ) w)(c:cT n ops k0 L Γ i t=true:=by kernel_rfl)(e:EC P (ev Γ) (am ops i)=some (.slice A len b,.int .i64 x,sz):=by kernel_rfl)(hk:x=j:=by omega)(a:j<len:=by omega):AG M P n N R X ops k0 L Γ w :=
 T.val i t _ w (jf c).1 (jf c).2 (im e d hk a w) H
theorem eK {α:Type}(i t:Nat)(ty:TypeId)(m sz y:Nat)(z:Value)(f:α->List Value)(d:α)(s:SS w0 h0 w h B Rs F)(H:∀ b w' h',SS w0 h0 w' h' (⟨b,ty,(As m d).flatMap f⟩::B) Rs F->EG M P n N R X ops k0 hr AL (L.setIfInBounds i true) ((t,.slice (some ⟨b,0,none⟩) m m)::Γ) w' h')(C:EP n ops k0 AL L Γ i t=true:=by kernel_rfl)
  (D:JZ P (ev Γ) (am ops i)=some (.int .i64 (m:Int),.int .i64 (m:Int),ty,z,sz,y):=by kernel_rfl)(o:z.cells.toList=f d:=by kernel_rfl)(e:z.cells.size=sz:=by kernel_rfl)(c:0<sz:=by decide)(I:y*m<=140737488355328:=by omega)(j:m<9223372036854775808:=by omega):EG M P n N R X ops k0 hr AL L Γ w h :=
 Rg.event i t (jh C).1 (jh C).2 (fun w1 h1 u=>by
  have a:=s.step u;have p:Up w1 h1 (w1.alloc (.cells ((As m d).flatMap f).toArray ty (0,0))) (h1.push bc):=Up.allocAny a.g _ _ (.inr rfl);refine .inl ⟨_,_,_,uh D o e c I j w1,p.m M.l,H _ _ _ (a.new p (by rw[a.g.size];exact ep _) (St.new1 (x:=⟨0,0,.cells ((As m d).flatMap f).toArray ty (0,0)⟩) a.st (a.st.step p) ⟨?_,?_,?_⟩ ty _ rfl))⟩
  ·rw[heap_alloc];exact gg
  ·rw[a.g.size];exact gg
  ·show h1.size<=w1.heap.size;rw[a.g.size];exact ep _)
theorem SS.blkp {F1:List (Hp->Prop)}{wr:World}{x:Al}{b:Nat}(a:List Bx)(j:SS w0 h0 wr hr B Rs F1)(s:SS w0 h0 w h (a++B) Rs F)(k:Blk hr w h (x,b))(t:TypeId)(vs:List Value)(p:x.o=.cells vs.toArray t (0,0))(u:a.all (fun y=>y.t != t)=true):SS w0 h0 w h (⟨b,t,vs⟩::(a++B)) Rs F :=
 ⟨s.g0,St.new j.st s.st (fun y d=>by
  rcases gx.1 d with d|d
  ·right
   intro e;have h1:=s.st.own y (List.mem_append_left _ d);have l:w.heap[b]?=some x.o:=k.1
   unfold Own at h1
   rw[e,l,p] at h1
   injection h1 with h1
   injection h1 with _ h3
   have:=(o0.1 u) y d
   simp only[bne_iff_ne,ne_eq] at this
   exact this h3.symm
  ·exact .inl (aJ (j.st.jk y d))) k t vs p,fun r i=>(s.ro r i).new b (fun c z e=>by
  have h1:=(j.ro r i).lt z;have l:hr.size<=b:=k.2.2
  omega),s.ap,s.mo,s.f⟩
theorem f0 {F1:List (Hp->Prop)}{wr:World}{x:Al}(a:List Bx)(c:SS w0 h0 wr hr B Rs F1)(s:SS w0 h0 w h (a++B) Rs F)(t:TypeId)(vs:List Value)(H:∀ w' h' b,SS w0 h0 w' h' (⟨b,t,vs⟩::(a++B)) Rs F->AG M P n N R X ops k0 (L.setIfInBounds x.i true) ((x.t,.pointer (some ⟨b,0,none⟩))::Γ) w')(f:(gM ops [x] L && decide (x.t<n))=true:=by kernel_rfl)(e:x.o=.cells vs.toArray t (0,0):=by kernel_rfl)(d:a.all (fun y=>y.t != t)=true:=by kernel_rfl):EG M P n N R X ops k0 hr [x] L Γ w h :=
 Rg.fin1 f (fun w' h' b u k=>H w' h' b (SS.blkp a c (s.step u) k t vs e d))
end laws
theorem SS.at_ {w:World}{h:Hp}{rb:Nat}{t:TypeId}{vs:List Value}(g:G w h)(o:Own w rb t vs)(j:h[rb]?=some bc):∃ w0 h0,SS w0 h0 w h [⟨rb,t,vs⟩] [] []:=by
 obtain ⟨w0,h0,c,b⟩:=St.at_ g o j;exact ⟨w0,h0,c,b,fun _ a=>(by cases a),.nil,fun _ a=>(by cases a),trivial⟩
theorem SlO.take {α:Type}{sz:Nat}{f:α->List Value}{d:α}{h:Hp}{A:Option Addr}{l:List α}(s:SlO sz f d h A l)(k:Nat):SlO sz f d h A (l.take k) :=
 ⟨fun a=>s.ok (by rw[LF] at a;omega),fun i hi=>by
  rw[LF] at hi
  have:=s.el i oM
  rwa [LH,yh oM,<-LH]⟩
theorem SlO.drop {α:Type}{sz:Nat}{f:α->List Value}{d:α}{h:Hp}{A:Option Addr}{l:List α}(s:SlO sz f d h A l)(k c:Nat)(j:l.length<=c):SlO sz f d h (if c=k then A else A.map (·.add (k*sz))) (l.drop k):=by
 rcases ea k l.length with hk|hk
 ·rw[if_neg oM]
  have b:=s.ok oM
  have a:(⟨aB A,aO A,none⟩:Addr).add (k*sz)=⟨aB A,aO A+k*sz,none⟩:=by
   unfold Addr.add
   split
   ·rename_i h0;rw[h0];rfl
   ·rfl
  have e:A.map (·.add (k*sz))=some ⟨aB A,aO A+k*sz,none⟩:=by rw[b];simp only[ua,aB,aO] at a ⊢;rw[<-a]
  refine ⟨fun _=>by rw[e];rfl,fun i hi=>?_⟩;rw[e]
  show Seg h (aB A) (aO A+k*sz+i*sz) _
  rw[List.length_drop] at hi
  have:=s.el (k+i) oM;rw[LI,<-y3] at this
  rwa [LH,yy,<-LH]
 ·rw[z2 hk];exact SlO.nil
section ss
variable {w0:World} {h0:Hp} {w:World} {h:Hp} {B:List Bx} {R:List Rw} {F:List (Hp->Prop)}
theorem SS.rowA (s:SS w0 h0 w h B R F)(j:Nat){ty:TypeId}{sz c m:Nat}{A:Option Addr}{cs:List Value}(d:0<m)(hr:R.getD j default=⟨ty,sz,A,c,m,cs⟩:=by kernel_rfl)(f:decide (j<R.length)=true:=by kernel_rfl):∃ b,A=some ⟨b,0,none⟩:=by
 have a:=oT f;have r:=s.ro _ (gq a);rw[eN hr a] at r
 rcases r.own with ⟨_,⟨_,e⟩|⟨b,cap,cur,e,_⟩⟩
 ·simp only[] at e;omega
 ·simp only[Rw.v] at e
  injection e with e
  exact ⟨b,e⟩
theorem SS.rowO (s:SS w0 h0 w h B R F)(j:Nat){ty:TypeId}{sz c m b:Nat}{cs:List Value}(hr:R.getD j default=⟨ty,sz,some ⟨b,0,none⟩,c,m,cs⟩)(a:j<R.length):∃ vs:List Value,Own w b ty vs/\vs.take (m*sz)=cs/\cs.length=m*sz/\h0.size<=b/\m<=c/\c<=maxLen/\vs.length=c*sz:=by
 have r:=s.ro _ (gq a);rw[eN hr a] at r
 rcases r.own with ⟨h1,⟨e,_⟩|⟨g,cap,cur,e,hb,hg,hn,hm,hs,ht⟩⟩
 ·simp[Rw.v] at e
 ·simp only[Rw.v] at e
  injection e with e1 e2 e3
  injection e1 with e1
  injection e1 with e1
  subst e1 e3;exact ⟨cur.toList,by simpa [Own] using hg,ht,h1,hb,hn,hm,by simpa using hs⟩
theorem Bc {vs cs:List Value}{k i:Nat}{v:Value}(h:vs.take k=cs)(hv:cs[i]?=some v):vs[i]?=some v:=by
 have hi:i<cs.length:=(LA.1 hv).1;rw[<-h] at hi
 rw[LF] at hi
 rw[<-h,yh oM] at hv
 exact hv
theorem mL:∀ (cs vs:List Value) (o k:Nat),o+cs.length<=k->(bW vs o cs).take k=bW (vs.take k) o cs
  | [],_,_,_,_=>rfl
  | c::cs,vs,o,k,h=>by
    show (bW (vs.set o c) (o+1) cs).take k=bW ((vs.take k).set o c) (o+1) cs
    rw[mL cs _ _ _ (by simp only[ub] at h;omega),List.take_set]
theorem SS.rowput (s:SS w0 h0 w h B R F)(j:Nat){ty:TypeId}{sz c m b o:Nat}{cs l:List Value}{w':World}{vs:List Value}(hr:R.getD j default=⟨ty,sz,some ⟨b,0,none⟩,c,m,cs⟩)(z:j<R.length)(p:Put b w w')(X:Own w' b ty (bW vs o l))(hv:vs.take (m*sz)=cs)(K:vs.length=c*sz)(Y:o+l.length<=cs.length):SS w0 h0 w' h B (R.set j ⟨ty,sz,some ⟨b,0,none⟩,c,m,bW cs o l⟩) F:=by
  have e0:=eN hr z;have r:=s.ro _ (gq z);rw[e0] at r
  have L:=r.jk b rfl;obtain ⟨_,_,_,O,y,U,J,_⟩:=s.rowO j hr z;have Q:∀ x∈B,x.b≠b:=fun x u e=>r.ap b rfl (g1.2 ⟨x,u,e⟩)
  have H:=HA.1 s.ap;refine ⟨s.g0,⟨s.st.up.put p L y s.g0.size,?_,s.st.jk,s.st.lo,s.st.nd⟩,?_,?_,s.mo,s.f⟩
  . intro x u
    show w'.heap[x.b]?=_
    rw[p.blk _ (Q x u)];exact s.st.own x u
  . intro x u
    obtain ⟨i,hi,D⟩:=vi.1 u;have a:i<R.length:=by simpa using hi
    by_cases e:j=i
    . subst e
      simp only[Lw] at D
      rw[<-D];refine ⟨⟨?_,.inr ⟨b,c,(bW vs o l).toArray,rfl,y,X,U,J,by simp[kf,K],?_⟩⟩,r.jk,r.ap⟩
      . show (bW cs o l).length=m*sz;rw[kf];exact O
      . show (bW vs o l).take (m*sz)=bW cs o l
        rw[mL _ _ _ _ oM,hv]
    . rw[Lv e] at D
      rw[<-D]
      have C:Apart R[i].v R[j].v:=by
        rcases H1 e with hl'|hl'
        . exact (H j i z a hl').symm
        . exact H i j a z hl'
      rw[e0] at C
      have M:=s.ro _ (gq a);exact ⟨em M.own (fun d V=>p.blk d (fun W=>C d V (by rw[W];rfl))),M.jk,M.ap⟩
  . refine HA.2 (fun i k hi hk I=>?_)
    have a:i<R.length:=by simpa using hi
    have S:k<R.length:=by simpa using hk
    have:=H i k a S I
    by_cases e:j=i
    . subst e
      rw[Lw,Lv oM];rw[e0] at this
      exact this
    . by_cases e2:j=k
      . subst e2
        rw[Lw,Lv oM];rw[e0] at this
        exact this
      . rw[Lv e,Lv e2]
        exact this
theorem SS.rown (s:SS w0 h0 w h B R F)(R':List Rw)(e:R=R'):SS w0 h0 w h B R' F:=e▸s
end ss
theorem jA {α:Type}{f:α->List Value}{sz:Nat}(hf:∀ x,(f x).length=sz)(d:α){o:Nat}{cs:List Value}:∀ (l:List α) (k:Nat) (x:α),k<l.length->o+cs.length<=sz->bW (f (l.getD k d)) o cs=f x->bW (l.flatMap f) (k*sz+o) cs=(l.set k x).flatMap f
  | [],k,x,h,_,_=>by simp at h
  | y::l,0,x,h,ho,e=>by
    simp only[y4,zZ,Ab,z7,z1] at e ⊢
    rw[<-e];exact putAt_left _ _ _ _ (by rw[hf];exact ho)
  | y::l,k+1,x,h,ho,e=>by
    simp only[y4,z8,y9] at e ⊢
    rw[zh,show k*sz+sz+o=(f y).length+(k*sz+o) by rw[hf];omega,fL,jA hf d l k x (by simpa using h) ho e]
where
  putAt_left:∀ (cs a b:List Value) (o:Nat),o+cs.length<=a.length->bW (a++b) o cs=bW a o cs++b
    | [],_,_,_,_=>rfl
    | c::cs,a,b,o,h=>by
      show bW ((a++b).set o c) (o+1) cs=bW (a.set o c) (o+1) cs++b
      simp only[ub] at h
      rw[List.set_append_left _ _ oM,putAt_left cs _ b _ (by rw[LB];omega)]
section laws
variable {M:Ms} {P:Program} {n:Nat} {N R:Po} {X:Nat->Po} {ops:Array Oper} {k k0:Nat} {hr:Hp} {AL:List Al} {L:Array Bool} {Γ:bU} {w:World} {h:Hp} {w0:World} {h0:Hp} {B:List Bx} {Rs:List Rw} {F:List (Hp->Prop)}
theorem SS.rowrun {α:Type}{w':World}{d:Sem α}{r:α}(s:SS w0 h0 w h B Rs F)(j:Nat){ty:TypeId}{sz c m b o:Nat}{cs e:List Value}(l:Rs.getD j default=⟨ty,sz,some ⟨b,0,none⟩,c,m,cs⟩)(u:j<Rs.length)(f:(cs.drop o).take e.length=e)(x:Ext w w')(y:cl P d e=some (r,k8 b o e.length)):d.run P w'=.ok r w':=by
 obtain ⟨vs,z,hv,_⟩:=s.rowO j l u;exact cZ _ _ _ _ y (fun i a v ha p=>by rw[fh _ _ _ _ _ ha,(z.ext x).cell];exact Bc hv (nt f i v p))
theorem JU (t j:Nat)(v:Value)(a:List Value){ty:TypeId}{sz c m b o:Nat}{cs:List Value}(s:SS w0 h0 w h B Rs F)(e:(cs.drop o).take a.length=a)(H:LG P n N R X ops (k+1) ((t,v)::Γ) w)(d:Rs.getD j default=⟨ty,sz,some ⟨b,0,none⟩,c,m,cs⟩:=by kernel_rfl)(l:decide (j<Rs.length)=true:=by kernel_rfl)(f:cL ops Γ k t n=true:=by kernel_rfl)(i:cl P (execOp (ev Γ) (am ops k)) a=some (.value v,k8 b o a.length):=by kernel_rfl):LG P n N R X ops k Γ w :=
 LG.val t v w (bQ f).1 (bQ f).2 (s.rowrun j d (oT l) e (Ext.refl _) i) H
theorem Le (j o:Nat)(a:List Value){ty:TypeId}{sz c m b:Nat}{cs:List Value}(s:SS w0 h0 w h B Rs F)(I:o+a.length<=cs.length)(H:∀ w',SS w0 h0 w' h B (Rs.set j ⟨ty,sz,some ⟨b,0,none⟩,c,m,bW cs o a⟩) F->LG P n N R X ops (k+1) Γ w')(d:Rs.getD j default=⟨ty,sz,some ⟨b,0,none⟩,c,m,cs⟩:=by kernel_rfl)(y:decide (j<Rs.length)=true:=by kernel_rfl)(u:cS ops Γ k=true:=by kernel_rfl)
  (C:dK P (execOp (ev Γ) (am ops k))=some (.skip,lm b o a):=by kernel_rfl):LG P n N R X ops k Γ w:=by
 have e:=oT y;obtain ⟨vs,D,hv,z,_,J,_,i⟩:=s.rowO j d e
 have l:o+a.length<=vs.length:=by
  have:=congrArg LJ hv;rw[LF] at this
  omega
 obtain ⟨w',f,x,p⟩:=fQ _ _ o a vs w C D l;exact LG.store w' (iu u).1 (iu u).2 f (H w' (s.rowput j d e x p hv i I))
theorem Lp (i j o:Nat)(a:List Value){ty:TypeId}{sz c m b:Nat}{cs:List Value}(s:SS w0 h0 w h B Rs F)(S:o+a.length<=cs.length)(H:∀ w',SS w0 h0 w' h B (Rs.set j ⟨ty,sz,some ⟨b,0,none⟩,c,m,bW cs o a⟩) F->AG M P n N R X ops k0 (L.setIfInBounds i true) Γ w')(d:Rs.getD j default=⟨ty,sz,some ⟨b,0,none⟩,c,m,cs⟩:=by kernel_rfl)(C:decide (j<Rs.length)=true:=by kernel_rfl)
  (Q:(g7 ops k0 L i && aZ Γ (am ops i) && ((am ops i).dst == none))=true:=by kernel_rfl)(D:be ops Γ (am ops i)=some true:=by kernel_rfl)
  (J:dK P (execOp (ev Γ) (am ops i))=some (.skip,lm b o a):=by kernel_rfl)(hz:∀ K bs,M.z=some (K,bs)->K<=b\/b∈bs:=by intro _ _ e;cases e):AG M P n N R X ops k0 L Γ w:=by
 have f:=oT C;obtain ⟨vs,O,hv,I,_,U,_,p⟩:=s.rowO j d f
 have u:o+a.length<=vs.length:=by
  have:=congrArg LJ hv;rw[LF] at this
  omega
 obtain ⟨w',l,y,x⟩:=fQ _ _ o a vs w J O u;exact T.store i w' Q D l (y.tl hz) (H w' (s.rowput j d f y x hv p S))
theorem E2 (i t j:Nat)(v:Value)(a:List Value){ty:TypeId}{sz c m b o:Nat}{cs:List Value}(s:SS w0 h0 w h B Rs F)(d:(cs.drop o).take a.length=a)(H:EG ⟨[],none⟩ P n N R X ops k0 hr AL (L.setIfInBounds i true) ((t,v)::Γ) w h)(e:Rs.getD j default=⟨ty,sz,some ⟨b,0,none⟩,c,m,cs⟩:=by kernel_rfl)(l:decide (j<Rs.length)=true:=by kernel_rfl)(f:B5 n ops k0 AL L Γ i t=true:=by kernel_rfl)(p:cl P (execOp (ev Γ) (am ops i)) a=some (.value v,k8 b o a.length):=by kernel_rfl):EG ⟨[],none⟩ P n N R X ops k0 hr AL L Γ w h :=
 Rg.load i t v (iE f).1 (iE f).2 (fun _ u=>s.rowrun j e (oT l) d u.ext p) H
end laws
theorem qk (x y:Int):(if y>x then y else x)=max x y:=by omega
theorem fD (x y:Int):(if y<x then y else x)=min x y:=by omega
section z
variable {bs:List Nat} {P:Program} {n:Nat} {N R:Po} {X:Nat->Po} {ops:Array Oper} {k0:Nat} {hr:Hp} {AL:List Al} {L:Array Bool} {Γ:bU} {w wr:World} {h:Hp} {w0:World} {h0:Hp} {B:List Bx} {Rs:List Rw} {F F1:List (Hp->Prop)}
abbrev Mz (hr:Hp)(bs:List Nat):Ms:=⟨[],some (hr.size,bs)⟩
theorem Fa {id:Nat}{d:Bool}(k0:Nat)(AL:List Al)(bs:List Nat)(e:P.follows .mixedOrders=true)(s:SS w0 h0 w h B Rs F)(b:∀ x∈AL,AlOk P ops k0 x)(H:EG (Mz h bs) P n N R X ops k0 h AL (tj ops.size false) Γ w h)(a:lk ops=true:=by kernel_rfl):CG P n N R X (.region id ops d) Γ w :=
 CG.region (Mz h bs) k0 AL e a s.g b (fun _ c=>by cases c) H
theorem IW (d:SS w0 h0 wr hr B Rs F1)(s:SS w0 h0 w h B Rs F){w':World}(e:∀ b,b<hr.size->b ∉ bs->b ∉ ([]:List Nat)->w'.heap[b]?=w.heap[b]?):∀ x∈B,x.b ∉ bs->Own w' x.b x.t x.vs:=fun x a c =>
 (e x.b (aJ (d.st.jk x a)) c List.not_mem_nil).trans (s.st.own x a)
theorem xn (i t:Nat)(ps:List (Nat × Nat × Nat))(v:Value)(c:SS w0 h0 wr hr B Rs F1)(s:SS w0 h0 w h B Rs F)(H:EG (Mz hr bs) P n N R X ops k0 hr AL (L.setIfInBounds i true) ((t,v)::Γ) w h)(hM:∀ p∈ps,(av B p.1).b ∉ bs:=by intro _ _;exact List.not_mem_nil)(a:cE n ops k0 AL L Γ i t=true:=by kernel_rfl)(d:dj B ps=true:=by kernel_rfl)(e:cl P (execOp (ev Γ) (am ops i)) (dQ B ps)=some (.value v,cM B ps):=by kernel_rfl):EG (Mz hr bs) P n N R X ops k0 hr AL L Γ w h :=
 Rg.loadZ i t v rfl (jB a).1 (jB a).2 (fun w' f=>cZ _ _ _ _ e (g8 hM (IW c s f) ps (fun _ h=>h) d)) H
theorem Hg {x y:Al}(z:SS w0 h0 wr hr B Rs F)(s:SS w0 h0 w h B Rs F)(t:TypeId)(vs:List Value)(l:TypeId)(a:List Value)(H:∀ w' h' b c,hr.size<=b->hr.size<=c->SS w0 h0 w' h' (⟨b,t,vs⟩::⟨c,l,a⟩::B) Rs F->AG (Mz hr bs) P n N R X ops k0 ((L.setIfInBounds y.i true).setIfInBounds x.i true) ((x.t,.pointer (some ⟨b,0,none⟩))::(y.t,.pointer (some ⟨c,0,none⟩))::Γ) w')(K:(gM ops [x,y] L && decide (x.t<n) && decide (y.t<n) && (x.t != y.t) && (x.i != y.i))=true:=by kernel_rfl)(J:x.o=.cells vs.toArray t (0,0):=by kernel_rfl)(D:y.o=.cells a.toArray l (0,0):=by kernel_rfl):EG (Mz hr bs) P n N R X ops k0 hr [x,y] L Γ w h :=
 Rg.fin2 K (fun w' h' b c u k k2 C=>H w' h' b c k.2.2 k2.2.2 ⟨s.g0,St.new2 z.st (s.st.step u) k k2 C t vs J l a D,fun r j=>(((s.step u).ro r j).new c (fun d p e=>by
  have h1:=(z.ro r j).lt p;have I:hr.size<=c:=k2.2.2
  omega)).new b (fun d p e=>by
  have h1:=(z.ro r j).lt p;have I:hr.size<=b:=k.2.2
  omega),s.ap,s.mo,(s.step u).f⟩)
theorem i8 {b:Nat}(c:hr.size<=b):∀ K a,(Mz hr bs).z=some (K,a)->K<=b\/b∈a:=fun K a e=>by
 injection e with e
 injection e with e1 e2
 subst e1;exact .inl c
theorem gF {b:Nat}(c:b∈bs):∀ K a,(Mz hr bs).z=some (K,a)->K<=b\/b∈a:=fun K a e=>by
 injection e with e
 injection e with e1 e2
 subst e2;exact .inr c
end z
theorem fw {α:Type}{f:α->List Value}{sz:Nat}(hf:∀ x,(f x).length=sz)(d:α)(l:List α)(k:Nat)(hk:k<l.length):((l.flatMap f).drop (0+k*sz)).take (f (l.getD k d)).length=f (l.getD k d):=by
 rw[Ab,hf];exact fP hf d l k hk
section row
variable {P:Program} {n:Nat} {N R:Po} {X:Nat->Po} {ops:Array Oper} {k:Nat} {Γ:bU} {w:World} {h:Hp} {w0:World} {h0:Hp} {B:List Bx} {Rs:List Rw} {F:List (Hp->Prop)}
theorem Hm {α:Type}(j e i:Nat)(a:List Value)(l:List α)(f:α->List Value)(sz:Nat)(d x:α){ty:TypeId}{c b:Nat}(s:SS w0 h0 w h B Rs F)(hk:e<l.length)(H:∀ w',SS w0 h0 w' h B (Rs.set j ⟨ty,sz,some ⟨b,0,none⟩,c,l.length,(l.set e x).flatMap f⟩) F->LG P n N R X ops (k+1) Γ w')
  (C:bW (f (l.getD e d)) i a=f x:=by rfl)(hf:∀ x,(f x).length=sz:=by intro _;rfl)(D:Ly (i+a.length) sz=true:=by kernel_rfl)(o:Rs.getD j default=⟨ty,sz,some ⟨b,0,none⟩,c,l.length,l.flatMap f⟩:=by kernel_rfl)(y:decide (j<Rs.length)=true:=by kernel_rfl)(I:cS ops Γ k=true:=by kernel_rfl)
  (z:dK P (execOp (ev Γ) (am ops k))=some (.skip,lm b (0+e*sz+i) a):=by kernel_rfl):LG P n N R X ops k Γ w:=by
 have p:=Lz D;refine Le j (0+e*sz+i) a s ?_ (fun w' u=>H w' ?_) o y I z
 ·rw[bV hf,Ab]
  have:(e+1)*sz<=l.length*sz:=Af _ hk;rw[LI,Nat.one_mul] at this
  omega
 ·rw[Ab,jA hf d l e x hk p C] at u
  exact u
end row
theorem rj {P:Program}(w:World)(t ty e:TypeId)(i:TypeInfo)(z:Value)(ht:P.underlying t=some (.slice e))(hi:P.info? e=some i)(hz:i.zero=some z)(d a:Addr)(m c:Nat)(news:List Value)(f:news.length=m*i.size)(b:∀ j u,news[j]?=some u->w.cell? (a.add j)=some u)(o:0<m)(l:m<=1099511627776)(h:m*i.bytes<=140737488355328) :
  (Builtin.append_ #[t,t] ty #[.slice (some d) 0 0,.slice (some a) m c]).run P w=(Builtin.append_ #[t,t] ty #[.slice none 0 0,.slice (some a) m c]).run P w:=by
 rw[run_append_grow (P:=P) w t ty e i z ht hi hz d 0 0 [] (by simp) (by simp) a m c news f b oM oM (growslice_fits oM (by simpa using h)),
  run_append_nil (P:=P) w t ty e i z ht hi hz a m c news f b oM oM oM]
 simp
section app
variable {M:Ms} {P:Program} {n:Nat} {N R:Po} {X:Nat->Po} {ops:Array Oper} {k k0:Nat} {hr:Hp} {AL:List Al} {L:Array Bool} {Γ:bU} {w:World} {h:Hp} {w0:World} {h0:Hp} {B:List Bx} {Rs:List Rw} {F:List (Hp->Prop)}
theorem qO {o:Oper}{x y:Operand}{t e:TypeId}{z:Value}{sz C m2 c:Nat}{news:List Value}{H a:Addr}(U:o.op=.call { callee:=.builtin .append,args:=#[x,y],argTypes:=#[t,t] })
    (S:ev Γ x=.slice (some H) 0 0)(M:ev Γ y=.slice (some a) m2 c)(F:P.underlying t=some (.slice e))(hi:(P.info? e).map (fun i=>(i.zero,i.size,i.bytes))=some (some z,sz,C))(p:z.cells.size=sz)(l:0<sz)
    (s:St w0 h0 w h B)(K:news.length=m2*sz)(d:∀ j u,news[j]?=some u->w.cell? (a.add j)=some u)(h1:∀ u∈news,u.oneCell'=true)(D:0<m2)
    (W:m2<=1099511627776)(I:m2*C<=140737488355328) :
    ∃ v' w',(execOp (ev Γ) o).run P w=.ok (.value v') w'/\w'.ownsRow h0.size e sz v' (0+m2) ([]++news)/\w.grownBy w' (Value.slice none 0 0).ownBlock/\(v'.ownBlock=(Value.slice none 0 0).ownBlock\/v'.ownBlock=some w.heap.size):=by
  cases b:P.info? e with
  | none=>rw[b] at hi;cases hi
  | some inf =>
    rw[b] at hi
    simp only[ua,Option.some.injEq,Prod.mk.injEq] at hi
    obtain ⟨i1,L,J⟩:=hi;obtain ⟨v',w',f,O,Q,X,V⟩:=run_append_own_at (P:=P) w h0.size t o.type e inf z sz C F b i1 L J p l (.slice none 0 0) 0 [] (World.ownsRow_nil _ _ _ _) a m2 c news K d h1 (by unfold maxLen;omega) (by rw[Ab];exact I) (by rw[s.g.size];exact s.sz);refine ⟨v',w',?_,O,Q,V⟩;rw[<-rj (P:=P) w t o.type e inf z F b i1 H a m2 c news (by rw[L];exact K) d D W (by rw[J];exact I)] at f
    unfold execOp
    simp only[U,resolve,invoke,builtin,Sem.run_bind,Sem.run_pure,Result.andThen_ok,D0,D1,D2,S,M,f]
theorem SS.appE (s:SS w0 h0 w h B Rs F){o:Oper}{ty:TypeId}{sz K c2 V:Nat}{z:Value}{α:Type}{f:α->List Value}{d:α}{L:Option Addr}{m:List α}(M:p8 P (ev Γ) o=some (.slice (some ⟨V,0,none⟩) 0 0,.slice L m.length c2,ty,z,sz,K))(so:SlO sz f d h L m)(e:0<m.length)(h1:∀ x∈m,(f x).all (·.oneCell')=true)(hf:∀ x,(f x).length=sz)(H:z.cells.size=sz)(i:0<sz)(X:m.length<=1099511627776)(Q:m.length*K<=140737488355328) :
  ∃ p c' w' h',(execOp (ev Γ) o).run P w=.ok (.value (.slice p m.length c')) w'/\Up w h w' h'/\SS w0 h0 w' h' B (⟨ty,sz,p,c',m.length,m.flatMap f⟩::Rs) F:=by
 rw[so.ok e] at M
 obtain ⟨Z,y,Y,U,I,O,D,hi⟩:=js M
 obtain ⟨v',w',l,S,a,b⟩:=qO (P:=P) U I O D hi H i s.st (bV hf m) (gW s.g (so.flat hf)) (fun u D=>by
  obtain ⟨x,C,I⟩:=LD.1 D;exact (o0.1 (h1 x C)) u I) e X Q
 obtain ⟨h',p,c',rfl,e2,J⟩:=(s.nil ty sz).grown (j:=0) (by simp) (w':=w') (v':=v') (m2:=m.length) (news:=m.flatMap f) S a b;refine ⟨p,c',w',h',?_,⟨⟨a.os,a.tape,a.output,a.size,fun c W=>a.block c W (by simp[Value.ownBlock])⟩,e2,J.g⟩,?_⟩
 ·rw[l];simp
 ·simpa using J
theorem Lt {α:Type}(t:Nat)(ty:TypeId)(sz:Nat)(f:α->List Value)(d:α)(C:Nat)(l:Option Addr)(m:List α)(c2 j:Nat)(z:Value)(s:SS w0 h0 w h B Rs F)(so:SlO sz f d h l m)(i:0<m.length)(h1:∀ x∈m,(f x).all (·.oneCell')=true)
  (H:∀ c c' w' h',SS w0 h0 w' h' B (⟨ty,sz,c,c',m.length,m.flatMap f⟩::Rs) F->LG P n N R X ops (k+1) ((t,.slice c m.length c')::Γ) w')
  (o:cL ops Γ k t n=true:=by kernel_rfl)(y:p8 P (ev Γ) (am ops k)=some (.slice (some ⟨C,0,none⟩) 0 0,.slice l m.length c2,ty,z,sz,j):=by kernel_rfl)(hf:∀ x,(f x).length=sz:=by intro _;rfl)(e:z.cells.size=sz:=by kernel_rfl)(a:0<sz:=by decide)(D:m.length<=1099511627776:=by omega)(u:m.length*j<=140737488355328:=by omega):LG P n N R X ops k Γ w:=by
 obtain ⟨c,c',w',h',b,_,p⟩:=s.appE (P:=P) y so i h1 hf e a D u;exact LG.val t _ w' (bQ o).1 (bQ o).2 b (H c c' w' h' p)
end app
section joi
variable {P:Program} {n:Nat} {N R:Po} {X:Nat->Po} {Γ:bU} {w:World}
theorem CG.join {x y:Code}(I:bU->World->Prop)(h1:CG P n (fun a w'=>∃ b,I b w'/\Kn n a b) R X x Γ w)(d:∀ Γ w,I Γ w->CG P n N R X y Γ w):CG P n N R X (.seq x y) Γ w:=by
 intro a f;refine wp_seq (wp_mono (h1 a f) ?_);intro e a w hq;cases e with
 | normal=>obtain ⟨b,h,c⟩:=hq;exact d b w h a c
 | _=>exact hq
end joi
section fin
variable {M:Ms} {P:Program} {n:Nat} {N R:Po} {X:Nat->Po} {ops:Array Oper} {k0:Nat} {hr:Hp} {L:Array Bool} {Γ:bU} {w:World} {h:Hp} {w0:World} {h0:Hp} {B:List Bx} {Rs:List Rw} {F:List (Hp->Prop)}
theorem jJ (s:SS w0 h0 w h B Rs F)(H:∀ w' h',Up w h w' h'->SS w0 h0 w' h' B Rs F->AG M P n N R X ops k0 L Γ w')(a:gM ops [] L=true:=by kernel_rfl):EG M P n N R X ops k0 hr [] L Γ w h:=Rg.fin0 a (fun w' h' u=>H w' h' u (s.step u))
end fin
section tail
variable {M:Ms} {P:Program} {n:Nat} {N R:Po} {X:Nat->Po} {ops:Array Oper} {k0:Nat} {L:Array Bool} {Γ:bU} {w:World} {h:Hp} {w0:World} {h0:Hp} {B:List Bx} {Rs:List Rw} {F:List (Hp->Prop)}
theorem K8 {α:Type}(i j e o:Nat)(a:List Value)(l:List α)(f:α->List Value)(sz:Nat)(d x:α){ty:TypeId}{c b:Nat}(s:SS w0 h0 w h B Rs F)(hk:e<l.length)(H:∀ w',SS w0 h0 w' h B (Rs.set j ⟨ty,sz,some ⟨b,0,none⟩,c,l.length,(l.set e x).flatMap f⟩) F->AG M P n N R X ops k0 (L.setIfInBounds i true) Γ w')
  (J:bW (f (l.getD e d)) o a=f x:=by rfl)(hf:∀ x,(f x).length=sz:=by intro _;rfl)(O:Ly (o+a.length) sz=true:=by kernel_rfl)(p:Rs.getD j default=⟨ty,sz,some ⟨b,0,none⟩,c,l.length,l.flatMap f⟩:=by kernel_rfl)(C:decide (j<Rs.length)=true:=by kernel_rfl)
  (Q:(g7 ops k0 L i && aZ Γ (am ops i) && ((am ops i).dst == none))=true:=by kernel_rfl)(D:be ops Γ (am ops i)=some true:=by kernel_rfl)
  (I:dK P (execOp (ev Γ) (am ops i))=some (.skip,lm b (0+e*sz+o) a):=by kernel_rfl)(hz:∀ K bs,M.z=some (K,bs)->K<=b\/b∈bs:=by intro _ _ e;cases e):AG M P n N R X ops k0 L Γ w:=by
 have u:=Lz O;refine Lp i j (0+e*sz+o) a s ?_ (fun w' y=>H w' ?_) p C Q D I hz
 ·rw[bV hf,Ab]
  have:(e+1)*sz<=l.length*sz:=Af _ hk;rw[LI,Nat.one_mul] at this
  omega
 ·rw[Ab,jA hf d l e x hk u J] at y
  exact y
end tail
theorem mixed:Tryz.prog.follows .mixedOrders=true:=by kernel_rfl
theorem rb {s:Result Next}{e b:Bool}{w:World}(h:s=.ok (.value (.bool e)) w)(a:e=b):s=.ok (.value (.bool b)) w:=a▸h
theorem aI {s:Result Next}{k:IntKind}{n m:Int}{w:World}(h:s=.ok (.value (.int k n)) w)(e:n=m):s=.ok (.value (.int k m)) w:=e▸h
theorem rU {s:Result Next}{m:Int}{w:World}(x:Int)(h:s=.ok (.value (.int .u64 (IntKind.wrap .u64 x))) w)(e:IntKind.wrap .u64 x=m):s=.ok (.value (.int .u64 m)) w:=aI (n:=IntKind.wrap .u64 x) h e
theorem rS {s:Result Next}{m:Int}{w:World}(x:Int)(h:s=.ok (.value (.int .i64 (IntKind.wrap .i64 x))) w)(e:IntKind.wrap .i64 x=m):s=.ok (.value (.int .i64 m)) w:=aI (n:=IntKind.wrap .i64 x) h e
theorem rT {s:Result Next}{m:Int}{w:World}(x:Int)(h:s=.ok (.value (.int .u32 (IntKind.wrap .u32 x))) w)(e:IntKind.wrap .u32 x=m):s=.ok (.value (.int .u32 m)) w:=aI (n:=IntKind.wrap .u32 x) h e
theorem CQ (n:Nat):IntKind.wrap .u8 (n:Int)=((n%256:Nat):Int):=by rw[IntKind.wrap_u8];omega
theorem gX (n:Nat):IntKind.wrap .u32 (n:Int)=((n%4294967296:Nat):Int):=by rw[IntKind.wrap_u32];omega
theorem AU (n:Nat):IntKind.wrap .u64 (n:Int)=((n%18446744073709551616:Nat):Int):=by rw[IntKind.wrap_u64];omega
theorem oR {n:Int}(h0:0<=n)(h:n<4294967296):IntKind.wrap .u32 n=n:=by rw[IntKind.wrap_u32];omega
theorem a8 {n:Int}(h0:0<=n)(h:n<18446744073709551616):IntKind.wrap .u64 n=n:=by rw[IntKind.wrap_u64];omega
theorem oE {n:Int}(h0 : -9223372036854775808<=n)(h:n<9223372036854775808):IntKind.wrap .i64 n=n:=by rw[IntKind.wrap_i64];omega
theorem IQ {n:Nat}(h:n<4294967296):IntKind.wrap .u32 (n:Int)=(n:Int):=by rw[IntKind.wrap_u32];omega
theorem Jf {n:Nat}(h:n<18446744073709551616):IntKind.wrap .u64 (n:Int)=(n:Int):=by rw[IntKind.wrap_u64];omega
theorem IV {n:Nat}(h:n<9223372036854775808):IntKind.wrap .i64 (n:Int)=(n:Int):=by rw[IntKind.wrap_i64];omega
theorem ef (a b:Nat):Int.fdiv (a:Int) (b:Int)=((a/b:Nat):Int):=by rw[LK _ oM];simp
theorem th (a b:Nat):LL (a:Int) (b:Int)=((a/b:Nat):Int):=rfl
theorem dk (a b:Nat):Int.tmod (a:Int) (b:Int)=((a%b:Nat):Int):=rfl
theorem kl (a b:Nat)(h:a<18446744073709551616):IntKind.wrap .u64 (LL (a:Int) (b:Int))=((a/b:Nat):Int):=by rw[th];exact Jf (LM (LN _ _) h)
theorem dE (a b:Nat)(h:a<9223372036854775808):IntKind.wrap .i64 (LL (a:Int) (b:Int))=((a/b:Nat):Int):=by rw[th];exact IV (LM (LN _ _) h)
section div
variable {P:Program} {Γ:bU} {o:Oper}
theorem dH {t u:TypeId}{x y:Operand}{k:IntKind}{a b:Int}(f:o.op=.binOp .quo t x y u)(e:ev Γ x=.int k a)(d:ev Γ y=.int k b)(c:b≠0)(w:World) :
  (execOp (ev Γ) o).run P w=.ok (.value (.int k (k.wrap (a.tdiv b)))) w:=by
 unfold execOp;simp only[f];rw[e,d]
 simp[binOp,eqGuard,Op.intDiv,c,Result.andThen]
theorem ft {t u:TypeId}{x y:Operand}{k:IntKind}{a b:Int}(f:o.op=.binOp .rem t x y u)(e:ev Γ x=.int k a)(d:ev Γ y=.int k b)(c:b≠0)(w:World) :
  (execOp (ev Γ) o).run P w=.ok (.value (.int k (a.tmod b))) w:=by
 unfold execOp;simp only[f];rw[e,d]
 simp[binOp,eqGuard,Op.intDiv,c,Result.andThen]
theorem JG {t u:TypeId}{x y:Operand}{k ky:IntKind}{a:Int}{n:Nat}(d:o.op=.binOp .shl t x y u)(c:ev Γ x=.int k a)(b:ev Γ y=.int ky (n:Int))(hn:n<=k.bits)(w:World) :
  (execOp (ev Γ) o).run P w=.ok (.value (.int k (k.wrap (a*2^n)))) w:=by
 unfold execOp;simp only[d];rw[c,b]
 have e:min n k.bits=n:=by omega
 have hz:¬((n:Int)<0):=by omega
 simp[binOp,eqGuard,Op.shift,Result.andThen,e,hz]
theorem Il {t u:TypeId}{x y:Operand}{k ky:IntKind}{a:Int}{n:Nat}(e:o.op=.binOp .shr t x y u)(d:ev Γ x=.int k a)(c:ev Γ y=.int ky (n:Int))(hn:n<=k.bits)(w:World) :
  (execOp (ev Γ) o).run P w=.ok (.value (.int k (a/2^n))) w:=by
 unfold execOp;simp only[e];rw[d,c]
 have f:min n k.bits=n:=by omega
 have hz:¬((n:Int)<0):=by omega
 have b:(0:Int)<=2^n:=Int.pow_nonneg kD
 simp[binOp,eqGuard,Op.shift,Result.andThen,f,hz,LK _ b]
theorem iw {t u:TypeId}{x y:Operand}{a b:Nat}(h:o.op=.binOp .or t x y u)(f:ev Γ x=.int .u64 (a:Int))(d:ev Γ y=.int .u64 (b:Int))(ha:a<18446744073709551616)(c:b<18446744073709551616)(w:World) :
  (execOp (ev Γ) o).run P w=.ok (.value (.int .u64 ((a ||| b:Nat):Int))) w:=by
 unfold execOp;simp only[h];rw[f,d]
 have e:bits .or .u64 (a:Int) (b:Int)=((a ||| b:Nat):Int):=by
  unfold bits
  have h1:(BitVec.ofInt 64 (a:Int) ||| BitVec.ofInt 64 (b:Int)).toNat=a ||| b:=by
   rw[BitVec.toNat_or]
   congr 1<;>(simp[BitVec.toNat_ofInt];omega)
  show IntKind.wrap .u64 (((BitVec.ofInt 64 (a:Int) ||| BitVec.ofInt 64 (b:Int)).toNat:Nat):Int)=_
  rw[h1];have:=LO (n:=64) ha c;exact a8 oM oM
 simp[binOp,eqGuard,Result.andThen,intBits_or,e]
theorem FL {t u:TypeId}{x y:Operand}{a b:Nat}(h:o.op=.binOp .or t x y u)(f:ev Γ x=.int .u32 (a:Int))(d:ev Γ y=.int .u32 (b:Int))(ha:a<4294967296)(c:b<4294967296)(w:World) :
  (execOp (ev Γ) o).run P w=.ok (.value (.int .u32 ((a ||| b:Nat):Int))) w:=by
 unfold execOp;simp only[h];rw[f,d]
 have e:bits .or .u32 (a:Int) (b:Int)=((a ||| b:Nat):Int):=by
  unfold bits
  have h1:(BitVec.ofInt 32 (a:Int) ||| BitVec.ofInt 32 (b:Int)).toNat=a ||| b:=by
   rw[BitVec.toNat_or]
   congr 1<;>(simp[BitVec.toNat_ofInt];omega)
  show IntKind.wrap .u32 (((BitVec.ofInt 32 (a:Int) ||| BitVec.ofInt 32 (b:Int)).toNat:Nat):Int)=_
  rw[h1];have:=LO (n:=32) ha c;exact oR oM oM
 simp[binOp,eqGuard,Result.andThen,intBits_or,e]
end div
def lo (n:Nat):Int:=((n%18446744073709551616:Nat):Int)
def wb:Nat->Nat->List UInt8
  | 0,_=>[]
  | f+1,m=>if m=0 then [] else (pa 8).map (fun k=>UInt8.ofNat (m/256^k))++wb f (m/18446744073709551616)
def hi (n:Nat):ByteArray:=⟨(wb n (n/18446744073709551616)).toArray⟩
abbrev uX (r k:Rat)(s b t:Int)(d:Nat):Value:=.agg #[.bool (af r.num),uV (lo (ab r.num)),.string (hi (ab r.num)),uV (lo (qd r)),.string (hi (qd r)),.bool (af k.num),uV (lo (ab k.num)),.string (hi (ab k.num)),uV (lo (qd k)),.string (hi (qd k)),iV s,iV b,iV t,mV d]
abbrev uC (r k:Rat)(s b t:Int)(d:Nat):List Value:=[.bool (af r.num),uV (lo (ab r.num)),.string (hi (ab r.num)),uV (lo (qd r)),.string (hi (qd r)),.bool (af k.num),uV (lo (ab k.num)),.string (hi (ab k.num)),uV (lo (qd k)),.string (hi (qd k)),iV s,iV b,iV t,mV d]
abbrev qX (q:Rat):Value:=.agg #[.bool (af q.num),uV (lo (ab q.num)),.string (hi (ab q.num)),uV (lo (qd q)),.string (hi (qd q))]
abbrev qC (q:Rat):List Value:=[.bool (af q.num),uV (lo (ab q.num)),.string (hi (ab q.num)),uV (lo (qd q)),.string (hi (qd q))]
abbrev qY (q:Rat)(A:Option Addr)(m c:Nat):Value:=.agg #[.bool (af q.num),uV (lo (ab q.num)),.string (hi (ab q.num)),uV (lo (qd q)),.string (hi (qd q)),.slice A m c]
abbrev qZ (q:Rat)(A:Option Addr)(m c:Nat):List Value:=[.bool (af q.num),uV (lo (ab q.num)),.string (hi (ab q.num)),uV (lo (qd q)),.string (hi (qd q)),.slice A m c]
abbrev wX (b:Value)(m:Nat):Value:=.agg #[b,uV (lo m),.string (hi m)]
abbrev wC (b:Value)(m:Nat):List Value:=[b,uV (lo m),.string (hi m)]
def nc (n:Nat):List Value:=[.int .u64 (lo n),.string (hi n)]
def nv (n:Nat):Value:=.agg #[.int .u64 (lo n),.string (hi n)]
def ic (z:Int):List Value:=[.bool (af z),.int .u64 (lo (ab z)),.string (hi (ab z))]
def iv (z:Int):Value:=.agg #[.bool (af z),.int .u64 (lo (ab z)),.string (hi (ab z))]
def qc (q:Rat):List Value:=[.bool (af q.num),.int .u64 (lo (ab q.num)),.string (hi (ab q.num)),.int .u64 (lo (qd q)),.string (hi (qd q))]
abbrev Sq (A:Option Addr)(l:List Rat):Hp->Prop:=fun h_=>SlO 5 qc 0 h_ A l
def qv (q:Rat):Value:=.agg #[.bool (af q.num),.int .u64 (lo (ab q.num)),.string (hi (ab q.num)),.int .u64 (lo (qd q)),.string (hi (qd q))]
theorem mm {n:Nat}(h:n<18446744073709551616):lo n=(n:Int):=by unfold lo;rw[A0 h]
theorem mN {n:Nat}(h:n<18446744073709551616):hi n=⟨#[]⟩:=by
 unfold hi;rw[LP h];cases n<;>rfl
structure Dif (M:List Nat) (w w0:World):Prop where
  mo:Mo M w w0
  sz:w0.heap.size=w.heap.size
def dP:List Nat->Nat
  | []=>0
  | x::l=>x+4294967296*dP l
def qo:Nat->Nat->List Nat
  | 0,_=>[]
  | f+1,n=>if n=0 then [] else n%4294967296::qo f (n/4294967296)
def lim (n:Nat):List Nat:=qo n n
abbrev gY (q:Rat)(A:Option Addr)(c:Nat)(D:Option Addr)(d:Nat):List Value:=[.bool (af q.num),.slice A (lim (ab q.num)).length c,.slice D (lim q.den).length d]
abbrev rG (q:Rat)(A:Option Addr)(c:Nat)(D:Option Addr)(d:Nat):Value:=.agg #[.bool (af q.num),.slice A (lim (ab q.num)).length c,.slice D (lim q.den).length d]
theorem tY:∀ (f g n:Nat),n<=f->n<=g->qo f n=qo g n
  | 0,g,n,hf,hg=>by
    have:n=0:=by omega
    subst this;cases g<;>rfl
  | f+1,0,n,hf,hg=>by
    have:n=0:=by omega
    subst this
    rfl
  | f+1,g+1,n,hf,hg=>by
    unfold qo
    split
    . rfl
    . rw[tY f g (n/4294967296) oM oM]
theorem f5:lim 0=[]:=rfl
theorem fu {n:Nat}(h:0<n):lim n=n%4294967296::lim (n/4294967296):=by
 unfold lim
 obtain ⟨m,rfl⟩:∃ m,n=m+1:=⟨n-1,by omega⟩;rw[qo,if_neg oM];rw[tY m _ _ oM (ep _)]
theorem DB {n:Nat}(h0:0<n)(h:n<4294967296):lim n=[n]:=by
 rw[fu h0,A0 h,LP h,f5]
theorem fX (n:Nat):dP (lim n)=n:=by
  induction n using hP with
  | _ n ih =>
    rcases Ga n with h|h
    . subst h;rfl
    . rw[fu h,dP,ih (n/4294967296) oM]
      omega
theorem km (n:Nat):∀ x∈lim n,x<4294967296:=by
  induction n using hP with
  | _ n ih =>
    rcases Ga n with h|h
    . subst h;intro x a;cases a
    . rw[fu h]
      intro x a
      rcases g4.1 a with rfl|a
      . omega
      . exact ih _ oM x a
theorem bR {n:Nat}:0<(lim n).length↔0<n:=by
 rcases Ga n with h|h
 ·subst h;simp[f5]
 ·rw[fu h];simp[h]
theorem su {n:Nat}:lim n=[]↔n=0:=by
 constructor
 ·intro h;rcases Ga n with h0|h0;exact h0;rw[fu h0] at h;cases h
 ·rintro rfl;rfl
theorem eh {n k:Nat}(h:n<4294967296^k):(lim n).length<=k:=by
  induction k generalizing n with
  | zero => have:n=0:=by simpa using h
            subst this;simp[f5]
  | succ k ih =>
    rcases Ga n with h0|h0
    . subst h0;simp[f5]
    . rw[fu h0]
      have:n/4294967296<4294967296^k:=Nat.div_lt_of_lt_mul (by rw[LR,LC] at h;exact h);have:=ih this
      simp
      omega
def tl (l:List Nat):Nat->Nat
  | 0=>0
  | n+1=>if l.getD n 0=0 then tl l n else n+1
theorem it (l:List Nat):∀ n,tl l n<=n
 | 0=>ep _
 | n+1=>by unfold tl;split;exact Nat.le_succ_of_le (it l n);exact ep _
theorem nY {l:List Nat}{n:Nat}(h:n=0\/l.getD (n-1) 0≠0):tl l n=n:=by
 cases n with
 | zero=>rfl
 | succ n=>unfold tl;rw[if_neg];rcases h with h|h;omega;exact h
theorem kN (a b:List Nat):dP (a++b)=dP a+4294967296^a.length*dP b:=by
  induction a with
  | nil=>simp[dP]
  | cons x a ih =>
    simp only[List.cons_append,dP,ih,ub,LR,Nat.mul_add]
    rw[<-Nat.mul_assoc,LC (4294967296^a.length) 4294967296]
    omega
theorem lh {l:List Nat}(h:∀ x∈l,x<4294967296):dP l<4294967296^l.length:=by
  induction l with
  | nil=>simp[dP]
  | cons x l ih =>
    have h1:=h x (by simp);have b:=ih (fun y a=>h y (by simp[a]))
    simp only[dP,ub,LR]
    omega
theorem jY (x:Nat)(l:List Nat):∀ n,tl l n=0->tl (x::l) (n+1)=if x=0 then 0 else 1
  | 0,_=>by simp[tl]
  | n + 1,h=>by
    unfold tl at h
    split at h
    . rename_i h0
      show tl (x::l) (n+2)=_
      unfold tl
      rw[if_pos (by simpa using h0)];exact jY x l n h
    . omega
theorem kY (l:List Nat)(n:Nat):tl l (n+1)=if l.getD n 0=0 then tl l n else n+1:=rfl
theorem kG (x:Nat)(l:List Nat):∀ n,0<tl l n->tl (x::l) (n+1)=tl l n+1
  | 0,h=>by simp[tl] at h
  | n + 1,h=>by
    rw[kY l n] at h ⊢
    rw[kY (x::l) (n+1),y9]
    by_cases h0:l.getD n 0=0
    . rw[if_pos h0] at h ⊢
      rw[if_pos h0];exact kG x l n h
    . rw[if_neg h0,if_neg h0]
theorem o3 (l:List Nat):dP l=0->tl l l.length=0:=by
  intro h
  have key:∀ n,n<=l.length->tl l n=0:=by
    have hz:∀ k,l.getD k 0=0:=by
      induction l with
      | nil=>intro k;simp
      | cons x l ih =>
        simp only[dP] at h
        intro k;cases k with
        | zero=>simp;omega
        | succ k=>simpa using ih oM k
    intro n
    induction n with
    | zero=>intro _;rfl
    | succ n ih=>intro hn;unfold tl;rw[if_pos (hz n)];exact ih oM
  exact key _ (ep _)
theorem AO {l:List Nat}(h:∀ x∈l,x<4294967296):lim (dP l)=l.take (tl l l.length):=by
  induction l with
  | nil=>rfl
  | cons x l ih =>
    have h1:=h x (by simp);have a:=ih (fun y c=>h y (by simp[c]))
    rcases Ga (dP (x::l)) with h0|h0
    . rw[h0,f5,o3 _ h0];rfl
    . rw[fu h0]
      have e1:dP (x::l)%4294967296=x:=by simp only[dP];omega
      have e2:dP (x::l)/4294967296=dP l:=by simp only[dP];omega
      rw[e1,e2,a]
      rcases Ga (tl l l.length) with ht|ht
      . have b:x≠0:=by
          intro b;have:lim (dP l)=[]:=by rw[a,ht];rfl
          have:=su.1 this
          simp only[dP] at h0
          omega
        rw[ub,jY x l _ ht,if_neg b,ht];rfl
      . rw[ub,kG x l _ ht];rfl
theorem me (n:Nat)(h:0<n):(lim n).getD ((lim n).length-1) 0≠0:=by
  induction n using hP with
  | _ n ih =>
    rw[fu h]
    rcases Ga (n/4294967296) with h0|h0
    . rw[h0,f5];simp;omega
    . have:=ih (n/4294967296) oM h0
      have a:=bR.2 h0;rw[ub,show (lim (n/4294967296)).length+1-1=((lim (n/4294967296)).length-1)+1 by omega,y9];exact this
theorem mS {l:List Nat}{k:Nat}(h:k<l.length):dP (l.take (k+1))=dP (l.take k)+4294967296^k*l.getD k 0:=by
 have e:l.take (k+1)=l.take k++[l.getD k 0]:=by
  rw[List.take_add_one];simp[h]
 rw[e,kN,LF,LS oM]
 show dP (l.take k)+4294967296^k*(l.getD k 0+4294967296*0)=_
 rw[Nat.mul_zero,y5]
theorem ve {l:List Nat}{k:Nat}(h:k<l.length):dP (l.drop k)=l.getD k 0+4294967296*dP (l.drop (k+1)):=by
 rw[List.drop_eq_getElem_cons h]
 simp[dP,h]
def nb (n:Nat):Nat:=if n=0 then 0 else Nat.log2 n+1
theorem Cl:nb 0=0:=rfl
theorem cB {n:Nat}(h:0<n):2^(nb n-1)<=n/\n<2^nb n/\0<nb n:=by
 unfold nb
 rw[if_neg oM];have:=(LU (n:=n) (k:=n.log2) oM).1 rfl;exact ⟨this.1,this.2,by omega⟩
theorem ki {n k:Nat}(h1:2^k<=n)(a:n<2^(k+1)):nb n=k+1:=by
 have b:0<2^k:=Nat.two_pow_pos k
 unfold nb
 rw[if_neg oM,(LU oM).2 ⟨h1,a⟩]
theorem I1 (n:Nat):n<2^nb n:=by
 rcases Ga n with h|h
 ·subst h;simp[nb]
 ·exact (cB h).2.1
theorem kH {n k:Nat}(h:n<2^k):nb n<=k:=by
 rcases Ga n with h0|h0
 ·subst h0;simp[nb]
 ·have:=cB h0
  rcases ea k (nb n) with hl|hl
  ·have:2^k<=2^(nb n-1):=Nat.pow_le_pow_right oM oM
   omega
  ·exact hl
theorem EM {n:Nat}(h:0<n):nb n=nb (n/2)+1:=by
 rcases ea n 2 with h2|h2
 ·have:n=1:=by omega
  subst this;decide
 ·obtain ⟨c,a,b⟩:=cB (n:=n/2) oM
  apply ki
  ·have:2^nb (n/2)=2*2^(nb (n/2)-1):=by rw[<-Nat.pow_succ',show (nb (n/2)-1).succ=nb (n/2) by omega]
   omega
  ·rw[LR];omega
theorem BF {lo wd k:Nat}(b:lo<2^k)(ht:0<wd):nb (lo+2^k*wd)=k+nb wd:=by
 obtain ⟨c,a,d⟩:=cB ht;rw[show k+nb wd=(k+(nb wd-1))+1 by omega]
 apply ki
 ·rw[Nat.pow_add]
  have:=LW (2^k) c
  omega
 ·rw[show k+(nb wd-1)+1=k+nb wd by omega,Nat.pow_add]
  have:=LW (2^k) (show wd+1<=2^nb wd from a);rw[Nat.mul_succ] at this
  omega
theorem BR {a:Nat}(h:0<a):nb a=32*((lim a).length-1)+nb ((lim a).getD ((lim a).length-1) 0):=by
 have f:=bR.2 h;have e:=mS (l:=lim a) (k:=(lim a).length-1) oM;rw[show (lim a).length-1+1=(lim a).length by omega,y8,fX] at e
 have b:=lh (l:=(lim a).take ((lim a).length-1)) (fun x d=>km a x (List.mem_of_mem_take d));rw[LF,LS oM] at b
 have e2:(4294967296:Nat)^((lim a).length-1)=2^(32*((lim a).length-1)):=by rw[Nat.pow_mul]
 rw[e2] at e b
 have c:=me a h;have:=BF b (Nat.pos_of_ne_zero c);rw[<-e] at this
 exact this
def gf (n:Nat):Nat->List Nat
  | 0=>[]
  | m+1=>n/256^m%256::gf n m
theorem jL (n m:Nat):(gf n m).length=m:=by induction m with|zero=>rfl|succ m ih=>simp[gf,ih]
theorem i7 (n:Nat):∀ (m k:Nat),k<m->(gf n m).getD k 0=n/256^(m-1-k)%256
  | 0,k,h=>by omega
  | m+1,0,h=>by simp[gf]
  | m+1,k+1,h=>by
    rw[gf,y9,i7 n m k oM]
    congr 3
    omega
end Go.Proofs.YtnphimgdpdiekaaGreatDoor
