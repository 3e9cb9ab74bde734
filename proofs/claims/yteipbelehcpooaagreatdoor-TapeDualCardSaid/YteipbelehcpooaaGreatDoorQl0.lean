/- Laws of this claim, part 1. -/
import Derived.Below
import Derived.WalkKit
import Derived.Lib.Hide
import Derived.Deep.Draws
import Derived.Orders
import Derived.OrdersHeld
import Derived.KernelRfl
import Derived.Laws.MakeOwn
import Derived.Maps.AppendAt
import Derived.Test.YteipbelehcpooaaGreatDoorProg
import Derived.Lib.IndexBytes
import Derived.Lib.Builder
import Derived.Lib.UnsafeStr
import Derived.Laws.CopyRow
import Derived.ArgAppend
import Derived.Test.YteipbelehcpooaaGreatDoorShelf
import Derived.Shelf.Spec.BitsCarry
import Derived.Lib.BitFns
import Derived.Shelf.Strings.Builder1
import Derived.Shelf.Strings.Builder2
import Derived.Lib.TrailingZeros
import Derived.Laws.Bits64b
import Derived.WideMake
import Derived.DeepKeys5
import Derived.StringKeys
import Derived.Shelf.SlIter.Nil
import Derived.Shelf.SortM.Plain
import Derived.Shelf.SortM.SortNone
import Derived.RangeFuncBox
import Derived.OwnWalkIn
import Derived.TacticsInMore
import Derived.LoopNIn
import Derived.LoopIn
import Derived.Sort.KeysCollected
import Derived.Laws.Concat
import Derived.RangeFuncCalls
import Derived.OrdersIn
import Derived.RangeFuncLeaves
import Derived.RangeFuncNested
import Derived.Shelf.Abstract
import Derived.Deep.Upon
import Derived.Shelf.SortM.Walk0sIn
set_option maxRecDepth 100000
set_option maxHeartbeats 4000000
namespace Go.Proofs.YteipbelehcpooaaGreatDoor
open _root_.Array renaming all_eq_true_iff_forall_mem -> o3, any_eq_true -> ta, getD -> gs, getElem?_append_left -> yh, getElem?_append_right -> y8, getElem?_eq_getElem -> gg, getElem?_eq_none -> ew, getElem?_eq_some_iff -> na, getElem?_extract -> zy, getElem?_push_lt -> e8, getElem?_push_size -> gp, getElem?_replicate -> y9, getElem?_setIfInBounds_ne -> oi, getElem?_setIfInBounds_self_of_lt -> zF, getElem_mem -> tu, mapM_eq_mapM_toList -> yH, setIfInBounds_comm -> g1
open Bool renaming and_eq_true -> ov, false_eq_true -> ul, not_true -> u9, or_eq_true -> sA
open Int renaming fdiv_eq_ediv_of_nonneg -> A7, tdiv -> A8, toNat_natCast -> y6
open List renaming all_cons -> yB, all_eq_true -> o4, any_eq_true -> um, cons_append -> D0, drop_eq_getElem_cons -> Gx, drop_eq_nil_of_le -> yT, drop_sublist -> yZ, drop_zero -> yL, eq_nil_of_length_eq_zero -> yU, eraseIdx_sublist -> z7, ext_getElem? -> yv, flatMap_cons -> yJ, getD_cons_succ -> yO, getD_eq_getElem?_getD -> A4, getElem?_append_left -> yC, getElem?_append_right -> yF, getElem?_drop -> yE, getElem?_eq_none -> x4, getElem?_eq_some_iff -> At, getElem?_set_ne -> yx, getElem?_set_self -> yw, getElem?_take_of_lt -> yD, getElem_eraseIdx -> zY, getElem_inj -> yA, getElem_map -> yz, getElem_mem -> gx, getElem_set_ne -> Ab, getElem_set_self -> Af, length_append -> yR, length_cons -> yt, length_drop -> A5, length_eraseIdx_of_lt -> zZ, length_take -> A2, lookup_cons -> oa, mapM_cons -> yG, map_cons -> zh, map_set -> yu, mem_append -> g5, mem_cons -> hP, mem_iff_getElem -> yy, mem_map -> g8, mem_of_mem_drop -> yY, mem_of_mem_eraseIdx -> z6, mem_of_mem_take -> Jy, mem_range -> pR, mem_singleton -> vl, nodup_cons -> i3, pairwise_iff_getElem -> z8, perm_middle -> hH, range -> po, range' -> xv, range'_succ -> xw, range_eq_range' -> x2, replicate -> y2, replicate_succ -> y3, set_cons_succ -> yV, take_add_one -> F2, take_append_drop -> JA, take_append_of_le_length -> yM, take_length -> yN, take_of_length_le -> JF
open Nat renaming add_assoc -> yI, add_comm -> yQ, add_mul_div_left -> JB, add_zero -> yK, div_div_eq_div_mul -> JD, div_eq_of_lt -> Bs, div_le_self -> Bb, div_lt_iff_lt_mul -> Av, div_lt_of_lt_mul -> B0, div_lt_self -> JE, eq_zero_or_pos -> zT, le_of_ble_eq_true -> Am, le_refl -> ey, le_trans -> e6, log2_eq_iff -> HA, lt_of_le_of_lt -> A9, lt_of_lt_of_le -> e7, lt_or_ge -> ep, min_eq_left -> Ga, mod_eq_of_lt -> y4, mod_lt -> y5, mul_add -> D1, mul_assoc -> Ft, mul_comm -> Az, mul_le_mul_left -> Jx, mul_le_mul_right -> yX, mul_zero -> Gb, or_lt_two_pow -> Bg, pow_add -> Jw, pow_le_pow_right -> Ju, pow_mul -> Jz, pow_pos -> JC, pow_succ -> B2, pow_succ' -> Jv, strongRecOn -> la, sub_self -> yp, succ_mul -> yP, two_pow_pos -> H1, zero_add -> yW, zero_mul -> yS
open Option renaming isSome_iff_exists -> o0, map_eq_none_iff -> Ag, map_eq_some_iff -> yq, map_none -> y7, map_some -> yr
abbrev Z9:=Option Addr
theorem kD {p : Prop} (h : p := by decide) : p := h
theorem oM {p : Prop} (h : p := by omega) : p := h
theorem kR {p : Prop} (h : p := by kernel_rfl) : p := h
theorem aM {p : Prop} (h : p := by assumption) : p := h
theorem cP {p : Prop} (h : p := by first | assumption | omega) : p := h
theorem sM {p : Prop} (h : p := by first | omega | (simp; done) | (simp; omega)) : p := h
theorem oT {p : Prop} [Decidable p] (h : decide p = true) : p := of_decide_eq_true h
theorem oF {p : Prop} [Decidable p] (h : decide p = false) : ¬p := of_decide_eq_false h
theorem dT {p : Prop} [Decidable p] (h : p) : decide p = true /\ p := ⟨decide_eq_true h, h⟩
theorem dF {p : Prop} [Decidable p] (h : ¬p) : decide p = false /\ ¬p := ⟨decide_eq_false h, h⟩
open Go.RowKit
abbrev pB (b:Nat):Value:=.pointer (some ⟨b,0,none⟩)
abbrev qP (b o:Nat):Value:=.pointer (some ⟨b,o,none⟩)
abbrev qT:Value:=.bool true
abbrev qF:Value:=.bool false
abbrev qS (A:Z9)(n c:Nat):Value:=.slice A n c
abbrev sZ:Value:=.slice none 0 0
abbrev eS:Value:=.string ⟨#[]⟩
abbrev sB (b:Nat):Z9:=some ⟨b,0,none⟩
abbrev iV (n:Int):Value:=.int .i64 n
abbrev uV (n:Int):Value:=.int .u64 n
abbrev ca:List Value:=[qF,uV 0,eS,uV 0,eS]
abbrev cV:List Value:=[iV 0,iV 0,qF,uV 0,eS,uV 0,eS,eS,sZ]
abbrev da:Value:=.agg #[qF,uV 0,eS,uV 0,eS]
abbrev ea:List Value:=[qF,sZ,sZ]
abbrev eb:List ByteArray:=[⟨#[120]⟩,⟨#[121]⟩,⟨#[122]⟩]
abbrev uW (n:Int):Value:=.int .u32 n
abbrev nV (n:Nat):Value:=.int .i64 (n:Int)
abbrev mV (n:Nat):Value:=.int .u64 (n:Int)
abbrev mW (n:Nat):Value:=.int .u32 (n:Int)
def Ext (w w':World):Prop:=Below w.heap.size w w'
theorem Ext.refl (w:World):Ext w w:=Below.refl _ _
theorem Ext.trans {a b c:World}(h:Ext a b)(k:Ext b c):Ext a c:=Below.trans h (Below.mono k h.size)
theorem Ext.alloc {a w:World}(h:Ext a w)(o:Obj):Ext a (w.alloc o):=Below.alloc h h.size o
theorem Ext.drew {a w:World}(h:Ext a w):Ext a w.drew:=Below.drew h
theorem Ext.size {a w:World}(h:Ext a w):a.heap.size<=w.heap.size:=Below.size h
theorem Ext.cell {a w:World}(h:Ext a w){p:Addr}(b:p.block<a.heap.size):w.cell? p=a.cell? p:=Below.cell h b
theorem Ext.some {a w:World}(h:Ext a w){p:Addr}{v:Value}(b:a.cell? p=.some v):w.cell? p=.some v:=by
 rcases ep p.block a.heap.size with hl|hl
 ·rw[h.cell hl];exact b
 ·unfold World.cell? at b
  rw[ew hl] at b
  cases b
def av (z:Int):Bool:=decide (z<0)
def ac (z:Int):Nat:=z.natAbs
def qd (q:Rat):Nat:=if q.den=1 then 0 else q.den
def cM (neg:Bool)(a:Nat):Int:=if neg then -(a:Int) else a
theorem jI (neg:Bool)(a:Nat):av (cM neg a)=(neg && decide (0<a)):=by cases neg<;>simp[av,cM]<;>omega
theorem fh (neg:Bool)(a:Nat):ac (cM neg a)=a:=by cases neg<;>simp[ac,cM]
theorem mP (z:Int):cM (av z) (ac z)=z:=by unfold cM av ac;by_cases h:z<0<;>simp[h]<;>omega
theorem t7 (z:Int):cM (!av z) (ac z) = -z:=by unfold cM av ac;by_cases h:z<0<;>simp[h]<;>omega
theorem bK {z:Int}(h:av z=true):z<0:=by simpa [av] using h
theorem bg {z:Int}(h:av z=false):0<=z:=by simpa [av] using h
abbrev Hp:=Array Obj
def bc:Obj:=.cells #[] 0 (0,0)
structure G (w:World) (h:Hp):Prop where
  size:w.heap.size=h.size
  blk:∀ b:Nat,h[b]?=w.heap[b]?\/h[b]?=some bc
structure Gr (h h':Hp):Prop where
  size:h.size<=h'.size
  blk:∀ b:Nat,b<h.size->h'[b]?=h[b]?
structure Up (w:World) (h:Hp) (w':World) (h':Hp):Prop where
  ext:Ext w w'
  gr:Gr h h'
  g:G w' h'
theorem Gr.refl (h:Hp):Gr h h:=⟨ey _,fun _ _=>rfl⟩
theorem Gr.trans {a b c:Hp}(h:Gr a b)(k:Gr b c):Gr a c :=
 ⟨e6 h.size k.size,fun x d=>(k.blk x (e7 d h.size)).trans (h.blk x d)⟩
theorem Gr.push (h:Hp)(o:Obj):Gr h (h.push o) :=
 ⟨by simp,fun b a=>by rw[e8 a];exact (gg a).symm⟩
theorem Up.refl {w:World}{h:Hp}(g:G w h):Up w h w h:=⟨Ext.refl _,Gr.refl _,g⟩
theorem Up.trans {w w1 w2:World}{h h1 c:Hp}(a:Up w h w1 h1)(b:Up w1 h1 w2 c):Up w h w2 c:=⟨a.ext.trans b.ext,a.gr.trans b.gr,b.g⟩
theorem G.drew {w:World}{h:Hp}(g:G w h):G w.drew h:=⟨g.size,g.blk⟩
theorem Up.drew {w w1:World}{h h1:Hp}(a:Up w h w1 h1):Up w h w1.drew h1:=⟨a.ext.drew,a.gr,a.g.drew⟩
theorem heap_alloc (w:World)(o:Obj):(w.alloc o).heap=w.heap.push o:=rfl
theorem Up.allocAny {w:World}{h:Hp}(g:G w h)(o o':Obj)(a:o'=o\/o'=bc):Up w h (w.alloc o) (h.push o'):=by
 refine ⟨(Ext.refl _).alloc _,Gr.push _ _,⟨by rw[heap_alloc];simp[g.size],fun b=>?_⟩⟩;rw[heap_alloc];have e:=g.size
 rcases Nat.lt_trichotomy b h.size with hb|hb|hb
 ·rw[e8 hb,e8 oM]
  have:=g.blk b
  rwa [gg hb,gg oM] at this
 ·subst hb
  rw[gp];have:(w.heap.push o)[h.size]?=some o:=by rw[<-e];exact gp
  rw[this]
  rcases a with rfl|rfl
  ·exact .inl rfl
  ·exact .inr rfl
 ·left
  rw[ew (by simp;omega),ew (by simp;omega)]
structure Mo (M:List Nat) (w w':World):Prop where
  os:w'.os=w.os
  tape:w'.tape=w.tape
  output:w'.output=w.output
  size:w.heap.size<=w'.heap.size
  blk:∀ b,b<w.heap.size->b ∉ M->w'.heap[b]?=w.heap[b]?
theorem Mo.refl (M:List Nat)(w:World):Mo M w w:=⟨rfl,rfl,rfl,ey _,fun _ _ _=>rfl⟩
theorem Mo.trans {M:List Nat}{a b c:World}(h:Mo M a b)(k:Mo M b c):Mo M a c :=
 ⟨k.os.trans h.os,k.tape.trans h.tape,k.output.trans h.output,e6 h.size k.size,fun x e d=>(k.blk x (e7 e h.size) d).trans (h.blk x e d)⟩
theorem Ext.mo {a b:World}(h:Ext a b)(M:List Nat):Mo M a b:=⟨h.os,h.tape,h.output,h.size,fun x c _=>Below.block h x c⟩
structure UpM (M:List Nat) (w:World) (h:Hp) (w':World) (h':Hp):Prop where
  mo:Mo M w w'
  gr:Gr h h'
  g:G w' h'
theorem Up.m {w w':World}{h h':Hp}(u:Up w h w' h')(M:List Nat):UpM M w h w' h':=⟨u.ext.mo M,u.gr,u.g⟩
theorem UpM.refl {M:List Nat}{w:World}{h:Hp}(g:G w h):UpM M w h w h:=⟨Mo.refl _ _,Gr.refl _,g⟩
theorem UpM.trans {M:List Nat}{w w1 w2:World}{h h1 c:Hp}(a:UpM M w h w1 h1)(b:UpM M w1 h1 w2 c):UpM M w h w2 c:=⟨a.mo.trans b.mo,a.gr.trans b.gr,b.g⟩
structure Ms where
  l:List Nat
  z:Option (Nat × List Nat)
def Tl (M:Ms)(w w':World):Prop:=∀ K bs,M.z=some (K,bs)->w.heap.size<=w'.heap.size/\∀ b,b<K->b ∉ bs->w'.heap[b]?=w.heap[b]?
theorem Tl.refl (M:Ms)(w:World):Tl M w w:=fun _ _ _=>⟨ey _,fun _ _ _=>rfl⟩
def Rl (M:Ms)(k0 i:Nat)(w w':World):Prop:=(i<k0->Mo M.l w w')/\(k0<=i->Tl M w w')
theorem Rl.refl (M:Ms)(k0 i:Nat)(w:World):Rl M k0 i w w:=⟨fun _=>Mo.refl _ _,fun _=>Tl.refl _ _⟩
theorem Rl.mo {M:Ms}{k0 i:Nat}{w w':World}(h:i<k0)(m:Mo M.l w w'):Rl M k0 i w w':=⟨fun _=>m,fun hk=>absurd hk oM⟩
theorem Rl.tl {M:Ms}{k0 i:Nat}{w w':World}(h:k0<=i)(m:Tl M w w'):Rl M k0 i w w':=⟨fun hk=>absurd hk oM,fun _=>m⟩
section region
variable (M:Ms)(P:Program)(ops:Array Oper)(Q:Exit->Act->World->Prop)(k0:Nat)
def sL:Nat->Array Bool->Act->World->Prop
  | 0,L,a,w=>Region.ready .any ops L=[]/\Q .normal a w
  | n + 1,L,a,w=>(Region.ready .any ops L=[]->Q .normal a w) /\
      ∀ i∈Region.ready .any ops L,wpOp P ops Q i (fun a' w'=>Rl M k0 i w w'/\sL n (L.setIfInBounds i true) a' w') a w
theorem mH:∀ (n:Nat) (L:Array Bool) (a:Act) (w:World),sL M P ops Q k0 n L a w->wpAny P .any ops Q n L a w
 | 0,_,_,_,h=>h
 | n+1,_,_,_,h=>⟨h.1,fun i hi=>wpOp_mono (fun a' w' h'=>mH n _ a' w' h'.2) (h.2 i hi)⟩
def rem (L:Array Bool):Nat:=L.toList.count false
def A (L:Array Bool)(a:Act)(w:World):Prop:=sL M P ops Q k0 (rem L) L a w
variable {M P ops Q k0}
theorem Gt {L:Array Bool}{i:Nat}(h:L.getD i true=false):∃ hi:i<L.size,L[i]=false:=by
 rcases ep i L.size with hi|hi
 ·exact ⟨hi,by simpa [gs,hi] using h⟩
 ·simp[gs,Nat.not_lt.2 hi] at h
theorem CI {L:Array Bool}{i:Nat}(h:L.getD i true=false):rem L=rem (L.setIfInBounds i true)+1:=by
 obtain ⟨hi,e⟩:=Gt h
 unfold rem
 rw[Array.toList_setIfInBounds,List.count_set (by simpa using hi)];have a:L.toList[i]'(by simpa using hi)=false:=by simpa using e
 have b:0<L.toList.count false:=List.count_pos_iff.2 (by rw[<-a];exact gx _);rw[a,if_pos (by rfl),if_neg kD]
 omega
theorem fL {L:Array Bool}{i:Nat}(h:i∈Region.ready .any ops L):rem L=rem (L.setIfInBounds i true)+1:=CI (mem_ready.1 h).1
theorem A.intro {L:Array Bool}{a:Act}{w:World}(h0:Region.ready .any ops L=[]->Q .normal a w)
    (h1:∀ i∈Region.ready .any ops L,wpOp P ops Q i (fun a' w'=>Rl M k0 i w w'/\A M P ops Q k0 (L.setIfInBounds i true) a' w') a w):A M P ops Q k0 L a w:=by
  unfold A
  cases c:rem L with
  | zero =>
    have hr:Region.ready .any ops L=[]:=by
      cases hr:Region.ready .any ops L with
      | nil=>rfl
      | cons i l =>
        have:=fL (ops:=ops) (L:=L) (i:=i) (by rw[hr];simp)
        omega
    exact ⟨hr,h0 hr⟩
  | succ n =>
    refine ⟨h0,fun i hi=>?_⟩;have e:=fL hi;have b:=h1 i hi
    unfold A at b
    have e2:rem (L.setIfInBounds i true)=n:=by omega
    rw[e2] at b
    exact b
theorem A.done {L:Array Bool}{a:Act}{w:World}(hr:(Region.ready .any ops L).isEmpty=true)(h:Q .normal a w):A M P ops Q k0 L a w:=by
 have b:Region.ready .any ops L=[]:=by simpa using hr
 exact A.intro (fun _=>h) (fun i hi=>by rw[b] at hi;cases hi)
theorem ni {i:Nat}{D:Oper}{v:Value}{S:World->Prop}(hi:ops[i]?=some D)(C:∀ (j:Nat) (o:Oper) cs b,ops[j]?=some o->o.op≠.select cs b)
    (hQ:∀ c a w,Q (.panic c) (a.put D.dst v) w->Q (.panic c) a w)(K:∀ w w',S w->Mo M.l w w'->S w') :
    ∀ (n:Nat) (L:Array Bool) (a:Act) (w:World),
      (∀ j d,ops[j]?=some d->j≠i->L.getD j true=false->(∀ e∈d.after,Region.binds .any e=true->e.on≠i)->D.apart ops d=true) ->
      ((∀ w,S w)\/(∀ w w',S w->Tl M w w'->S w')\/∀ j d,ops[j]?=some d->k0<=j->j≠i->∃ e∈d.after,Region.binds .any e=true/\e.on=i) ->
      i∈Region.ready .any ops L->YieldsIf P ops S D v a->S w ->
      sL M P ops Q k0 n (L.setIfInBounds i true) (a.put D.dst v) w->(i<k0)->sL M P ops Q k0 (n+1) L a w:=by
  intro n
  induction n with
  | zero =>
    intro L a w _ _ hr U F H _;refine ⟨fun h=>(by rw[h] at hr;cases hr),fun j O=>?_⟩
    by_cases hji:j=i
    . subst hji;exact U.wpOp hi F ⟨Rl.refl _ _ _ _,H⟩
    . have:=ready_mono O hji
      rw[H.1] at this
      cases this
  | succ n ih =>
    intro L a w p f hr U F H hk;refine ⟨fun h=>(by rw[h] at hr;cases hr),fun j O=>?_⟩
    by_cases hji:j=i
    . subst hji;exact U.wpOp hi F ⟨Rl.refl _ _ _ _,H⟩
    . have h1:=H.2 j (ready_mono O hji)
      obtain ⟨B,d,u,J⟩:=mem_ready.1 O
      have z:∀ e∈d.after,Region.binds .any e=true->e.on≠i:=fun e he Z heq=>by
        have h1:=J e he Z;have h0:=(mem_ready.1 hr).1;rw[heq] at h1
        obtain ⟨y,h0'⟩:=Gt h0
        simp[gs,y,h0'] at h1
      have h2:=wpOp_putIf u (p j d u hji B z) (fun cs b=>C i D cs b hi) (fun cs b=>C j d cs b u) hQ U h1
      have x:∀ k ok,ops[k]?=some ok->k≠i->(L.setIfInBounds j true).getD k true=false ->
          (∀ e∈ok.after,Region.binds .any e=true->e.on≠i)->D.apart ops ok=true:=fun k ok hk Y I X=>by
        refine p k ok hk Y ?_ X
        by_cases hjk:j=k
        . subst hjk;exact B
        . rw[getD_set_ne true hjk] at I;exact I
      have hS':∀ w',Rl M k0 j w w'->S w':=fun w' W=>by
        rcases f with ht|ht|ht
        . exact ht w'
        . rcases ep j k0 with y|y
          . exact K _ _ F (W.1 y)
          . exact ht _ _ F (W.2 y)
        . rcases ep j k0 with y|y
          . exact K _ _ F (W.1 y)
          . obtain ⟨e,he,Z,ho⟩:=ht j d u y hji
            exact absurd ho (z e he Z)
      refine wpOp_mono (fun a' w' V=>⟨V.2.1,ih (L.setIfInBounds j true) a' w' x f (ready_mono hr (Ne.symm hji)) V.1 (hS' w' V.2.1) ?_ hk⟩) h2;rw[g1 _ _ hji];exact V.2.2
structure Al where
  i:Nat
  t:Nat
  o:Obj
structure AlOk (P:Program) (ops:Array Oper) (k0:Nat) (x:Al):Prop where
  ex:∃ o,ops[x.i]?=some o/\o.dst=some x.t/\o.guard=none/\o.after = #[]/\(∀ (ρ:Operand->Value) (w:World),(execOp ρ o).run P w=.ok (.value (.pointer (some ⟨w.heap.size,0,none⟩))) (w.alloc x.o))
  lt:x.i<k0
abbrev SA:=Al × Nat
def ee (L:Array Bool)(S:List SA):Array Bool:=S.foldr (fun s L=>L.setIfInBounds s.1.i true) L
def addA (a:Act)(S:List SA):Act:=S.foldr (fun s a=>a.put (some s.1.t) (.pointer (some ⟨s.2,0,none⟩))) a
def Blk (h0:Hp)(w:World)(h:Hp)(s:SA):Prop:=w.heap[s.2]?=some s.1.o/\h[s.2]?=some bc/\h0.size<=s.2
theorem Blk.up {h0:Hp}{w w':World}{h h':Hp}{s:SA}(b:Blk h0 w h s)(u:UpM M.l w h w' h')(hM:∀ b∈M.l,b<h0.size):Blk h0 w' h' s:=by
 obtain ⟨d,e,i⟩:=b
 have a:s.2<w.heap.size:=by
  rcases ep s.2 w.heap.size with a|a
  ·exact a
  ·rw[ew a] at d;cases d
 have c:s.2<h.size:=by
  rcases ep s.2 h.size with a|a
  ·exact a
  ·rw[ew a] at e;cases e
 exact ⟨(u.mo.blk _ a (fun f=>by have:=hM _ f;omega)).trans d,(u.gr.blk _ c).trans e,i⟩
theorem Blk.lt {h0:Hp}{w:World}{h:Hp}{s:SA}(b:Blk h0 w h s):s.2<w.heap.size:=by
 rcases ep s.2 w.heap.size with hl|hl
 ·exact hl
 ·have:=b.1;rw[ew hl] at this;cases this
variable (M P ops Q k0) in
def E (h0:Hp)(AL:List Al)(L:Array Bool)(a:Act)(w:World)(h:Hp):Prop :=
  ∀ w' h',Up w h w' h'->∀ (S:List SA) (T:List Al),(S.map (·.1)++T).Perm AL->(∀ s∈S,Blk h0 w' h' s)->(S.map (·.2)).Nodup ->
    A M P ops Q k0 (ee L S) (addA a S) w'
theorem jy (L:Array Bool)(S:List SA)(i:Nat)(hi:∀ s∈S,s.1.i≠i):ee (L.setIfInBounds i true) S=(ee L S).setIfInBounds i true:=by
  induction S with
  | nil=>rfl
  | cons s S ih =>
    have h1:s.1.i≠i:=hi s (by simp)
    show (ee (L.setIfInBounds i true) S).setIfInBounds s.1.i true=((ee L S).setIfInBounds s.1.i true).setIfInBounds i true
    rw[ih (fun t a=>hi t (by simp[a])),g1 _ _ (Ne.symm h1)]
theorem jK (a:Act)(S:List SA)(d:Option Tmp)(v:Value)(hd:∀ s∈S,d≠some s.1.t):addA (a.put d v) S=(addA a S).put d v:=by
  induction S with
  | nil=>rfl
  | cons s S ih =>
    have h1:d≠some s.1.t:=hd s (by simp)
    show (addA (a.put d v) S).put (some s.1.t) _=((addA a S).put (some s.1.t) _).put d v
    rw[ih (fun t c=>hd t (by simp[c]))];exact Act.put_comm _ _ _ (fun x e b=>h1 (e.trans b.symm))
theorem iz {L:Array Bool}{S:List SA}{j:Nat}(h:(ee L S).getD j true=false):L.getD j true=false:=by
  induction S with
  | nil=>exact h
  | cons s S ih =>
    apply ih
    have h':((ee L S).setIfInBounds s.1.i true).getD j true=false:=h
    by_cases e:s.1.i=j
    . subst e
      obtain ⟨b,a⟩:=Gt h'
      simp at a
    . rwa [getD_set_ne true e] at h'
theorem iY {L:Array Bool}{S:List SA}{j:Nat}(d:Bool)(a:∀ s∈S,s.1.i≠j):(ee L S).getD j d=L.getD j d:=by
  induction S with
  | nil=>rfl
  | cons s S ih =>
    show ((ee L S).setIfInBounds s.1.i true).getD j d=_
    rw[getD_set_ne d (a s (by simp))];exact ih (fun t b=>a t (by simp[b]))
theorem kp {L:Array Bool}{S:List SA}{j:Nat}(h:L.getD j false=true):(ee L S).getD j false=true:=by
 induction S with
 | nil=>exact h
 | cons s S ih=>exact getD_set_true (listed:=ee L S) ih
theorem r8 {L:Array Bool}{S:List SA}{i:Nat}(hi:∀ s∈S,s.1.i≠i)(h:i∈Region.ready .any ops L):i∈Region.ready .any ops (ee L S):=by
 rw[mem_ready] at *
 obtain ⟨h0,o,b,a⟩:=h;exact ⟨by rw[iY true hi];exact h0,o,b,fun e d c=>kp (a e d c)⟩
theorem n5 {o:Oper}(e:∀ cs b,o.op≠.select cs b)(a:Act)(S:List SA)(h:∀ s∈S,s.1.t ∉ o.looksAt ops) :
    execOp (addA a S).eval o=execOp a.eval o/\Region.wanted o (yielded ops (addA a S).tmps)=Region.wanted o (yielded ops a.tmps):=by
  induction S with
  | nil=>exact ⟨rfl,rfl⟩
  | cons s S ih =>
    obtain ⟨i1,f⟩:=ih (fun t i=>h t (by simp[i]));have c:∀ d,some s.1.t=some d->d ∉ o.looksAt ops:=fun d hd=>by injection hd with hd;subst hd;exact h s (by simp)
    exact ⟨(execOp_put (ops:=ops) o e _ _ _ c).trans i1,(wanted_put (ops:=ops) o _ _ _ c).trans f⟩
theorem gy {S:List SA}{T AL:List Al}(b:(S.map (·.1)++T).Perm AL){s:SA}(a:s∈S):s.1∈AL :=
 b.mem_iff.1 (g5.2 (.inl (g8.2 ⟨s,a,rfl⟩)))
def OpR (P:Program)(ops:Array Oper)(o:Oper)(a:Act)(w:World)(R:Value->World->Prop):Prop :=
  Region.wanted o (yielded ops a.tmps)=true /\
  ((∃ v w',(execOp a.eval o).run P w=.ok (.value v) w'/\R v w')\/(∃ w',(execOp a.eval o).run P w=.ok .skip w'/\R undef w') \/
   (∃ f args,(execOp a.eval o).run P w=.ok (.enter f args) w/\Calls P f args w (fun e w'=>∃ v,e=.returned v/\R v w')))
theorem OpR.wpOp {i:Nat}{o:Oper}{a:Act}{w:World}{R:Value->World->Prop}{K:Act->World->Prop}(hi:ops[i]?=some o)(h:OpR P ops o a w R)
  (b:∀ v w',R v w'->K (a.put o.dst v) w'):wpOp P ops Q i K a w:=by
 obtain ⟨c,h⟩:=h
 unfold Go.wpOp
 simp only[hi,c,if_true]
 left
 unfold Oper.wp
 rcases h with ⟨v,w',hr,hR⟩|⟨w',hr,hR⟩|⟨f,args,hr,hc⟩
 ·rw[hr];exact b _ _ hR
 ·rw[hr];exact b _ _ hR
 ·rw[hr]
  refine Calls.mono hc fun e w' d=>?_
  obtain ⟨v,rfl,hR⟩:=d;exact b _ _ hR
theorem OpR.addA {o:Oper}{a:Act}{w:World}{R:Value->World->Prop}(h:OpR P ops o a w R)(c:∀ cs b,o.op≠.select cs b)(S:List SA)(d:∀ s∈S,s.1.t ∉ o.looksAt ops) :
  OpR P ops o (addA a S) w R:=by
 obtain ⟨e1,e2⟩:=n5 (ops:=ops) c a S d
 unfold OpR at *
 rw[e1,e2];exact h
theorem Dl {x:Al}(ok:AlOk P ops k0 x){a:Act}{w:World}{K:Act->World->Prop}(h:K (a.put (some x.t) (.pointer (some ⟨w.heap.size,0,none⟩))) (w.alloc x.o)):wpOp P ops Q x.i K a w:=by
 obtain ⟨o,h1,c,d,_,b⟩:=ok.ex
 unfold Go.wpOp
 simp only[h1]
 rw[if_pos (by simp[Region.wanted,d])]
 left
 unfold Oper.wp
 rw[b]
 show K (a.put o.dst _) _
 rw[c];exact h
theorem qu {x:Al}(ok:AlOk P ops k0 x){L:Array Bool}(h:L.getD x.i true=false):x.i∈Region.ready .any ops L:=by
 obtain ⟨o,h1,_,_,b,_⟩:=ok.ex;exact mem_ready.2 ⟨h,o,h1,fun e a=>by rw[b] at a;simp at a⟩
theorem o8 {h0:Hp}{AL:List Al}{L:Array Bool}{a:Act}{w':World}{h':Hp}{S:List SA}{T:List Al}{x:Al}
  (e:∀ x∈AL,AlOk P ops k0 x)(hM:∀ b∈M.l,b<h0.size)(g:G w' h')(h:h0.size<=h'.size)(j:(S.map (·.1)++T).Perm AL)(k:∀ s∈S,Blk h0 w' h' s)(z:(S.map (·.2)).Nodup)(p:x∈T)
  (C:∀ (w1:World) (h1:Hp) (S1:List SA) (d:List Al),Up w' h' w1 h1->(S1.map (·.1)++d).Perm AL->(∀ s∈S1,Blk h0 w1 h1 s)->(S1.map (·.2)).Nodup->d.length<T.length->A M P ops Q k0 (ee L S1) (addA a S1) w1) :
  wpOp P ops Q x.i (fun a' w1=>Rl M k0 x.i w' w1/\A M P ops Q k0 ((ee L S).setIfInBounds x.i true) a' w1) (addA a S) w':=by
 have c:x∈AL:=j.mem_iff.1 (g5.2 (.inr p))
 obtain ⟨d,hT⟩:∃ d,T.Perm (x::d):=by
  obtain ⟨y,l2,rfl⟩:=List.append_of_mem p;exact ⟨y++l2,hH⟩
 have u:Up w' h' (w'.alloc x.o) (h'.push bc):=Up.allocAny g _ _ (.inr rfl);refine Dl (e x c) ⟨Rl.mo (e x c).lt (u.m M.l).mo,?_⟩;refine C (w'.alloc x.o) (h'.push bc) ((x,w'.heap.size)::S) d u ?_ ?_ ?_ ?_
 ·refine List.Perm.trans ?_ j
  show (x::(S.map (·.1)++d)).Perm _
  refine List.Perm.trans hH.symm ?_;exact List.Perm.append_left _ hT.symm
 ·intro s f
  rcases hP.1 f with rfl|f
  ·refine ⟨?_,?_,?_⟩
   ·rw[heap_alloc];exact gp
   ·rw[g.size];exact gp
   ·show h0.size<=w'.heap.size;rw[g.size];exact h
  ·exact (k s f).up (u.m M.l) hM
 ·show (w'.heap.size::S.map (·.2)).Nodup
  refine i3.2 ⟨fun B=>?_,z⟩;obtain ⟨s,f,D⟩:=g8.1 B;have:=(k s f).lt
  omega
 ·have:=hT.length_eq
  simp at this
  omega
theorem iP {AL:List Al}{L:Array Bool}{S:List SA}{T:List Al}{x:Al}(c:(S.map (·.1)++T).Perm AL)(d:x∈AL)(hr:x.i∈Region.ready .any ops (ee L S)):x∈T:=by
  rcases g5.1 (c.mem_iff.2 d) with hm|hm
  . obtain ⟨s,b,a⟩:=g8.1 hm
    have h1:=(mem_ready.1 hr).1
    exfalso
    rw[<-a] at h1
    clear hr c hm a
    induction S with
    | nil=>cases b
    | cons t S ih =>
      have h':((ee L S).setIfInBounds t.1.i true).getD s.1.i true=false:=h1
      by_cases e:t.1.i=s.1.i
      . rw[e] at h'
        obtain ⟨f,a⟩:=Gt h'
        simp at a
      . rw[getD_set_ne true e] at h'
        rcases hP.1 b with rfl|hs'
        . exact e rfl
        . exact ih hs' h'
  . exact hm
end region
section laws
variable {M:Ms}{P:Program}{ops:Array Oper}{Q:Exit->Act->World->Prop}{k0:Nat}
theorem ve (L:Array Bool)(S:List SA):(ee L S).size=L.size:=by
 induction S with
 | nil=>rfl
 | cons s S ih=>show ((ee L S).setIfInBounds s.1.i true).size=_;simp[ih]
theorem E.take0 {h0:Hp}{AL:List Al}{L:Array Bool}{a:Act}{w:World}{h:Hp}{i:Nat}{o:Oper}{v:Value}{S:World->Prop}
  (hi:ops[i]?=some o)(hk:i<k0)(f:Region.noSelect ops=true)(hf:Region.free .any ops L i=true)(hr:i∈Region.ready .any ops L)
  (B:∀ x∈AL,x.i≠i/\x.t ∉ o.looksAt ops/\o.dst≠some x.t)(X:∀ c a w,¬Q (.panic c) a w)
  (D:∀ w w',S w->Mo M.l w w'->S w')(O:∀ w',Mo M.l w w'->S w')(V:YieldsIf P ops S o v a)
  (k:(∀ w,S w)\/(∀ w w',S w->Tl M w w'->S w')\/∀ j z,ops[j]?=some z->k0<=j->j≠i->∃ e∈z.after,Region.binds .any e=true/\e.on=i)
  (H:E M P ops Q k0 h0 AL (L.setIfInBounds i true) (a.put o.dst v) w h):E M P ops Q k0 h0 AL L a w h:=by
 intro w' h' u y T I U W;have d:∀ s∈y,s.1.i≠i/\s.1.t ∉ o.looksAt ops/\o.dst≠some s.1.t:=fun s b=>B _ (gy I b)
 have J:=H w' h' u y T I U W;rw[jy L y i (fun s b=>(d s b).1),jK a y o.dst v (fun s b=>(d s b).2.2)] at J
 have p:=r8 (fun s b=>(d s b).1) hr;obtain ⟨e1,e2⟩:=n5 (ops:=ops) (Region.noSelect_spec f i o · · hi) a y (fun s b=>(d s b).2.1)
 unfold A at *
 rw[fL p]
 exact ni hi (Region.noSelect_spec f) (fun c a w Y=>absurd Y (X _ _ _)) D _ _ _ _
  (fun j z K F C=>Region.free_spec hi hf j z K F (iz C)) k p (V.of_same e1 e2) (O _ (u.m M.l).mo) J hk
theorem E.event0 {h0:Hp}{AL:List Al}{L:Array Bool}{a:Act}{w:World}{h:Hp}{i:Nat}{o:Oper}
    (hi:ops[i]?=some o)(hk:i<k0)(O:Region.noSelect ops=true)(hL:L.size=ops.size)(hun:L.getD i true=false)
    (F:∀ j V,ops[j]?=some V->L.getD j true=false->j≠i->(∀ x∈AL,x.i≠j)->∃ e∈V.after,Region.binds .any e=true/\L.getD e.on false=false/\∀ x∈AL,x.i≠e.on)
    (U:∀ e∈o.after,Region.binds .any e=true->L.getD e.on false=true\/∃ x∈AL,x.i=e.on)
    (hal:∀ x∈AL,x.i≠i/\x.t ∉ o.looksAt ops/\o.dst≠some x.t)(z:∀ x∈AL,AlOk P ops k0 x)(hM:∀ b∈M.l,b<h0.size)(g:G w h)(Z:h0.size<=h.size)
    (H:∀ w' h',Up w h w' h'->OpR P ops o a w' (fun v p=>∃ k,UpM M.l w' h' p k/\E M P ops Q k0 h0 AL (L.setIfInBounds i true) (a.put o.dst v) p k)):E M P ops Q k0 h0 AL L a w h:=by
  have key:∀ (m:Nat) (T:List Al),T.length=m->∀ w' h',Up w h w' h'->∀ (S:List SA),(S.map (·.1)++T).Perm AL->(∀ s∈S,Blk h0 w' h' s)->(S.map (·.2)).Nodup ->
      A M P ops Q k0 (ee L S) (addA a S) w':=by
    intro m
    induction m using la with
    | _ m ih =>
      intro T hT w' h' u S y W X;have f:∀ s∈S,s.1.i≠i/\s.1.t ∉ o.looksAt ops/\o.dst≠some s.1.t:=fun s c=>hal _ (gy y c)
      refine A.intro (fun I=>?_) (fun j hj=>?_)
      . exfalso
        by_cases hd:∃ e∈o.after,Region.binds .any e=true/\(ee L S).getD e.on false=false
        . obtain ⟨e,B,d,hf⟩:=hd
          rcases U e B d with h1|⟨x,C,hxe⟩
          . rw[kp h1] at hf;cases hf
          . have D:x.i<(ee L S).size:=by
              obtain ⟨o',ho',_⟩:=(z x C).ex;rw[ve,hL];exact (na.1 ho').1
            have:x.i∈Region.ready .any ops (ee L S):=qu (z x C) (by rw[<-hxe] at hf;simp[gs,D] at hf ⊢;exact hf);rw[I] at this
            cases this
        . have:i∈Region.ready .any ops (ee L S):=mem_ready.2 ⟨by rw[iY true (fun s c=>(f s c).1)];exact hun,o,hi,fun e B d=>by
            cases hv:(ee L S).getD e.on false
            . exact absurd ⟨e,B,d,hv⟩ hd
            . rfl⟩
          rw[I] at this
          cases this
      . by_cases hji:j=i
        . subst hji
          refine OpR.wpOp hi ((H w' h' u).addA (Region.noSelect_spec O j o · · hi) S (fun s c=>(f s c).2.1)) ?_;rintro v p ⟨k,u2,H2⟩;refine ⟨Rl.mo hk u2.mo,?_⟩;rw[<-jy L S j (fun s c=>(f s c).1),<-jK a S o.dst v (fun s c=>(f s c).2.2)];exact H2 p k (Up.refl u2.g) S T y (fun s c=>(W s c).up u2 hM) X
        . obtain ⟨K,V,Y,J⟩:=mem_ready.1 hj
          have C:∃ x∈AL,x.i=j:=by
            refine Classical.byContradiction fun hno=>?_
            obtain ⟨e,B,d,hf,hne⟩:=F j V Y (iz K) hji (fun x C B=>hno ⟨x,C,B⟩);have:=J e B d;rw[iY false (fun s c=>hne _ (gy y c)),hf] at this
            cases this
          obtain ⟨x,hxA,rfl⟩:=C;have hxT:=iP y hxA hj;exact o8 z hM u.g (e6 Z u.gr.size) y W X hxT (fun w1 h1 S1 T1 u1 hp1 hb1 hn1 D=>ih T1.length oM T1 rfl w1 h1 (u.trans u1) S1 hp1 hb1 hn1)
  exact fun w' h' u S T y W X=>key _ T rfl w' h' u S y W X
theorem E.fin0 {h0:Hp}{AL:List Al}{L:Array Bool}{a:Act}{w:World}{h:Hp}(hL:L.size=ops.size)
    (V:∀ j B,ops[j]?=some B->L.getD j true=false->(∃ x∈AL,x.i=j)\/∀ x∈AL,∃ e∈B.after,Region.binds .any e=true/\e.on=x.i)
    (p:∀ x∈AL,L.getD x.i true=false)(o:∀ x∈AL,AlOk P ops k0 x)(hM:∀ b∈M.l,b<h0.size)(I:h0.size<=h.size)(Y:(AL.map (·.i)).Nodup)
    (H:∀ w' h',Up w h w' h'->∀ S:List SA,(S.map (·.1)).Perm AL->(∀ s∈S,Blk h0 w' h' s)->(S.map (·.2)).Nodup->A M P ops Q k0 (ee L S) (addA a S) w'):E M P ops Q k0 h0 AL L a w h:=by
  have key:∀ (m:Nat) (T:List Al),T.length=m->∀ w' h',Up w h w' h'->∀ (S:List SA),(S.map (·.1)++T).Perm AL->(∀ s∈S,Blk h0 w' h' s)->(S.map (·.2)).Nodup ->
      A M P ops Q k0 (ee L S) (addA a S) w':=by
    intro m
    induction m using la with
    | _ m ih =>
      intro T hT w' h' u S d C D;cases T with
      | nil=>exact H w' h' u S (by simpa using d) C D
      | cons t T' =>
        have f:t∈AL:=d.mem_iff.1 (g5.2 (.inr (by simp)));have c:((S.map (·.1)++t::T').map (·.i)).Nodup:=(d.map (·.i)).nodup_iff.2 Y
        have W:∀ s∈S,s.1.i≠t.i:=fun s hs he=>by
          rw[List.map_append,List.nodup_append] at c
          exact c.2.2 s.1.i (g8.2 ⟨s.1,g8.2 ⟨s,hs,rfl⟩,rfl⟩) t.i (g8.2 ⟨t,by simp,rfl⟩) he
        have k:t.i∈Region.ready .any ops (ee L S):=qu (o t f) (by rw[iY true W];exact p t f);refine A.intro (fun O=>by rw[O] at k;cases k) (fun j hj=>?_);obtain ⟨z,B,F,y⟩:=mem_ready.1 hj
        rcases V j B F (iz z) with ⟨x,hxA,rfl⟩|hw
        . have X:=iP d hxA hj
          exact o8 o hM u.g (e6 I u.gr.size) d C D X (fun w1 h1 S1 T1 u1 hp1 K Z hlt=>ih T1.length oM T1 rfl w1 h1 (u.trans u1) S1 hp1 K Z)
        . obtain ⟨e,he,J,U⟩:=hw t f
          have:=y e he J;rw[U] at this
          obtain ⟨hl,hv⟩:=Gt (mem_ready.1 k).1
          simp[gs,hl,hv] at this
  exact fun w' h' u S T d C D=>key _ T rfl w' h' u S d C D
end laws
abbrev cH:=List (Nat × Value)
def fe (Γ:cH):List Deferred:=match Γ.lookup 1000000 with|some (.int _ D)=>[{ target:=.collected D.toNat,args:=#[] }]|_=>[]
structure Kn (n:Nat) (a:Act) (Γ:cH):Prop where
  df:a.defers=fe Γ
  sz:a.tmps.size=n
  nb:n<=1000000
  has:∀ t v,t≠1000000->Γ.lookup t=some v->a.tmps[t]?=some v
def ev (Γ:cH):Operand->Value
  | .tmp t=>(Γ.lookup t).getD undef
  | .const v=>v
  | .global g=>.pointer (some ⟨g,0,none⟩)
  | .func f=>.func (.func f) #[] #[]
def am (ops:Array Oper)(i:Nat):Oper:=ops.getD i default
def fg (Γ:cH):Operand->Bool
  | .tmp t=>t != 1000000 && (Γ.lookup t).isSome
  | _=>true
def bx (Γ:cH)(o:Oper):Bool:=o.op.operands.all (fg Γ)
def bp (ops:Array Oper)(Γ:cH)(o:Oper):Option Bool :=
  match o.guard with
  | none=>some true
  | some (g,want)=>match ((ops[g]?).bind (·.dst)).bind (fun t=>if t=1000000 then none else Γ.lookup t) with
    | some (.bool b)=>some (b == want)
    | some (.tuple _)=>some false
    | _=>none
theorem Kn.put {n:Nat}{a:Act}{Γ:cH}(k:Kn n a Γ){t:Nat}(h:t<n)(v:Value):Kn n (a.put (some t) v) ((t,v)::Γ):=by
 have f:=k.nb;refine ⟨?_,by simpa [Act.put] using k.sz,k.nb,fun s u c b=>?_⟩
 ·have e:((1000000:Nat) == t)=false:=by simp;omega
  show a.defers=_
  rw[k.df];unfold fe;rw[oa,e]
 rw[oa] at b
 by_cases e:s=t
 ·subst e
  simp at b
  subst b
  simp[Act.put,k.sz,h]
 ·have d:(s == t)=false:=by simp[e]
  rw[d] at b
  simp only[Act.put]
  rw[oi (Ne.symm e)];exact k.has s u c b
theorem Kn.eval {n:Nat}{a:Act}{Γ:cH}(k:Kn n a Γ){x:Operand}(b:fg Γ x=true):a.eval x=ev Γ x:=by
  cases x with
  | tmp t =>
    have b:(t != 1000000 && (Γ.lookup t).isSome)=true:=b;rw[ov] at b
    obtain ⟨v,hv⟩:=o0.1 b.2;have:=k.has t v (by simpa using b.1) hv
    simp[Act.eval,ev,hv,this]
  | _=>rfl
theorem Kn.exec {n:Nat}{a:Act}{Γ:cH}(k:Kn n a Γ){o:Oper}(c:∀ cs b,o.op≠.select cs b)(hk:bx Γ o=true):execOp a.eval o=execOp (ev Γ) o :=
 execOp_congr o c (fun x d=>k.eval ((o3.1 hk) x d))
theorem Kn.want {n:Nat}{a:Act}{Γ:cH}(k:Kn n a Γ){ops:Array Oper}{o:Oper}{b:Bool}(h:bp ops Γ o=some b):Region.wanted o (yielded ops a.tmps)=b:=by
  unfold bp at h
  unfold Region.wanted
  split at h
  . rename_i c;simp only[c];simpa using h
  . rename_i g want c
    simp only[c]
    cases hd:(ops[g]?).bind (·.dst) with
    | none=>rw[hd] at h;simp at h
    | some t =>
      rw[hd] at h
      simp only[Option.bind_some] at h
      by_cases ht0:t=1000000
      . rw[if_pos ht0] at h;simp at h
      rw[if_neg ht0] at h
      cases hv:Γ.lookup t with
      | none=>rw[hv] at h;simp at h
      | some u =>
        rw[hv] at h
        have d:=k.has t u ht0 hv;cases u with
        | bool x=>simp at h;subst h;simp[yielded,hd,d]
        | tuple x=>simp at h;subst h;simp[yielded,hd,d]
        | _=>simp at h
theorem Kn.mono {n:Nat}{a:Act}{Γ Γ':cH}(k:Kn n a Γ)(h:∀ t v,Γ'.lookup t=some v->Γ.lookup t=some v)(hd:fe Γ'=fe Γ):Kn n a Γ':=⟨k.df.trans hd.symm,k.sz,k.nb,fun t v b hv=>k.has t v b (h t v hv)⟩
def jJ (Γ:cH):List Nat->cH
  | []=>[]
  | t::ts=>match Γ.lookup t with|some v=>(t,v)::jJ Γ ts|none=>jJ Γ ts
theorem fH (Γ:cH):∀ (ts:List Nat) (t:Nat) (v:Value),(jJ Γ ts).lookup t=some v->Γ.lookup t=some v
  | [],_,_,h=>by simp[jJ] at h
  | s :: ts,t,v,h=>by
    unfold jJ at h
    split at h
    . rename_i u a
      rw[oa] at h
      by_cases e:t=s
      . subst e;simp at h;subst h;exact a
      . have b:(t == s)=false:=by simp[e]
        rw[b] at h
        exact fH Γ ts t v h
    . exact fH Γ ts t v h
abbrev Po:=Act->World->Prop
def gK (N R:Po)(X:Nat->Po):Exit->Act->World->Prop
  | .normal,a,w=>N a w
  | .ret,a,w=>R a w
  | .exit i,a,w=>X i a w
  | _,_,_=>False
def CG (P:Program)(n:Nat)(N R:Po)(X:Nat->Po)(c:Code)(Γ:cH)(w:World):Prop:=∀ a,Kn n a Γ->c.wp P (gK N R X) a w
def EG (M:Ms)(P:Program)(n:Nat)(N R:Po)(X:Nat->Po)(ops:Array Oper)(k0:Nat)(h0:Hp)(AL:List Al)(L:Array Bool)(Γ:cH)(w:World)(h:Hp):Prop :=
  (∀ x∈AL,AlOk P ops k0 x)->(∀ b∈M.l,b<h0.size)->G w h->h0.size<=h.size->∀ a,Kn n a Γ->E M P ops (gK N R X) k0 h0 AL L a w h
def AG (M:Ms)(P:Program)(n:Nat)(N R:Po)(X:Nat->Po)(ops:Array Oper)(k0:Nat)(L:Array Bool)(Γ:cH)(w:World):Prop :=
  ∀ a,Kn n a Γ->A M P ops (gK N R X) k0 L a w
section steps
variable {M:Ms}{P:Program}{n:Nat}{N R:Po}{X:Nat->Po}{ops:Array Oper}{k0:Nat}{h0:Hp}{AL:List Al}{L:Array Bool}{Γ:cH}{w:World}{h:Hp}
def qQ (ops:Array Oper)(AL:List Al)(i:Nat)(o:Oper):Bool:=AL.all fun x=>x.i != i && !(o.looksAt ops).contains x.t && o.dst != some x.t
theorem gZ {i:Nat}{o:Oper}(a:qQ ops AL i o=true):∀ x∈AL,x.i≠i/\x.t ∉ o.looksAt ops/\o.dst≠some x.t:=by
 intro x b;have:=(o4.1 a) x b
 simp only[ov,bne_iff_ne,ne_eq,Bool.not_eq_true',List.contains_eq_mem,decide_eq_false_iff_not] at this
 exact ⟨this.1.1,this.1.2,this.2⟩
def dz (n:Nat)(ops:Array Oper)(k0:Nat)(AL:List Al)(L:Array Bool)(i t:Nat):Bool :=
  let o:=am ops i
  decide (i<ops.size) && decide (i<k0) && Region.noSelect ops && Region.free .any ops L i && (Region.ready .any ops L).contains i && qQ ops AL i o && (o.dst == some t) && decide (t<n)
structure TakeOk (n:Nat) (ops:Array Oper) (k0:Nat) (AL:List Al) (L:Array Bool) (i t:Nat):Prop where
  get:ops[i]?=some (am ops i)
  lt:i<k0
  sel:Region.noSelect ops=true
  free:Region.free .any ops L i=true
  ready:i∈Region.ready .any ops L
  al:∀ x∈AL,x.i≠i/\x.t ∉ (am ops i).looksAt ops/\(am ops i).dst≠some x.t
  dst:(am ops i).dst=some t
  tn:t<n
theorem bH {i:Nat}(h:i<ops.size):ops[i]?=some (am ops i):=by
 unfold am;simp[h]
theorem dy {i t:Nat}(h:dz n ops k0 AL L i t=true):TakeOk n ops k0 AL L i t:=by
 unfold dz at h
 simp only[ov,decide_eq_true_eq,beq_iff_eq] at h
 obtain ⟨⟨⟨⟨⟨⟨⟨h1,d⟩,f⟩,c⟩,b⟩,e⟩,j⟩,a⟩:=h;exact ⟨bH h1,d,f,c,by simpa using b,gZ e,j,a⟩
theorem Rg.pure (i t:Nat)(v:Value)(b:(dz n ops k0 AL L i t && bx Γ (am ops i))=true)(l:bp ops Γ (am ops i)=some true)
  (hr:∀ w,(execOp (ev Γ) (am ops i)).run P w=.ok (.value v) w)
  (k:EG M P n N R X ops k0 h0 AL (L.setIfInBounds i true) ((t,v)::Γ) w h):EG M P n N R X ops k0 h0 AL L Γ w h:=by
 rw[ov] at b
 obtain ⟨b,j⟩:=b;have c:=dy b;intro d hM g e a f;have e1:=f.exec (Region.noSelect_spec c.sel i _ · · c.get) j;refine E.take0 (v:=v) (S:=fun _=>True) c.get c.lt c.sel c.free c.ready c.al (fun _ _ _ o=>o) (fun _ _ _ _=>trivial) (fun _ _=>trivial) (.inl ⟨f.want l,fun w _=>by rw[e1];exact hr w⟩) (.inl fun _=>trivial) ?_;rw[c.dst];exact k d hM g e _ (f.put c.tn v)
theorem Rg.skip (i t:Nat)(f:dz n ops k0 AL L i t=true)(j:bp ops Γ (am ops i)=some false)
  (k:EG M P n N R X ops k0 h0 AL (L.setIfInBounds i true) ((t,undef)::Γ) w h):EG M P n N R X ops k0 h0 AL L Γ w h:=by
 have c:=dy f;intro b hM g d a e;refine E.take0 (v:=undef) (S:=fun _=>True) c.get c.lt c.sel c.free c.ready c.al (fun _ _ _ l=>l) (fun _ _ _ _=>trivial) (fun _ _=>trivial) (.inr ⟨e.want j,rfl⟩) (.inl fun _=>trivial) ?_;rw[c.dst];exact k b hM g d _ (e.put c.tn undef)
def iT (ops:Array Oper)(k0 i:Nat):Bool:=(po ops.size).all fun j=>decide (j<k0) || (am ops j).after.any fun e=>Region.binds .any e && e.on == i
theorem jU {i:Nat}(h:iT ops k0 i=true):∀ j b,ops[j]?=some b->k0<=j->j≠i->∃ e∈b.after,Region.binds .any e=true/\e.on=i:=by
 intro j b c hk _;have a:=(na.1 c).1;have e:b=am ops j:=by have:=bH (ops:=ops) a;rw[c] at this;injection this
 have:=(o4.1 h) j (pR.2 a)
 simp only[sA,decide_eq_true_eq,ta,ov,beq_iff_eq] at this
 rcases this with h1|⟨x,hx,h2⟩
 ·omega
 ·rw[e];exact ⟨_,tu hx,h2⟩
theorem Rg.load (i t:Nat)(v:Value)(b:(dz n ops k0 AL L i t && bx Γ (am ops i) && iT ops k0 i)=true)(x:bp ops Γ (am ops i)=some true)
  (hr:∀ w',Mo M.l w w'->(execOp (ev Γ) (am ops i)).run P w'=.ok (.value v) w')
  (k:EG M P n N R X ops k0 h0 AL (L.setIfInBounds i true) ((t,v)::Γ) w h):EG M P n N R X ops k0 h0 AL L Γ w h:=by
 rw[ov,ov] at b
 obtain ⟨⟨b,o⟩,e⟩:=b;have c:=dy b;intro f hM g d a j;have e1:=j.exec (Region.noSelect_spec c.sel i _ · · c.get) o;refine E.take0 (v:=v) (S:=fun w'=>Mo M.l w w') c.get c.lt c.sel c.free c.ready c.al (fun _ _ _ y=>y) (fun _ _ h1 u=>h1.trans u) (fun _ p=>p) (.inl ⟨j.want x,fun w' p=>by rw[e1];exact hr w' p⟩) (.inr (.inr (jU e))) ?_;rw[c.dst];exact k f hM g d _ (j.put c.tn v)
theorem Rg.loadZ (i t:Nat)(v:Value){bs:List Nat}(hz:M.z=some (h0.size,bs))(j:(dz n ops k0 AL L i t && bx Γ (am ops i))=true)(B:bp ops Γ (am ops i)=some true)
  (hr:∀ w',(∀ b,b<h0.size->b ∉ bs->b ∉ M.l->w'.heap[b]?=w.heap[b]?)->(execOp (ev Γ) (am ops i)).run P w'=.ok (.value v) w')
  (k:EG M P n N R X ops k0 h0 AL (L.setIfInBounds i true) ((t,v)::Γ) w h):EG M P n N R X ops k0 h0 AL L Γ w h:=by
 rw[ov] at j
 obtain ⟨j,u⟩:=j;have c:=dy j;intro o hM g f a p;have x:h0.size<=w.heap.size:=by rw[g.size];exact f
 have e1:=p.exec (Region.noSelect_spec c.sel i _ · · c.get) u;refine E.take0 (v:=v) (S:=fun w'=>h0.size<=w'.heap.size/\∀ b,b<h0.size->b ∉ bs->b ∉ M.l->w'.heap[b]?=w.heap[b]?) c.get c.lt c.sel c.free c.ready c.al (fun _ _ _ C=>C) ?_ ?_ (.inl ⟨p.want B,fun w' y=>by rw[e1];exact hr w' y.2⟩) (.inr (.inl ?_)) ?_
 ·intro w1 w2 s m
  exact ⟨e6 s.1 m.size,fun b d h1 e=>(m.blk b (e7 d s.1) e).trans (s.2 b d h1 e)⟩
 ·intro w' m
  exact ⟨e6 x m.size,fun b d h1 e=>m.blk b (e7 d x) e⟩
 ·intro w1 w2 s m
  have:=m h0.size bs hz;exact ⟨e6 s.1 this.1,fun b d h1 e=>(this.2 b d h1).trans (s.2 b d h1 e)⟩
 ·rw[c.dst]
  exact k o hM g f _ (p.put c.tn v)
def nS (n:Nat)(ops:Array Oper)(k0:Nat)(AL:List Al)(L:Array Bool)(i t:Nat):Bool :=
  let o:=am ops i
  decide (i<ops.size) && decide (i<k0) && Region.noSelect ops && (L.size == ops.size) && (L.getD i true == false) &&
  ((po ops.size).all fun j=>L.getD j true || j == i || AL.any (·.i == j) || (am ops j).after.any fun e=>Region.binds .any e && (L.getD e.on false == false) && AL.all (·.i != e.on)) &&
  (o.after.all fun e=>!Region.binds .any e || L.getD e.on false || AL.any (·.i == e.on)) &&
  qQ ops AL i o && (o.dst == some t) && decide (t<n)
theorem Rg.event (i t:Nat)(B:(nS n ops k0 AL L i t && bx Γ (am ops i))=true)(hw:bp ops Γ (am ops i)=some true)
  (H:∀ w' h',Up w h w' h' ->
   (∃ v c b,(execOp (ev Γ) (am ops i)).run P w'=.ok (.value v) c/\UpM M.l w' h' c b/\EG M P n N R X ops k0 h0 AL (L.setIfInBounds i true) ((t,v)::Γ) c b) \/
   (∃ f args,(execOp (ev Γ) (am ops i)).run P w'=.ok (.enter f args) w'/\Calls P f args w' (fun e c=>∃ v b,e=.returned v/\UpM M.l w' h' c b/\EG M P n N R X ops k0 h0 AL (L.setIfInBounds i true) ((t,v)::Γ) c b))) :
  EG M P n N R X ops k0 h0 AL L Γ w h:=by
 rw[ov] at B
 obtain ⟨B,O⟩:=B
 unfold nS at B
 simp only[ov,decide_eq_true_eq,beq_iff_eq] at B
 obtain ⟨⟨⟨⟨⟨⟨⟨⟨⟨h1,h2⟩,Y⟩,h4⟩,Z⟩,h6⟩,h7⟩,h8⟩,W⟩,F⟩:=B;have d:=bH (ops:=ops) h1;intro p hM g C a I;have e1:=I.exec (Region.noSelect_spec Y i _ · · d) O;refine E.event0 d h2 Y h4 Z ?_ ?_ (gZ h8) p hM g C ?_
 ·intro j oj V K S J
  have D:=(na.1 V).1;have e:oj=am ops j:=by have:=bH (ops:=ops) D;rw[V] at this;injection this
  have:=(o4.1 h6) j (pR.2 D)
  simp only[sA,K,ul,false_or,beq_iff_eq,S,um,ta,ov] at this
  rcases this with ⟨x,hx,hxe⟩|⟨x,hx,⟨Q,hL⟩,hno⟩
  ·exact absurd hxe (J x hx)
  ·rw[e]
   refine ⟨_,tu hx,Q,hL,fun y hy=>?_⟩;have:=(o4.1 hno) y hy
   simpa using this
 ·intro e U Q
  have:=(o3.1 h7) e U
  simp only[sA,Q,u9,ul,false_or,um,beq_iff_eq] at this
  exact this
 ·intro w' h' u
  refine ⟨I.want hw,?_⟩;rw[e1];have o:=e6 C u.gr.size
  rcases H w' h' u with ⟨v,c,b,hr,z,k⟩|⟨f,args,hr,hcall⟩
  ·exact .inl ⟨v,c,hr,b,z,by rw[W];exact k p hM z.g (e6 o z.gr.size) _ (I.put F v)⟩
  ·exact .inr (.inr ⟨f,args,hr,hcall.mono fun e c ⟨v,b,U,z,k⟩=>⟨v,U,b,z,by rw[W];exact k p hM z.g (e6 o z.gr.size) _ (I.put F v)⟩⟩)
theorem Rg.call (i t f:Nat)(args:Array Value)(a:(nS n ops k0 AL L i t && bx Γ (am ops i))=true)(b:bp ops Γ (am ops i)=some true)
 (hr:∀ w',(execOp (ev Γ) (am ops i)).run P w'=.ok (.enter f args) w')
 (H:∀ w' h',Up w h w' h'->Calls P f args w' (fun e w''=>∃ v h'',e=.returned v/\UpM M.l w' h' w'' h''/\EG M P n N R X ops k0 h0 AL (L.setIfInBounds i true) ((t,v)::Γ) w'' h'')) :
 EG M P n N R X ops k0 h0 AL L Γ w h:=Rg.event i t a b (fun w' h' u=>.inr ⟨f,args,hr w',H w' h' u⟩)
def gI (ops:Array Oper)(AL:List Al)(L:Array Bool):Bool :=
  (L.size == ops.size) && ((po ops.size).all fun j=>L.getD j true || AL.any (·.i == j) || AL.all fun x=>(am ops j).after.any fun e=>Region.binds .any e && e.on == x.i) && AL.all (fun x=>L.getD x.i true == false)
theorem Rg.fin (k:gI ops AL L=true)(l:(AL.map (·.i)).Nodup)
  (H:∀ a,Kn n a Γ->∀ w' h',Up w h w' h'->∀ S:List SA,(S.map (·.1)).Perm AL->(∀ s∈S,Blk h0 w' h' s)->(S.map (·.2)).Nodup->A M P ops (gK N R X) k0 (ee L S) (addA a S) w') :
  EG M P n N R X ops k0 h0 AL L Γ w h:=by
 unfold gI at k
 simp only[ov,beq_iff_eq] at k
 obtain ⟨⟨h1,z⟩,F⟩:=k;intro d hM _ c a B;refine E.fin0 h1 ?_ ?_ d hM c l (H a B)
 ·intro j u p f
  have b:=(na.1 p).1;have e:u=am ops j:=by have:=bH (ops:=ops) b;rw[p] at this;injection this
  have:=(o4.1 z) j (pR.2 b)
  simp only[sA,f,ul,false_or,um,beq_iff_eq] at this
  rcases this with h4|h4
  ·exact .inl h4
  ·refine .inr fun x o=>?_
   have:=(o4.1 h4) x o
   simp only[ta,ov,beq_iff_eq] at this
   obtain ⟨y,D,C⟩:=this;rw[e];exact ⟨_,tu D,C⟩
 ·intro x o
  have:=(o4.1 F) x o
  simpa using this
theorem Rg.fin0 (d:gI ops [] L=true)(H:∀ w' h',Up w h w' h'->AG M P n N R X ops k0 L Γ w'):EG M P n N R X ops k0 h0 [] L Γ w h:=by
 refine Rg.fin d (by simp) ?_;intro a c w' h' u S b _ _;have:S=[]:=by simpa using b.length_eq
 subst this;exact H w' h' u a c
theorem Rg.fin1 {x:Al}(c:(gI ops [x] L && decide (x.t<n))=true) 
    (H:∀ w' h' b,Up w h w' h'->Blk h0 w' h' (x,b)->AG M P n N R X ops k0 (L.setIfInBounds x.i true) ((x.t,.pointer (some ⟨b,0,none⟩))::Γ) w'):EG M P n N R X ops k0 h0 [x] L Γ w h:=by
  rw[ov,decide_eq_true_eq] at c
  refine Rg.fin c.1 (by simp) ?_;intro a e w' h' u S d j _;have f:=d.length_eq
  match S,f with
  | [s],_ =>
    have:s.1=x:=by simpa using d
    obtain ⟨y,b⟩:=s
    simp at this
    subst this;exact H w' h' b u (j _ (by simp)) _ (e.put c.2 _)
theorem Rg.fin2 {x y:Al}(z:(gI ops [x,y] L && decide (x.t<n) && decide (y.t<n) && (x.t != y.t) && (x.i != y.i))=true) 
    (H:∀ w' h' b c,Up w h w' h'->Blk h0 w' h' (x,b)->Blk h0 w' h' (y,c)->b≠c->AG M P n N R X ops k0 ((L.setIfInBounds y.i true).setIfInBounds x.i true) ((x.t,.pointer (some ⟨b,0,none⟩))::(y.t,.pointer (some ⟨c,0,none⟩))::Γ) w'):EG M P n N R X ops k0 h0 [x,y] L Γ w h:=by
  simp only[ov,decide_eq_true_eq,bne_iff_ne,ne_eq] at z
  obtain ⟨⟨⟨⟨z,h1⟩,F⟩,V⟩,C⟩:=z;refine Rg.fin z (by simp[C]) ?_;intro a J w' h' u S D p Q;have O:=D.length_eq
  match S,O with
  | [s, t],_ =>
    obtain ⟨f,b⟩:=s;obtain ⟨j,c⟩:=t;have l:b≠c:=by simpa using Q
    have U:f=x/\j=y\/f=y/\j=x:=by
      have k:[f,j].Perm [x,y]:=by simpa using D
      have K:f∈[x,y]:=k.mem_iff.1 (by simp);have m2:x∈[f,j]:=k.mem_iff.2 (by simp);have I:y∈[f,j]:=k.mem_iff.2 (by simp);have o:x≠y:=fun e=>C (by rw[e])
      simp at K m2 I
      rcases K with rfl|rfl
      . rcases I with e|e
        . exact absurd e.symm o
        . exact .inl ⟨rfl,e.symm⟩
      . rcases m2 with e|e
        . exact absurd e o
        . exact .inr ⟨rfl,e.symm⟩
    rcases U with ⟨rfl,rfl⟩|⟨rfl,rfl⟩
    . exact H w' h' b c u (p _ (by simp)) (p _ (by simp)) l _ ((J.put F _).put h1 _)
    . have e1:ee L [(f,b),(j,c)]=(L.setIfInBounds f.i true).setIfInBounds j.i true:=g1 _ _ C
      have e2:addA a [(f,b),(j,c)]=(a.put (some f.t) (.pointer (some ⟨b,0,none⟩))).put (some j.t) (.pointer (some ⟨c,0,none⟩)) :=
        Act.put_comm (x:=some j.t) (y:=some f.t) a _ _ (fun d hd B=>V (Option.some.inj (hd.trans B.symm)))
      rw[e1,e2];exact H w' h' c b u (p _ (by simp)) (p _ (by simp)) (Ne.symm l) _ ((J.put F _).put h1 _)
def jm (ops:Array Oper)(k0:Nat)(L:Array Bool)(i:Nat):Bool :=
  decide (i<ops.size) && decide (k0<=i) && Region.noSelect ops && (Region.ready .any ops L == [i])
theorem A.one {a:Act}{i:Nat}(b:jm ops k0 L i=true){Q:Exit->Act->World->Prop}{o:Oper}(d:ops[i]?=some o){R':Value->World->Prop}(h:OpR P ops o a w R')(f:∀ v w',R' v w'->Tl M w w')
  (e:∀ v w',R' v w'->A M P ops Q k0 (L.setIfInBounds i true) (a.put o.dst v) w'):A M P ops Q k0 L a w:=by
 unfold jm at b
 simp only[ov,decide_eq_true_eq,beq_iff_eq] at b
 refine A.intro (fun h0=>by rw[b.2] at h0;cases h0) (fun j c=>?_);rw[b.2,vl] at c
 subst c;exact OpR.wpOp d h (fun v w' hr=>⟨Rl.tl b.1.1.2 (f v w' hr),e v w' hr⟩)
theorem mj {i:Nat}(a:jm ops k0 L i=true):ops[i]?=some (am ops i)/\Region.noSelect ops=true:=by
 unfold jm at a
 simp only[ov,decide_eq_true_eq,beq_iff_eq] at a
 exact ⟨bH a.1.1.1,a.1.2⟩
theorem T.val (i t:Nat)(v:Value)(w':World)(c:(jm ops k0 L i && bx Γ (am ops i) && ((am ops i).dst == some t) && decide (t<n))=true)(j:bp ops Γ (am ops i)=some true)
  (hr:(execOp (ev Γ) (am ops i)).run P w=.ok (.value v) w')(k:AG M P n N R X ops k0 (L.setIfInBounds i true) ((t,v)::Γ) w')(o:Tl M w w':=by exact Tl.refl _ _):AG M P n N R X ops k0 L Γ w:=by
 simp only[ov,decide_eq_true_eq,beq_iff_eq] at c
 obtain ⟨⟨⟨h1,f⟩,p⟩,h⟩:=c;obtain ⟨d,l⟩:=mj h1;intro a b;refine A.one h1 d (R':=fun u w1=>u=v/\w1=w') ⟨b.want j,.inl ⟨v,w',?_,rfl,rfl⟩⟩ (fun _ _ e=>e.2▸o) ?_
 ·rw[b.exec (Region.noSelect_spec l i _ · · d) f];exact hr
 ·rintro _ _ ⟨rfl,rfl⟩
  rw[p];exact k _ (b.put h _)
theorem T.store (i:Nat)(w':World)(c:(jm ops k0 L i && bx Γ (am ops i) && ((am ops i).dst == none))=true)(j:bp ops Γ (am ops i)=some true)
  (hr:(execOp (ev Γ) (am ops i)).run P w=.ok .skip w')(l:Tl M w w')(k:AG M P n N R X ops k0 (L.setIfInBounds i true) Γ w'):AG M P n N R X ops k0 L Γ w:=by
 simp only[ov,beq_iff_eq] at c
 obtain ⟨⟨h1,h⟩,o⟩:=c;obtain ⟨d,f⟩:=mj h1;intro a b;refine A.one h1 d (R':=fun u w1=>u=undef/\w1=w') ⟨b.want j,.inr (.inl ⟨w',?_,rfl,rfl⟩)⟩ (fun _ _ e=>e.2▸l) ?_
 ·rw[b.exec (Region.noSelect_spec f i _ · · d) h];exact hr
 ·rintro _ _ ⟨rfl,rfl⟩
  rw[o];exact k _ b
theorem T.done (c:(Region.ready .any ops L).isEmpty=true)(k:∀ a,Kn n a Γ->N a w):AG M P n N R X ops k0 L Γ w :=
 fun a b=>A.done c (k a b)
theorem T.next {y:Code}{N' R':Po}{X':Nat->Po}(c:(Region.ready .any ops L).isEmpty=true)(k:CG P n N' R' X' y Γ w):AG M P n (fun a w=>y.wp P (gK N' R' X') a w) R X ops k0 L Γ w :=
 fun a b=>A.done c (k a b)
end steps
section code
variable {P:Program}{n:Nat}{N R:Po}{X:Nat->Po}{Γ:cH}{w:World}
def k9 (ops:Array Oper):Bool:=(po ops.size).all fun i=>(am ops i).after.all fun e=>!Region.binds .any e || decide (e.on<i)
theorem o6 {M:Ms}{ops:Array Oper}{Q:Exit->Act->World->Prop}{k0:Nat}(h:k9 ops=true):∀ (m k:Nat) (L:Array Bool) (a:Act) (w:World),k+m=ops.size->L.size=ops.size ->
    (∀ j,j<ops.size->L.getD j true=decide (j<k))->A M P ops Q k0 L a w->wpOps P ops Q (xv k m) a w:=by
  intro m
  induction m with
  | zero =>
    intro k L a w hk p b d
    have hz:Region.ready .any ops L=[]:=by
      cases hr:Region.ready .any ops L with
      | nil=>rfl
      | cons i l =>
        have F:i∈Region.ready .any ops L:=by rw[hr];simp
        obtain ⟨h0,o,C,_⟩:=mem_ready.1 F;have hi:=(na.1 C).1;rw[b i hi] at h0
        simp at h0
        omega
    show Q .normal a w
    unfold A at d
    cases z:rem L with
    | zero=>rw[z] at d;exact d.2
    | succ n=>rw[z] at d;exact d.1 hz
  | succ m ih =>
    intro k L a w hk p b d;have f:k<ops.size:=by omega
    have c:k∈Region.ready .any ops L:=by
      refine mem_ready.2 ⟨by rw[b k f];simp,am ops k,bH f,fun e H D=>?_⟩;have h1:=(o4.1 h) k (pR.2 f);have x:=(o3.1 h1) e H
      simp only[D,u9,Bool.false_or,decide_eq_true_eq] at x
      have u:=b e.on oM;rw[show decide (e.on<k)=true by simp[x]] at u
      have B:e.on<L.size:=by omega
      simp[gs,B] at u ⊢
      exact u
    rw[xw,wpOps_cons]
    unfold A at d
    rw[fL c] at d
    refine wpOp_mono (fun a' w' h'=>?_) (d.2 k c);refine ih (k+1) (L.setIfInBounds k true) a' w' oM (by simpa using p) ?_ h'.2;intro j y
    by_cases e:k=j
    . subst e
      simp[gs,p,y]
    . rw[getD_set_ne true e,b j y]
      congr 1
      simp only[eq_iff_iff]
      omega
theorem jc (m:Nat):rem (Array.replicate m false)=m:=by unfold rem;simp
theorem nt {m j:Nat}(a:j<m):(Array.replicate m false).getD j true=false:=by simp[gs,a]
theorem CG.region {id:Nat}{ops:Array Oper}{d:Bool}(M:Ms)(k0:Nat)(AL:List Al)(o:P.follows .mixedOrders=true)(c:k9 ops=true){h:Hp}(g:G w h)(e:∀ x∈AL,AlOk P ops k0 x)(hM:∀ b∈M.l,b<h.size)
    (H:EG M P n N R X ops k0 h AL (Array.replicate ops.size false) Γ w h):CG P n N R X (.region id ops d) Γ w:=by
  intro a k;have f:∀ w' h',Up w h w' h'->A M P ops (gK N R X) k0 (Array.replicate ops.size false) a w':=fun w' h' u=>H e hM g (ey _) a k w' h' u [] AL (List.Perm.refl _) (fun _ p=>by cases p) (by simp)
  cases d with
  | true =>
    refine wp_region_any o ?_;have h1:=f w.drew h (Up.drew (Up.refl g))
    unfold A at h1
    rw[jc] at h1
    exact mH _ _ _ _ _ _ _ _ _ h1
  | false =>
    refine wp_region ?_;rw[x2];exact o6 c _ 0 _ a w oM (by simp) (fun j i=>by rw[nt i];simp) (f w h (Up.refl g))
theorem CG.seq {x y:Code}(H:CG P n (fun a w=>y.wp P (gK N R X) a w) R X x Γ w):CG P n N R X (.seq x y) Γ w:=by
 intro a b;refine wp_seq (wp_mono (H a b) ?_);intro e a w c;cases e<;>exact c
theorem CG.cond {c:Operand}{x y:Code}(t:Bool)(d:fg Γ c=true)(hv:ev Γ c=.bool t)(f:t=true->CG P n N R X x Γ w)(hf:t=false->CG P n N R X y Γ w):CG P n N R X (.cond c x y) Γ w :=
 fun a b=>wp_cond_split (by rw[b.eval d];exact hv) (fun e=>f e a b) (fun e=>hf e a b)
theorem CG.condT {c:Operand}{x y:Code}(a:fg Γ c=true)(hv:ev Γ c=.bool true)(b:CG P n N R X x Γ w):CG P n N R X (.cond c x y) Γ w:=CG.cond true a hv (fun _=>b) (fun e=>by cases e)
theorem CG.condF {c:Operand}{x y:Code}(a:fg Γ c=true)(hv:ev Γ c=.bool false)(b:CG P n N R X y Γ w):CG P n N R X (.cond c x y) Γ w:=CG.cond false a hv (fun e=>by cases e) (fun _=>b)
theorem CG.skip (H:∀ a,Kn n a Γ->N a w):CG P n N R X .skip Γ w:=fun a b=>wp_skip (H a b)
theorem CG.skipN {y:Code}{N' R':Po}{X':Nat->Po}(H:CG P n N' R' X' y Γ w):CG P n (fun a w=>y.wp P (gK N' R' X') a w) R X .skip Γ w:=fun a b=>wp_skip (H a b)
theorem CG.ret (H:∀ a,Kn n a Γ->R a w):CG P n N R X .ret Γ w:=fun a b=>wp_ret (H a b)
theorem CG.exit {id:Nat}(H:∀ a,Kn n a Γ->X id a w):CG P n N R X (.exit id) Γ w:=fun a b=>wp_exit (H a b)
theorem CG.block {id:Nat}{c:Code}(H:CG P n N R (fun i=>if i=id then N else X i) c Γ w):CG P n N R X (.block id c) Γ w:=by
 intro a f;refine wp_block (wp_mono (H a f) ?_);intro e a w d;cases e<;>try exact d
 rename_i i
 simp only[gK] at d
 simp only[Exit.inBlock,gK]
 split
 ·rename_i b;rw[if_pos b] at d;exact d
 ·rename_i b;rw[if_neg b] at d;exact d
theorem CG.to {c:Code}(Γ':cH)(d:jJ Γ (Γ'.map (·.1))=Γ')(hd:fe Γ'=fe Γ)(H:CG P n N R X c Γ' w):CG P n N R X c Γ w :=
 fun a b=>H a (b.mono (fun t v hv=>fH Γ (Γ'.map (·.1)) t v (by rw[d];exact hv)) hd)
theorem Kn.to {a:Act}(k:Kn n a Γ)(Γ':cH)(b:jJ Γ (Γ'.map (·.1))=Γ')(hd:fe Γ'=fe Γ:=by kernel_rfl):Kn n a Γ' :=
 k.mono (fun t v hv=>fH Γ (Γ'.map (·.1)) t v (by rw[b];exact hv)) hd
theorem CG.loop {c:Code}(I:Nat->cH->World->Prop)(m:Nat)(h0:I m Γ w)
    (u:∀ m Γ w,I m Γ w->CG P n (fun a w'=>∃ C j,C<m/\I C j w'/\Kn n a j) R X c Γ w):CG P n N R X (.loop c) Γ w:=by
  intro a H
  suffices key:∀ m a w Γ,I m Γ w->Kn n a Γ->∀ (b:Frame) (k:List Item) (cs:List Frame),∃ e a' w',gK N R X e a' w'/\Arrives P (lone (b.at a (.code c::.inLoop c::k)) cs w) b k cs e a' w' by
    intro b k cs;obtain ⟨e,a',w',o,d⟩:=key m a w Γ h0 H b k cs;exact ⟨e,a',w',o,.of_steps (.one step_loop) d⟩
  intro m
  induction m using la with
  | _ m ih =>
    intro a w Γ K H b k cs;obtain ⟨e,f,h,o,d⟩:=u m Γ w K a H b (.inLoop c::k) cs;cases e with
    | normal =>
      obtain ⟨C,j,F,D,J⟩:=o;obtain ⟨B,z,y,p,i⟩:=ih C F f h j D J b k cs;exact ⟨B,z,y,p,.of_steps (Steps.trans d (.one step_inLoop)) i⟩
    | exit id=>exact ⟨.exit id,f,h,o,.pass (x:=.inLoop c) rfl (fun _ _=>.inl (by simp)) d⟩
    | goto l=>exact o.elim
    | ret=>exact ⟨.ret,f,h,o,.pass (x:=.inLoop c) rfl (fun _ _=>.inl (by simp)) d⟩
    | panic ch=>exact o.elim
    | outgrown=>exact o.elim
def envOf (l:List Value):cH:=go 0 l
where go:Nat->List Value->cH
  | _,[]=>[]
  | k,v::l=>(k,v)::go (k+1) l
theorem ri:∀ (l:List Value) (k t:Nat) (v:Value),(envOf.go k l).lookup t=some v->k<=t/\l[t-k]?=some v
  | [],_,_,_,h=>by simp[envOf.go] at h
  | u :: l,k,t,v,h=>by
    rw[envOf.go,oa] at h
    by_cases e:t=k
    . subst e;simp at h;subst h;exact ⟨ey _,by simp⟩
    . have b:(t == k)=false:=by simp[e]
      rw[b] at h
      obtain ⟨h1,a⟩:=ri l (k+1) t v h;refine ⟨by omega,?_⟩;obtain ⟨d,hd⟩:∃ d,t-k=d+1:=⟨t-k-1,by omega⟩;rw[hd];have:t-(k+1)=d:=by omega
      rw[this] at a
      simpa using a
theorem fA {l:List Value}{t:Nat}{v:Value}(h:(envOf l).lookup t=some v):l[t]?=some v:=by
 have:=ri l 0 t v h
 simpa using this.2
def nx (P:Program)(fn:Func)(Ro:Ending->World->Prop):Po:=fun a w=>a.defers=[]/\∃ v,(results fn a.tmps).run P w=.ok v w/\Ro (.returned v) w
theorem enter {f:FuncId}{h:Func}{c:Code}{args:Array Value}{j:Ending->World->Prop}(hf:P.funcs[f]?=some h)(p:h.body=some c)(u:h.ntmps=n)(x:args.size<=n)(k:n<=1000000)
    (Γ0:cH)(d:Γ0=envOf args.toList)(H:CG P n (nx P h j) (nx P h j) (fun _ _ _=>False) c Γ0 w):Calls P f args w j:=by
  refine calls_of_wp hf p (wp_mono (H _ ⟨?_,?_,k,?_⟩) ?_)
  . show []=fe Γ0
    unfold fe
    cases e:Γ0.lookup 1000000 with
    | none=>rfl
    | some v =>
      rw[d] at e
      have h1:=fA e;rw[x4 (by simp;omega)] at h1
      cases h1
  . simp;omega
  . intro t v _ hv
    rw[d] at hv
    have h1:=fA hv
    have o:t<args.size:=by
      rcases ep t args.size with hl|hl
      . exact hl
      . rw[x4 (by simpa using hl)] at h1;cases h1
    rw[yh o]
    simpa using h1
  . intro e a w b
    cases e with
    | normal=>exact b
    | ret=>exact b
    | exit i=>exact b.elim
    | goto l=>exact b.elim
    | panic ch=>exact b.elim
    | outgrown=>exact b.elim
def LG (P:Program)(n:Nat)(N R:Po)(X:Nat->Po)(ops:Array Oper)(k:Nat)(Γ:cH)(w:World):Prop :=
  ∀ a,Kn n a Γ->wpOps P ops (gK N R X) (xv k (ops.size-k)) a w
theorem CG.listed {id:Nat}{ops:Array Oper}(H:LG P n N R X ops 0 Γ w):CG P n N R X (.region id ops false) Γ w :=
 fun a b=>wp_region (by rw[x2];exact H a b)
section listed
variable {ops:Array Oper}{k:Nat}
def d5 (ops:Array Oper)(Γ:cH)(k:Nat):Bool:=decide (k<ops.size) && Region.noSelect ops && bx Γ (am ops k)
theorem LG.op (b:d5 ops Γ k=true)(e:bp ops Γ (am ops k)=some true){R':Value->World->Prop}
  (h:∀ a,Kn n a Γ->OpR P ops (am ops k) a w R')(d:∀ a v w',Kn n a Γ->R' v w'->wpOps P ops (gK N R X) (xv (k+1) (ops.size-(k+1))) (a.put (am ops k).dst v) w'):LG P n N R X ops k Γ w:=by
 unfold d5 at b
 simp only[ov,decide_eq_true_eq] at b
 intro a c;obtain ⟨m,hm⟩:∃ m,ops.size-k=m+1:=⟨ops.size-k-1,by omega⟩;rw[hm,xw,wpOps_cons];refine OpR.wpOp (bH b.1.1) (h a c) (fun v w' hr=>?_);have:=d a v w' c hr;rw[show ops.size-(k+1)=m by omega] at this
 exact this
theorem LG.val (t:Nat)(v:Value)(w':World)(d:(d5 ops Γ k && ((am ops k).dst == some t) && decide (t<n))=true)(e:bp ops Γ (am ops k)=some true)
  (hr:(execOp (ev Γ) (am ops k)).run P w=.ok (.value v) w')(H:LG P n N R X ops (k+1) ((t,v)::Γ) w'):LG P n N R X ops k Γ w:=by
 simp only[ov,decide_eq_true_eq,beq_iff_eq] at d
 obtain ⟨⟨h1,f⟩,h⟩:=d;have b:=h1
 unfold d5 at b
 simp only[ov,decide_eq_true_eq] at b
 refine LG.op h1 e (R':=fun u w1=>u=v/\w1=w') (fun a c=>⟨c.want e,.inl ⟨v,w',?_,rfl,rfl⟩⟩) ?_
 ·rw[c.exec (Region.noSelect_spec b.1.2 k _ · · (bH b.1.1)) b.2];exact hr
 ·rintro a _ _ c ⟨rfl,rfl⟩
  rw[f];exact H _ (c.put h _)
theorem LG.out (t:Nat)(c:(decide (k<ops.size) && ((am ops k).dst == some t) && decide (t<n))=true)(e:bp ops Γ (am ops k)=some false)
  (H:LG P n N R X ops (k+1) ((t,undef)::Γ) w):LG P n N R X ops k Γ w:=by
 simp only[ov,decide_eq_true_eq,beq_iff_eq] at c
 obtain ⟨⟨h1,d⟩,f⟩:=c;intro a b;obtain ⟨m,hm⟩:∃ m,ops.size-k=m+1:=⟨ops.size-k-1,by omega⟩;rw[hm,xw,wpOps_cons]
 unfold wpOp
 simp only[bH h1,b.want e,ul,if_false]
 have:=H _ (b.put f undef);rw[show ops.size-(k+1)=m by omega] at this
 rw[d];exact this
theorem LG.store (w':World)(d:(d5 ops Γ k && ((am ops k).dst == none))=true)(e:bp ops Γ (am ops k)=some true)
  (hr:(execOp (ev Γ) (am ops k)).run P w=.ok .skip w')(H:LG P n N R X ops (k+1) Γ w'):LG P n N R X ops k Γ w:=by
 simp only[ov,beq_iff_eq] at d
 obtain ⟨h1,f⟩:=d;have b:=h1
 unfold d5 at b
 simp only[ov,decide_eq_true_eq] at b
 refine LG.op h1 e (R':=fun u w1=>w1=w') (fun a c=>⟨c.want e,.inr (.inl ⟨w',?_,rfl⟩)⟩) ?_
 ·rw[c.exec (Region.noSelect_spec b.1.2 k _ · · (bH b.1.1)) b.2];exact hr
 ·rintro a _ _ c rfl
  rw[f];exact H _ c
theorem LG.call (t f:Nat)(args:Array Value)(d:(d5 ops Γ k && ((am ops k).dst == some t) && decide (t<n))=true)(i:bp ops Γ (am ops k)=some true)
  (hr:(execOp (ev Γ) (am ops k)).run P w=.ok (.enter f args) w)(H:Calls P f args w (fun e w'=>∃ v,e=.returned v/\LG P n N R X ops (k+1) ((t,v)::Γ) w')):LG P n N R X ops k Γ w:=by
 simp only[ov,decide_eq_true_eq,beq_iff_eq] at d
 obtain ⟨⟨h1,j⟩,l⟩:=d;have b:=h1
 unfold d5 at b
 simp only[ov,decide_eq_true_eq] at b
 refine LG.op h1 i (R':=fun v w'=>LG P n N R X ops (k+1) ((t,v)::Γ) w') (fun a c=>⟨c.want i,.inr (.inr ⟨f,args,?_,H⟩)⟩) ?_
 ·rw[c.exec (Region.noSelect_spec b.1.2 k _ · · (bH b.1.1)) b.2];exact hr
 ·rintro a v w' c h
  rw[j];exact h _ (c.put l _)
theorem LG.done (b:(k == ops.size)=true)(H:∀ a,Kn n a Γ->N a w):LG P n N R X ops k Γ w:=by
 simp only[beq_iff_eq] at b
 subst b;intro a c;rw[yp];exact H a c
theorem LG.next {y:Code}{N' R':Po}{X':Nat->Po}(b:(k == ops.size)=true)(H:CG P n N' R' X' y Γ w):LG P n (fun a w=>y.wp P (gK N' R' X') a w) R X ops k Γ w:=LG.done b H
end listed
theorem ao {ops:Array Oper}{k0:Nat}:∀ x∈([]:List Al),AlOk P ops k0 x:=fun _ h=>by cases h
theorem aZ {ops:Array Oper}{k0:Nat}{x:Al}{l:List Al}(h:AlOk P ops k0 x)(k:∀ y∈l,AlOk P ops k0 y):∀ y∈x::l,AlOk P ops k0 y:=fun y a=>by
 rcases hP.1 a with rfl|a
 ·exact h
 ·exact k y a
def DJ (ops:Array Oper)(k0:Nat)(x:Al):Bool:=decide (x.i<ops.size) && ((am ops x.i).dst == some x.t) && (am ops x.i).guard.isNone && (am ops x.i).after.isEmpty && decide (x.i<k0)
theorem dB {ops:Array Oper}{k0:Nat}{x:Al}(a:DJ ops k0 x=true)(hr:∀ (ρ:Operand->Value) (w:World),(execOp ρ (am ops x.i)).run P w=.ok (.value (.pointer (some ⟨w.heap.size,0,none⟩))) (w.alloc x.o)):AlOk P ops k0 x:=by
 unfold DJ at a
 simp only[ov,decide_eq_true_eq,beq_iff_eq,Option.isNone_iff_eq_none,Array.isEmpty_iff] at a
 exact ⟨⟨_,bH a.1.1.1.1,a.1.1.1.2,a.1.1.2,a.1.2,hr⟩,a.2⟩
end code
def bW {α:Type}(P:Program):Sem α->List Value->Option (α × List Addr)
  | .pure a,_=>some (a,[])
  | .load _ a k,v::vs=>(bW P (k v) vs).map fun r=>(r.1,a::r.2)
  | .program k,vs=>bW P (k P) vs
  | .mark _ k,vs=>bW P k vs
  | _,_=>none
theorem bY {α:Type}{P:Program}{w:World}:∀ (s:Sem α) (vs:List Value) (r:α) (l:List Addr),bW P s vs=some (r,l) ->
    (∀ (i:Nat) a v,l[i]?=some a->vs[i]?=some v->w.cell? a=some v)->s.run P w=.ok r w:=by
  intro s
  induction s with
  | pure a=>intro vs r l h _;simp[bW] at h;simp[Sem.run,h.1]
  | load m a k ih =>
    intro vs r l h b;cases vs with
    | nil=>simp[bW] at h
    | cons v vs =>
      simp only[bW,yq] at h
      obtain ⟨⟨f,e⟩,h1,c⟩:=h
      injection c with e1 e2
      subst e1;subst e2;have h0:=b 0 a v (by simp) (by simp)
      simp only[Sem.run,h0]
      exact ih v vs _ _ h1 (fun i a' v' d hv=>b (i+1) a' v' (by simpa using d) (by simpa using hv))
  | program k ih=>intro vs r l h b;exact ih P vs r l h b
  | mark m k ih=>intro vs r l h b;exact ih vs r l h b
  | _=>intro vs r l h _;simp[bW] at h
def dU {α:Type}(P:Program):Sem α->Option (α × List (Addr × Value))
  | .pure a=>some (a,[])
  | .store _ _ (.agg _) _=>none
  | .store _ _ (.tuple _) _=>none
  | .store _ a v k=>(dU P k).map fun r=>(r.1,(a,v)::r.2)
  | .program k=>dU P (k P)
  | .mark _ k=>dU P k
  | _=>none
structure Put (b:Nat) (w w':World):Prop where
  os:w'.os=w.os
  tape:w'.tape=w.tape
  output:w'.output=w.output
  size:w'.heap.size=w.heap.size
  blk:∀ c,c≠b->w'.heap[c]?=w.heap[c]?
theorem Put.tl {b:Nat}{w w':World}(p:Put b w w'){M:Ms}(hz:∀ K bs,M.z=some (K,bs)->K<=b\/b∈bs):Tl M w w':=fun K bs e=>⟨Nat.le_of_eq p.size.symm,fun c d a=>p.blk c (fun h=>by
 rcases hz K bs e with h1|h1
 ·omega
 ·exact a (h▸h1))⟩
theorem Put.refl (b:Nat)(w:World):Put b w w:=⟨rfl,rfl,rfl,rfl,fun _ _=>rfl⟩
theorem Put.trans {b:Nat}{w1 w2 w3:World}(p:Put b w1 w2)(q:Put b w2 w3):Put b w1 w3 :=
 ⟨q.os.trans p.os,q.tape.trans p.tape,q.output.trans p.output,q.size.trans p.size,fun c a=>(q.blk c a).trans (p.blk c a)⟩
theorem Put.set (w:World)(p:Addr)(v:Value):Put p.block w (w.setCell p v) :=
 ⟨rfl,rfl,rfl,by simp,fun c a=>Below.heap_setCell _ _ _ _ a⟩
def Own (w:World)(b:Nat)(t:TypeId)(vs:List Value):Prop:=w.heap[b]?=some (.cells vs.toArray t (0,0))
theorem Own.cell {w:World}{b:Nat}{t:TypeId}{vs:List Value}(h:Own w b t vs)(i:Nat):w.cell? ⟨b,i,none⟩=vs[i]?:=by
 unfold World.cell?;rw[show w.heap[b]?=_ from h];simp
theorem Own.frozen {w:World}{b:Nat}{t:TypeId}{vs:List Value}(h:Own w b t vs)(i:Nat):w.frozen? ⟨b,i,none⟩=false:=by
 unfold World.frozen?;rw[show w.heap[b]?=_ from h];simp
theorem Own.set {w:World}{b:Nat}{t:TypeId}{vs:List Value}(h:Own w b t vs)(i:Nat)(v:Value):Own (w.setCell ⟨b,i,none⟩ v) b t (vs.set i v):=by
 unfold Own World.setCell
 simp only[Array.getElem?_modify,if_true,show w.heap[b]?=_ from h,yr]
 simp
theorem Own.lt {w:World}{b:Nat}{t:TypeId}{vs:List Value}(h:Own w b t vs):b<w.heap.size:=by
 rcases ep b w.heap.size with hl|hl
 ·exact hl
 ·unfold Own at h;rw[ew hl] at h;cases h
theorem Own.ext {w w':World}{b:Nat}{t:TypeId}{vs:List Value}(h:Own w b t vs)(x:Ext w w'):Own w' b t vs:=(Below.block x b h.lt).trans h
def fz (vs:List Value)(o:Nat):List Value->List Value
  | []=>vs
  | c::cs=>fz (vs.set o c) (o+1) cs
def nL (b o:Nat):List Value->List (Addr × Value)
  | []=>[]
  | c::cs=>(⟨b,o,none⟩,c)::nL b (o+1) cs
theorem fO {α:Type}{P:Program}{b:Nat}{t:TypeId}:∀ (s:Sem α) (r:α) (o:Nat) (cs vs:List Value) (w:World),dU P s=some (r,nL b o cs)->Own w b t vs->o+cs.length<=vs.length ->
    ∃ w',s.run P w=.ok r w'/\Put b w w'/\Own w' b t (fz vs o cs):=by
  intro s
  induction s with
  | pure a =>
    intro r o cs vs w h d _
    simp only[dU,Option.some.injEq,Prod.mk.injEq] at h
    obtain ⟨h1,i⟩:=h;cases cs with
    | nil=>exact ⟨w,by simp[Sem.run,h1],Put.refl _ _,d⟩
    | cons c cs=>simp[nL] at i
  | store m a v k ih =>
    intro r o cs vs w h d f
    have h':∃ e,dU P k=some e/\(e.1,(a,v)::e.2)=(r,nL b o cs)/\(∀ l,v≠.agg l)/\∀ l,v≠.tuple l:=by
      cases v<;>simp only[dU,yq] at h<;>first|(obtain ⟨e,h1,i⟩:=h;exact ⟨e,h1,i,by simp,by simp⟩)|cases h
    obtain ⟨⟨e,C⟩,h1,i,B,u⟩:=h'
    injection i with e1 e2
    cases cs with
    | nil=>simp[nL] at e2
    | cons c cs =>
      simp only[nL,List.cons.injEq,Prod.mk.injEq] at e2
      obtain ⟨⟨x,ev⟩,z⟩:=e2;subst x;subst ev;subst z;subst e1
      simp only[yt] at f
      have y:w.cell? ⟨b,o,none⟩=some (vs[o]'oM):=by rw[d.cell,List.getElem?_eq_getElem]
      obtain ⟨w',hr,p,j⟩:=ih _ (o+1) cs (vs.set o v) (w.setCell ⟨b,o,none⟩ v) h1 (d.set o v) (by simp;omega);refine ⟨w',?_,(Put.set w ⟨b,o,none⟩ v).trans p,j⟩
      have:(Sem.store m ⟨b,o,none⟩ v k).run P w=k.run P (w.setCell ⟨b,o,none⟩ v):=by
        cases v<;>first|(simp only[Sem.run,y,d.frozen];rfl)|exact absurd rfl (B _)|exact absurd rfl (u _)
      rw[this];exact hr
  | program k ih=>intro r o cs vs w h d f;exact ih P r o cs vs w h d f
  | mark m k ih=>intro r o cs vs w h d f;exact ih r o cs vs w h d f
  | _=>intro r o cs vs w h _ _;simp[dU] at h
structure Bx where
  b:Nat
  t:TypeId
  vs:List Value
  deriving Inhabited
structure St (w0:World) (h0:Hp) (w:World) (h:Hp) (B:List Bx):Prop where
  up:Up w0 h0 w h
  own:∀ x∈B,Own w x.b x.t x.vs
  jk:∀ x∈B,h[x.b]?=some bc
  lo:∀ x∈B,h0.size<=x.b
  nd:(B.map (·.b)).Nodup
theorem aF {h:Hp}{b:Nat}{o:Obj}(e:h[b]?=some o):b<h.size:=by
 rcases ep b h.size with hl|hl
 ·exact hl
 ·rw[ew hl] at e;cases e
section st
variable {w0:World}{h0:Hp}{w:World}{h:Hp}{B:List Bx}
theorem St.start (g:G w h):St w h w h []:=⟨Up.refl g,fun _ a=>(by cases a),fun _ a=>(by cases a),fun _ a=>(by cases a),by simp⟩
theorem St.step (s:St w0 h0 w h B){w':World}{h':Hp}(u:Up w h w' h'):St w0 h0 w' h' B :=
 ⟨s.up.trans u,fun x a=>(s.own x a).ext u.ext,fun x a=>(u.gr.blk _ (aF (s.jk x a))).trans (s.jk x a),s.lo,s.nd⟩
theorem St.g (s:St w0 h0 w h B):G w h:=s.up.g
theorem St.sz (s:St w0 h0 w h B):h0.size<=h.size:=s.up.gr.size
theorem St.new {wr:World}{hr:Hp}{B':List Bx}{x:Al}{b:Nat}(i:St w0 h0 wr hr B')(s:St w0 h0 w h B)(hB:∀ y∈B,y.b<hr.size\/y.b≠b)(k:Blk hr w h (x,b))(t:TypeId)(vs:List Value)(f:x.o=.cells vs.toArray t (0,0)) :
  St w0 h0 w h (⟨b,t,vs⟩::B):=by
 obtain ⟨e,u,c⟩:=k;refine ⟨s.up,?_,?_,?_,?_⟩
 ·intro y a
  rcases hP.1 a with rfl|a
  ·show w.heap[b]?=_
   rw[<-f];exact e
  ·exact s.own y a
 ·intro y a
  rcases hP.1 a with rfl|a
  ·exact u
  ·exact s.jk y a
 ·intro y a
  rcases hP.1 a with rfl|a
  ·exact e6 i.sz c
  ·exact s.lo y a
 ·refine i3.2 ⟨fun l=>?_,s.nd⟩
  obtain ⟨y,a,d⟩:=g8.1 l
  rcases hB y a with hl|hl
  ·have j:y.b=b:=d
   have p:hr.size<=b:=c
   omega
  ·exact hl d
theorem St.new1 {wr:World}{hr:Hp}{x:Al}{b:Nat}(a:St w0 h0 wr hr B)(s:St w0 h0 w h B)(k:Blk hr w h (x,b))(t:TypeId)(vs:List Value)(c:x.o=.cells vs.toArray t (0,0)) :
 St w0 h0 w h (⟨b,t,vs⟩::B):=St.new a s (fun y d=>.inl (aF (a.jk y d))) k t vs c
theorem St.new2 {wr:World}{hr:Hp}{x y:Al}{b c:Nat}(f:St w0 h0 wr hr B)(s:St w0 h0 w h B)(k:Blk hr w h (x,b))(l:Blk hr w h (y,c))(e:b≠c)(t:TypeId)(vs:List Value)(j:x.o=.cells vs.toArray t (0,0))(d:TypeId)(a:List Value)(i:y.o=.cells a.toArray d (0,0)) :
  St w0 h0 w h (⟨b,t,vs⟩::⟨c,d,a⟩::B) :=
 St.new f (St.new1 f s l d a i) (fun z hz=>by
  rcases hP.1 hz with rfl|hz
  ·exact .inr (Ne.symm e)
  ·exact .inl (aF (f.jk z hz))) k t vs j
def aw (B:List Bx)(j:Nat):Bx:=B.getD j default
def gE (B:List Bx)(j o:Nat)(cs:List Value):List Bx:=B.set j { aw B j with vs:=fz (aw B j).vs o cs }
theorem br {j:Nat}(h:j<B.length):aw B j∈B:=by
 unfold aw
 have:B.getD j default=B[j]:=by simp[h]
 rw[this];exact gx h
theorem Up.put {b:Nat}{w':World}(u:Up w0 h0 w h)(p:Put b w w')(i:h[b]?=some bc)(d:h0.size<=b)(a:w0.heap.size=h0.size):Up w0 h0 w' h:=by
 refine ⟨⟨p.os.trans u.ext.os,p.tape.trans u.ext.tape,p.output.trans u.ext.output,by rw[p.size];exact u.ext.size,fun c f=>?_⟩,u.gr,⟨by rw[p.size];exact u.g.size,fun c=>?_⟩⟩
 ·rw[p.blk c oM]
  exact Below.block u.ext c f
 ·by_cases e:c=b
  ·subst e;exact .inr i
  ·rw[p.blk c e];exact u.g.blk c
theorem St.put (s:St w0 h0 w h B)(F:G w0 h0){j o:Nat}{cs:List Value}{w':World}(d:j<B.length)(p:Put (aw B j).b w w')(H:Own w' (aw B j).b (aw B j).t (fz (aw B j).vs o cs)):St w0 h0 w' h (gE B j o cs):=by
  have D:=br d
  have a:(gE B j o cs).map (·.b)=B.map (·.b):=by
    unfold gE
    rw[yu]
    apply yv
    intro i
    by_cases e:j=i
    . subst e
      rw[yw (by simpa using d)]
      simp[aw,d]
    . rw[yx e]
  refine ⟨s.up.put p (s.jk _ D) (s.lo _ D) F.size,?_,?_,?_,by rw[a];exact s.nd⟩
  . intro x f
    obtain ⟨i,hi,c⟩:=yy.1 f;have k:i<B.length:=by simpa [gE] using hi
    by_cases e:j=i
    . subst e
      have:x={ aw B j with vs:=fz (aw B j).vs o cs }:=by rw[<-c];simp[gE]
      subst this;exact H
    . have l:x=B[i]:=by rw[<-c];simp[gE,e]
      subst l
      have u:B[i].b≠(aw B j).b:=by
        intro C
        have h1:(B.map (·.b))[i]'(by simpa using k)=(B.map (·.b))[j]'(by simpa using d):=by
          simp only[yz]
          rw[C]
          simp[aw,d]
        exact e ((yA s.nd).1 h1).symm
      show w'.heap[B[i].b]?=_
      rw[p.blk _ u];exact s.own _ (gx k)
  . intro x f
    have:x.b∈(gE B j o cs).map (·.b):=g8.2 ⟨x,f,rfl⟩;rw[a] at this
    obtain ⟨y,z,c⟩:=g8.1 this;rw[<-c];exact s.jk y z
  . intro x f
    have:x.b∈(gE B j o cs).map (·.b):=g8.2 ⟨x,f,rfl⟩;rw[a] at this
    obtain ⟨y,z,c⟩:=g8.1 this;rw[<-c];exact s.lo y z
def lj (b o:Nat):Nat->List Addr
  | 0=>[]
  | n+1=>⟨b,o,none⟩::lj b (o+1) n
theorem eE (b:Nat):∀ (n o i:Nat) (a:Addr),(lj b o n)[i]?=some a->a=⟨b,o+i,none⟩
  | 0,_,_,_,h=>by simp[lj] at h
  | n+1,o,0,a,h=>by simp[lj] at h;rw[<-h];rfl
  | n+1,o,i+1,a,h=>by
    have:=eE b n (o+1) i a (by simpa [lj] using h);rw[this];congr 1;omega
def dq (B:List Bx):List (Nat × Nat × Nat)->List Value
  | []=>[]
  | p::ps=>((aw B p.1).vs.drop p.2.1).take p.2.2++dq B ps
def bS (B:List Bx):List (Nat × Nat × Nat)->List Addr
  | []=>[]
  | p::ps=>lj (aw B p.1).b p.2.1 p.2.2++bS B ps
def cB (B:List Bx)(ps:List (Nat × Nat × Nat)):Bool:=ps.all fun p=>decide (p.1<B.length) && decide (p.2.1+p.2.2<=(aw B p.1).vs.length)
theorem iQ (b o n:Nat):(lj b o n).length=n:=by
 induction n generalizing o with
 | zero=>rfl
 | succ n ih=>simp[lj,ih]
theorem dE (d:∀ x∈B,Own w x.b x.t x.vs):∀ (ps:List (Nat × Nat × Nat)),cB B ps=true->∀ (i:Nat) a v,(bS B ps)[i]?=some a->(dq B ps)[i]?=some v->w.cell? a=some v
  | [],_,i,a,v,h,_=>by simp[bS] at h
  | p :: ps,hok,i,a,v,ha,hv=>by
    unfold cB at hok
    rw[yB,ov] at hok
    obtain ⟨h1,e⟩:=hok
    simp only[ov,decide_eq_true_eq] at h1
    have c:(((aw B p.1).vs.drop p.2.1).take p.2.2).length=p.2.2:=by simp;omega
    unfold bS at ha
    unfold dq at hv
    rcases ep i p.2.2 with hl|hl
    . rw[yC (by rw[iQ];exact hl)] at ha
      rw[yC (by rw[c];exact hl)] at hv
      rw[eE _ _ _ _ _ ha,(d _ (br h1.1)).cell];rw[yD hl,yE] at hv
      exact hv
    . rw[yF (by rw[iQ];exact hl),iQ] at ha
      rw[yF (by rw[c];exact hl),c] at hv
      exact dE d ps e _ a v ha hv
theorem Own.mo {w w':World}{b:Nat}{t:TypeId}{vs:List Value}{M:List Nat}(h:Own w b t vs)(x:Mo M w w')(a:b ∉ M):Own w' b t vs:=(x.blk b h.lt a).trans h
theorem ii {M:List Nat}{d:List (Nat × Nat × Nat)}(hM:∀ p∈d,(aw B p.1).b ∉ M)(e:∀ x∈B,x.b ∉ M->Own w x.b x.t x.vs):∀ (ps:List (Nat × Nat × Nat)),(∀ p∈ps,p∈d)->cB B ps=true->∀ (i:Nat) a v,(bS B ps)[i]?=some a->(dq B ps)[i]?=some v->w.cell? a=some v
  | [],_,_,i,a,v,h,_=>by simp[bS] at h
  | p :: ps,hsub,hok,i,a,v,ha,hv=>by
    unfold cB at hok
    rw[yB,ov] at hok
    obtain ⟨h1,f⟩:=hok
    simp only[ov,decide_eq_true_eq] at h1
    have c:(((aw B p.1).vs.drop p.2.1).take p.2.2).length=p.2.2:=by simp;omega
    unfold bS at ha
    unfold dq at hv
    rcases ep i p.2.2 with hl|hl
    . rw[yC (by rw[iQ];exact hl)] at ha
      rw[yC (by rw[c];exact hl)] at hv
      rw[eE _ _ _ _ _ ha,(e _ (br h1.1) (hM p (hsub p (by simp)))).cell];rw[yD hl,yE] at hv
      exact hv
    . rw[yF (by rw[iQ];exact hl),iQ] at ha
      rw[yF (by rw[c];exact hl),c] at hv
      exact ii hM e ps (fun q j=>hsub q (by simp[j])) f _ a v ha hv
end st
section own
variable {M:Ms}{P:Program}{n:Nat}{N R:Po}{X:Nat->Po}{ops:Array Oper}{k0:Nat}{hr:Hp}{AL:List Al}{L:Array Bool}{Γ:cH}{w:World}{h:Hp}{w0:World}{h0:Hp}{B:List Bx}
theorem Rg.own (i t:Nat)(a:List (Nat × Nat × Nat))(v:Value)(s:St w0 h0 w h B)(f:(dz n ops k0 AL L i t && bx Γ (am ops i) && iT ops k0 i)=true)(j:bp ops Γ (am ops i)=some true)
  (hM:∀ p∈a,(aw B p.1).b ∉ M.l)(e:cB B a=true)(u:bW P (execOp (ev Γ) (am ops i)) (dq B a)=some (.value v,bS B a))
  (k:EG M P n N R X ops k0 hr AL (L.setIfInBounds i true) ((t,v)::Γ) w h):EG M P n N R X ops k0 hr AL L Γ w h :=
 Rg.load i t v f j (fun w' o=>bY _ _ _ _ u (ii hM (fun x d c=>(s.own x d).mo o c) a (fun _ h=>h) e)) k
theorem T.put (i j o:Nat)(cs:List Value)(s:St w0 h0 w h B)(l:G w0 h0)(p:(jm ops k0 L i && bx Γ (am ops i) && ((am ops i).dst == none))=true)(u:bp ops Γ (am ops i)=some true)
  (f:(decide (j<B.length) && decide (o+cs.length<=(aw B j).vs.length))=true)(x:dU P (execOp (ev Γ) (am ops i))=some (.skip,nL (aw B j).b o cs))
  (k:∀ w',Put (aw B j).b w w'->St w0 h0 w' h (gE B j o cs)->AG M P n N R X ops k0 (L.setIfInBounds i true) Γ w')(hz:∀ K bs,M.z=some (K,bs)->K<=(aw B j).b\/(aw B j).b∈bs:=by intro _ _ e;cases e):AG M P n N R X ops k0 L Γ w:=by
 simp only[ov,decide_eq_true_eq] at f
 obtain ⟨w',d,a,c⟩:=fO _ _ _ _ _ w x (s.own _ (br f.1)) f.2;exact T.store i w' p u d (a.tl hz) (k w' a (s.put l f.1 a c))
theorem LG.own {k:Nat}(t:Nat)(a:List (Nat × Nat × Nat))(v:Value)(s:St w0 h0 w h B)(c:(d5 ops Γ k && ((am ops k).dst == some t) && decide (t<n))=true)(d:bp ops Γ (am ops k)=some true)
  (b:cB B a=true)(e:bW P (execOp (ev Γ) (am ops k)) (dq B a)=some (.value v,bS B a))
  (H:LG P n N R X ops (k+1) ((t,v)::Γ) w):LG P n N R X ops k Γ w :=
 LG.val t v w c d (bY _ _ _ _ e (dE s.own a b)) H
theorem LG.put {k:Nat}(j o:Nat)(cs:List Value)(s:St w0 h0 w h B)(f:G w0 h0)(i:(d5 ops Γ k && ((am ops k).dst == none))=true)(l:bp ops Γ (am ops k)=some true)
  (e:(decide (j<B.length) && decide (o+cs.length<=(aw B j).vs.length))=true)(p:dU P (execOp (ev Γ) (am ops k))=some (.skip,nL (aw B j).b o cs))
  (H:∀ w',Put (aw B j).b w w'->St w0 h0 w' h (gE B j o cs)->LG P n N R X ops (k+1) Γ w'):LG P n N R X ops k Γ w:=by
 simp only[ov,decide_eq_true_eq] at e
 obtain ⟨w',d,a,c⟩:=fO _ _ _ _ _ w p (s.own _ (br e.1)) e.2;exact LG.store w' i l d (H w' a (s.put f e.1 a c))
theorem LG.var {k:Nat}(t:Nat)(ty:TypeId)(vs:List Value)(s:St w0 h0 w h B)(a:(d5 ops Γ k && ((am ops k).dst == some t) && decide (t<n))=true)(c:bp ops Γ (am ops k)=some true)
  (hr:(execOp (ev Γ) (am ops k)).run P w=.ok (.value (.pointer (some ⟨w.heap.size,0,none⟩))) (w.alloc (.cells vs.toArray ty (0,0))))
  (H:∀ b w' h',h.size<=b->Up w h w' h'->St w0 h0 w' h' (⟨b,ty,vs⟩::B)->LG P n N R X ops (k+1) ((t,.pointer (some ⟨b,0,none⟩))::Γ) w'):LG P n N R X ops k Γ w:=by
 have u:Up w h (w.alloc (.cells vs.toArray ty (0,0))) (h.push bc):=Up.allocAny s.g _ _ (.inr rfl);refine LG.val t _ _ a c hr (H _ _ _ (by rw[s.g.size];exact ey _) u (St.new1 (x:=⟨0,0,.cells vs.toArray ty (0,0)⟩) s (s.step u) ⟨?_,?_,?_⟩ ty vs rfl))
 ·rw[heap_alloc];exact gp
 ·rw[s.g.size];exact gp
 ·show h.size<=w.heap.size;rw[s.g.size];exact ey _
def nF (fn:Func)(Γ:cH):Sem Value:=do
  let vs <-fn.results.mapM fun
    | .tmp t=>Pure.pure (ev Γ (.tmp t))
    | .cell a t=>do loadVar t (<-asAddr (ev Γ (.tmp a)))
  Pure.pure (if h:vs.size=1 then vs[0] else .tuple vs)
def EI (fn:Func)(Γ:cH):Bool:=fn.results.all fun|.tmp t=>fg Γ (.tmp t)|.cell a _=>fg Γ (.tmp a)
def nB (fn:Func)(Γ:cH):Bool:=(fe Γ).isEmpty && EI fn Γ
theorem o5 {a:Func}{Γ:cH}(h:nB a Γ=true):fe Γ=[]:=by
 unfold nB at h;rw[ov] at h;exact List.isEmpty_iff.1 h.1
theorem pS {α β:Type}(l:List α)(f g:α->Sem β)(h:∀ x∈l,f x=g x):l.mapM f=l.mapM g:=by
 induction l with
 | nil=>rfl
 | cons a l ih=>rw[yG,yG,h a (by simp),ih (fun x b=>h x (by simp[b]))]
theorem jZ {b:Func}{a:Act}(c:Kn n a Γ)(hk:EI b Γ=true):results b a.tmps=nF b Γ:=by
 unfold results nF
 have e:∀ x∈b.results.toList,((match x with|.tmp t=>Pure.pure (a.tmps.getD t undef)|.cell ad t=>(do loadVar t (<-asAddr (a.tmps.getD ad undef)))):Sem Value)=((match x with|.tmp t=>Pure.pure (ev Γ (.tmp t))|.cell ad t=>(do loadVar t (<-asAddr (ev Γ (.tmp ad))))):Sem Value):=by
  intro x d;have h1:=(o3.1 hk) x (by simpa using d);cases x with
  | tmp t=>have:=c.eval h1;simp only[Act.eval] at this;simp only[this]
  | cell ad t=>have:=c.eval h1;simp only[Act.eval] at this;simp only[this]
 rw[yH,yH]
 congr 2
 exact pS _ _ _ e
theorem iH {b:Func}{a:Act}(c:Kn n a Γ)(hk:nB b Γ=true):results b a.tmps=nF b Γ :=
 jZ c (by unfold nB at hk;rw[ov] at hk;exact hk.2)
def Ret (w0:World)(h0:Hp)(Φ:Value->Hp->Prop):Ending->World->Prop:=fun e w'=>∃ v h',e=.returned v/\Up w0 h0 w' h'/\Φ v h'
theorem IF {d:Func}{Φ:Value->Hp->Prop}(s:St w0 h0 w h B)(b:List (Nat × Nat × Nat))(v:Value)(hk:(nB d Γ && cB B b)=true)(f:bW P (nF d Γ) (dq B b)=some (v,bS B b))(c:Φ v h) :
  ∀ a,Kn n a Γ->nx P d (Ret w0 h0 Φ) a w:=by
 intro a e;rw[ov] at hk
 refine ⟨e.df.trans (o5 hk.1),v,?_,v,h,rfl,s.up,c⟩;rw[iH e hk.1];exact bY _ _ _ _ f (dE s.own b hk.2)
end own
abbrev CV (f:FuncId)(a:Array Value)(w:World)(h:Hp)(x:Value):Prop:=Calls Tryz.prog f a w (Ret w h fun v _=>v=x)
abbrev CR (f:FuncId)(a:Array Value)(w:World)(h:Hp)(Φ:Value->Hp->Prop):Prop:=Calls Tryz.prog f a w (Ret w h Φ)
def dG (h:Hp)(b i:Nat):Option Value :=
  match h[b]? with
  | some (.cells c _ _)=>c[i]?
  | _=>none
structure Gw (h h':Hp):Prop where
  size:h.size<=h'.size
  blk:∀ b:Nat,b<h.size->h'[b]?=h[b]?\/h[b]?=some bc
theorem Gr.gw {h h':Hp}(u:Gr h h'):Gw h h':=⟨u.size,fun b a=>.inl (u.blk b a)⟩
theorem AE {h h':Hp}(u:Gw h h'){b i:Nat}{v:Value}(e:dG h b i=some v):dG h' b i=some v:=by
  unfold dG at *
  cases a:h[b]? with
  | none=>rw[a] at e;cases e
  | some o =>
    rcases u.blk b (aF a) with h1|h1
    . rw[h1];exact e
    . rw[h1] at e;simp[bc] at e
theorem iW {w:World}{h:Hp}(g:G w h){b i:Nat}{v:Value}(e:dG h b i=some v):w.cell? ⟨b,i,none⟩=some v:=by
 unfold dG at e
 rcases g.blk b with h1|h1
 ·unfold World.cell?
  rw[<-h1];cases a:h[b]? with
  | none=>rw[a] at e;cases e
  | some o=>rw[a] at e;cases o<;>simp at e ⊢ <;> exact e
 ·rw[h1] at e;simp[bc] at e
def Seg (h:Hp)(b o:Nat)(cs:List Value):Prop:=∀ (i:Nat) (v:Value),cs[i]?=some v->dG h b (o+i)=some v
theorem Seg.gw {h h':Hp}{b o:Nat}{cs:List Value}(s:Seg h b o cs)(u:Gw h h'):Seg h' b o cs:=fun i v hv=>AE u (s i v hv)
theorem wN {M:List Nat}{w w':World}{h:Hp}(g:G w h)(x:Mo M w w')(hM:∀ b∈M,h[b]?=some bc){b i:Nat}{v:Value}(e:dG h b i=some v):w'.cell? ⟨b,i,none⟩=some v:=by
 have f:b ∉ M:=fun j=>by
  unfold dG at e
  rw[hM b j] at e
  simp[bc] at e
 have d:=iW g e
 have c:b<w.heap.size:=by
  rcases ep b w.heap.size with c|c
  ·exact c
  ·unfold World.cell? at d;rw[ew c] at d;cases d
 rw[World.cell?_of_block (w:=w) (a:=⟨b,i,none⟩) (x.blk b c f)];exact d
theorem Seg.runM {α:Type}{M:List Nat}{P:Program}{w w':World}{h:Hp}{b o:Nat}{cs:List Value}{s:Sem α}{r:α}(sg:Seg h b o cs)(g:G w h)(hM:∀ b∈M,h[b]?=some bc)(x:Mo M w w')(d:bW P s cs=some (r,lj b o cs.length)):s.run P w'=.ok r w' :=
 bY _ _ _ _ d (fun i a v c hv=>by rw[eE _ _ _ _ _ c];exact wN g x hM (sg i v hv))
theorem Seg.run {α:Type}{P:Program}{w w':World}{h:Hp}{b o:Nat}{cs:List Value}{s:Sem α}{r:α}(sg:Seg h b o cs)(g:G w h)(x:Ext w w')(d:bW P s cs=some (r,lj b o cs.length)):s.run P w'=.ok r w' :=
 bY _ _ _ _ d (fun i a v c hv=>by rw[eE _ _ _ _ _ c];exact x.some (iW g (sg i v hv)))
theorem Seg.part {h:Hp}{b o:Nat}{cs:List Value}(s:Seg h b o cs)(j n:Nat):Seg h b (o+j) ((cs.drop j).take n):=fun i v hv=>by
 have hi:i<n:=by
  rcases ep i n with hl|hl
  ·exact hl
  ·rw[x4 (by simp;omega)] at hv;cases hv
 rw[yD hi,yE] at hv
 rw[yI];exact s (j+i) v hv
def aB (A:Z9):Nat:=match A with|some a=>a.block|none=>0
def aO (A:Z9):Nat:=match A with|some a=>a.off|none=>0
structure SlO {α:Type} (sz:Nat) (f:α->List Value) (d:α) (h:Hp) (A:Z9) (l:List α):Prop where
  ok:0<l.length->A=some ⟨aB A,aO A,none⟩
  el:∀ k,k<l.length->Seg h (aB A) (aO A+k*sz) (f (l.getD k d))
theorem SlO.gw {α:Type}{sz:Nat}{f:α->List Value}{d:α}{h h':Hp}{A:Z9}{l:List α}(s:SlO sz f d h A l)(u:Gw h h'):SlO sz f d h' A l:=⟨s.ok,fun k hk=>(s.el k hk).gw u⟩
theorem SlO.nil {α:Type}{sz:Nat}{f:α->List Value}{d:α}{h:Hp}{A:Z9}:SlO sz f d h A []:=⟨fun h=>by simp at h,fun k hk=>by simp at hk⟩
def HT {α:Type}(sz:Nat)(f:α->List Value)(d:α)(h:Hp)(v:Value)(l:List α):Prop :=
  ∃ A cap,v=.slice A l.length cap/\l.length<=cap/\SlO sz f d h A l
theorem SlO.of_flat {α:Type}{sz:Nat}{f:α->List Value}{d:α}{h:Hp}{b o:Nat}{l:List α}(hf:∀ x,(f x).length=sz)(s:Seg h b o (l.flatMap f)):SlO sz f d h (some ⟨b,o,none⟩) l:=by
  refine ⟨fun _=>rfl,?_⟩
  induction l generalizing o with
  | nil=>intro k hk;simp at hk
  | cons x l ih =>
    intro k hk;cases k with
    | zero =>
      have:=s.part 0 sz
      simp only[yJ,yK,yL] at this
      rw[yM (by rw[hf];exact ey _),<-hf x,yN] at this
      simpa [aB,aO] using this
    | succ k =>
      have a:Seg h b (o+sz) (l.flatMap f):=fun i v hv=>by
        have:=s (sz+i) v (by rw[yJ,yF (by rw[hf];omega),hf];simpa using hv)
        rwa [<-yI] at this
      have:=ih a k (by simpa using hk)
      simp only[aB,aO,yO] at this ⊢
      rw[yP,yQ (k*sz) sz,<-yI];exact this
theorem Seg.new {h:Hp}(cs:List Value)(ty:TypeId):Seg (h.push (.cells cs.toArray ty (0,0))) h.size 0 cs:=fun i v hv=>by
 unfold dG
 rw[gp]
 simpa using hv
theorem eJ {α:Type}{f:α->List Value}{sz:Nat}(hf:∀ x,(f x).length=sz)(l:List α):(l.flatMap f).length=l.length*sz:=by
 induction l with
 | nil=>simp
 | cons x l ih=>simp only[yJ,yR,ih,hf,yt,yP];omega
theorem eP {α:Type}{f:α->List Value}{sz:Nat}(hf:∀ x,(f x).length=sz)(d:α):∀ (l:List α) (k:Nat),k<l.length->((l.flatMap f).drop (k*sz)).take sz=f (l.getD k d)
  | [],k,h=>by simp at h
  | x::l,0,h=>by
    simp only[yJ,yS,yL,List.getD_cons_zero]
    rw[yM (by rw[hf];exact ey _),<-hf x,yN]
  | x::l,k+1,h=>by
    simp only[yJ,yO]
    rw[yP,List.drop_append,hf,show k*sz+sz-sz=k*sz by omega,yT (by rw[hf];omega),List.nil_append];exact eP hf d l k (by simpa using h)
theorem jB (cs:List Value):∀ (a b:List Value) (o:Nat),fz (a++b) (a.length+o) cs=a++fz b o cs:=by
  induction cs with
  | nil=>intro a b o;rfl
  | cons c cs ih =>
    intro a b o
    show fz ((a++b).set (a.length+o) c) (a.length+o+1) cs=a++fz (b.set o c) (o+1) cs
    rw[List.set_append_right _ _ oM,show a.length+o-a.length=o by omega,yI];exact ih a (b.set o c) (o+1)
theorem kG:∀ (cs a b:List Value),a.length=cs.length->fz (a++b) 0 cs=cs++b:=by
  intro cs
  induction cs with
  | nil=>intro a b h;have:a=[]:=yU (by simpa using h);subst this;rfl
  | cons c cs ih =>
    intro a b h;cases a with
    | nil=>simp at h
    | cons y a =>
      show fz (c::(a++b)) (0+1) cs=c::(cs++b)
      have:=jB cs [c] (a++b) 0
      simp only[List.length_singleton,List.singleton_append] at this
      rw[show 0+1=1+0 by omega,this,ih a b (by simpa using h)]
theorem il {α:Type}{f:α->List Value}{sz:Nat}(hf:∀ x,(f x).length=sz):∀ (l:List α) (k:Nat) (x:α),k<l.length->fz (l.flatMap f) (k*sz) (f x)=(l.set k x).flatMap f
  | [],k,x,h=>by simp at h
  | y::l,0,x,h=>by
    simp only[yJ,yS,List.set_cons_zero]
    exact kG _ _ _ (by rw[hf,hf])
  | y::l,k+1,x,h=>by
    simp only[yJ,yV]
    rw[yP,yQ,<-hf y,jB,hf y,il hf l k x (by simpa using h)]
section rows
variable {M:Ms}{P:Program}{n:Nat}{N R:Po}{X:Nat->Po}{ops:Array Oper}{k0:Nat}{hr:Hp}{AL:List Al}{L:Array Bool}{Γ:cH}{w:World}{h:Hp}
theorem LG.row {k:Nat}(t:Nat)(ty:TypeId)(m:Nat)(cs:List Value)(g:G w h)(c:(d5 ops Γ k && ((am ops k).dst == some t) && decide (t<n))=true)(d:bp ops Γ (am ops k)=some true)
  (a:(execOp (ev Γ) (am ops k)).run P w=.ok (.value (.slice (some ⟨w.heap.size,0,none⟩) m m)) (w.alloc (.cells cs.toArray ty (0,0))))
  (H:∀ b w' h',Up w h w' h'->Seg h' b 0 cs->LG P n N R X ops (k+1) ((t,.slice (some ⟨b,0,none⟩) m m)::Γ) w'):LG P n N R X ops k Γ w :=
 LG.val t _ _ c d a (H _ _ _ (Up.allocAny g _ _ (.inl rfl)) (by rw[g.size];exact Seg.new cs ty))
theorem Rg.row (i t:Nat)(ty:TypeId)(m:Nat)(cs:List Value)(c:(nS n ops k0 AL L i t && bx Γ (am ops i))=true)(d:bp ops Γ (am ops i)=some true)
  (a:∀ w,(execOp (ev Γ) (am ops i)).run P w=.ok (.value (.slice (some ⟨w.heap.size,0,none⟩) m m)) (w.alloc (.cells cs.toArray ty (0,0))))
  (H:∀ b w' h',Up w h w' h'->Seg h' b 0 cs->EG M P n N R X ops k0 hr AL (L.setIfInBounds i true) ((t,.slice (some ⟨b,0,none⟩) m m)::Γ) w' h'):EG M P n N R X ops k0 hr AL L Γ w h :=
 Rg.event i t c d (fun w' h' u=>.inl ⟨_,_,_,a w',(Up.allocAny u.g _ _ (.inl rfl)).m M.l,H _ _ _ (u.trans (Up.allocAny u.g _ _ (.inl rfl))) (by rw[u.g.size];exact Seg.new cs ty)⟩)
theorem Rg.ownA {w0:World}{h0:Hp}{B:List Bx}{α:Type}(i t j:Nat)(l:List α)(f:α->List Value)(sz:Nat)(d:α)(e:Nat)(v:Value)(s:St w0 h0 w h B)(C:(dz n ops k0 AL L i t && bx Γ (am ops i) && iT ops k0 i)=true)(z:bp ops Γ (am ops i)=some true)
  (o:(aw B j).b ∉ M.l)(y:decide (j<B.length)=true)(hB:(aw B j).vs=l.flatMap f)(hf:∀ x,(f x).length=sz)(hk:e<l.length)
  (H:bW P (execOp (ev Γ) (am ops i)) (f (l.getD e d))=some (.value v,lj (aw B j).b (0+e*sz) (f (l.getD e d)).length))
  (k:EG M P n N R X ops k0 hr AL (L.setIfInBounds i true) ((t,v)::Γ) w h):EG M P n N R X ops k0 hr AL L Γ w h :=
 Rg.load i t v C z (fun w' p=>bY _ _ _ _ H (fun q a u D c=>by
  rw[eE _ _ _ _ _ D,((s.own _ (br (oT y))).mo p o).cell,hB];rw[<-eP hf d l e hk] at c
  have F:q<sz:=by
   rcases ep q sz with hl|hl
   ·exact hl
   ·rw[x4 (by simp;omega)] at c;cases c
  rw[yD F,yE] at c
  rw[yW];exact c)) k
theorem LG.ownA {w0:World}{h0:Hp}{B:List Bx}{α:Type}{k:Nat}(t j:Nat)(l:List α)(f:α->List Value)(sz:Nat)(d:α)(e:Nat)(v:Value)(s:St w0 h0 w h B)(p:(d5 ops Γ k && ((am ops k).dst == some t) && decide (t<n))=true)(o:bp ops Γ (am ops k)=some true)
  (i:decide (j<B.length)=true)(hB:(aw B j).vs=l.flatMap f)(hf:∀ x,(f x).length=sz)(hk:e<l.length)
  (C:bW P (execOp (ev Γ) (am ops k)) (f (l.getD e d))=some (.value v,lj (aw B j).b (0+e*sz) (f (l.getD e d)).length))
  (H:LG P n N R X ops (k+1) ((t,v)::Γ) w):LG P n N R X ops k Γ w :=
 LG.val t v w p o (bY _ _ _ _ C (fun q a u y c=>by
  rw[eE _ _ _ _ _ y,(s.own _ (br (oT i))).cell,hB];rw[<-eP hf d l e hk] at c
  have z:q<sz:=by
   rcases ep q sz with hl|hl
   ·exact hl
   ·rw[x4 (by simp;omega)] at c;cases c
  rw[yD z,yE] at c
  rw[yW];exact c)) H
theorem LG.arr {w0:World}{h0:Hp}{B:List Bx}{k:Nat}(t:Nat)(ty:TypeId)(m:Nat)(vs:List Value)(s:St w0 h0 w h B)(c:(d5 ops Γ k && ((am ops k).dst == some t) && decide (t<n))=true)(d:bp ops Γ (am ops k)=some true)
  (a:(execOp (ev Γ) (am ops k)).run P w=.ok (.value (.slice (some ⟨w.heap.size,0,none⟩) m m)) (w.alloc (.cells vs.toArray ty (0,0))))
  (H:∀ b w' h',h.size<=b->Up w h w' h'->St w0 h0 w' h' (⟨b,ty,vs⟩::B)->LG P n N R X ops (k+1) ((t,.slice (some ⟨b,0,none⟩) m m)::Γ) w'):LG P n N R X ops k Γ w:=by
 have u:Up w h (w.alloc (.cells vs.toArray ty (0,0))) (h.push bc):=Up.allocAny s.g _ _ (.inr rfl);refine LG.val t _ _ c d a (H _ _ _ (by rw[s.g.size];exact ey _) u (St.new1 (x:=⟨0,0,.cells vs.toArray ty (0,0)⟩) s (s.step u) ⟨?_,?_,?_⟩ ty vs rfl))
 ·rw[heap_alloc];exact gp
 ·rw[s.g.size];exact gp
 ·show h.size<=w.heap.size;rw[s.g.size];exact ey _
def gL (B:List Bx)(j:Nat)(vs:List Value):List Bx:=B.set j { aw B j with vs:=vs }
theorem LG.putA {w0:World}{h0:Hp}{B:List Bx}{α:Type}{k:Nat}(j:Nat)(l:List α)(f:α->List Value)(sz e:Nat)(x:α)(s:St w0 h0 w h B)(u:G w0 h0)(C:(d5 ops Γ k && ((am ops k).dst == none))=true)(z:bp ops Γ (am ops k)=some true)
  (y:decide (j<B.length)=true)(hB:(aw B j).vs=l.flatMap f)(hf:∀ x,(f x).length=sz)(hk:e<l.length)
  (D:dU P (execOp (ev Γ) (am ops k))=some (.skip,nL (aw B j).b (0+e*sz) (f x)))
  (H:∀ w',Put (aw B j).b w w'->St w0 h0 w' h (gL B j ((l.set e x).flatMap f))->LG P n N R X ops (k+1) Γ w'):LG P n N R X ops k Γ w:=by
 have d:=oT y
 have p:(0+e*sz)+(f x).length<=(aw B j).vs.length:=by
  rw[hB,eJ hf,hf,yW,<-yP];exact yX _ hk
 obtain ⟨w',o,a,i⟩:=fO _ _ _ _ _ w D (s.own _ (br d)) p;have c:=s.put u d a i;refine LG.store w' C z o (H w' a ?_)
 unfold gE at c
 rw[hB,yW,il hf l e x hk] at c
 exact c
theorem T.putA {w0:World}{h0:Hp}{B:List Bx}{α:Type}(i j:Nat)(l:List α)(f:α->List Value)(sz e:Nat)(x:α)(s:St w0 h0 w h B)(u:G w0 h0)(F:(jm ops k0 L i && bx Γ (am ops i) && ((am ops i).dst == none))=true)(C:bp ops Γ (am ops i)=some true)
  (y:decide (j<B.length)=true)(hB:(aw B j).vs=l.flatMap f)(hf:∀ x,(f x).length=sz)(hk:e<l.length)
  (D:dU P (execOp (ev Γ) (am ops i))=some (.skip,nL (aw B j).b (0+e*sz) (f x)))
  (H:∀ w',Put (aw B j).b w w'->St w0 h0 w' h (gL B j ((l.set e x).flatMap f))->AG M P n N R X ops k0 (L.setIfInBounds i true) Γ w')(hz:∀ K bs,M.z=some (K,bs)->K<=(aw B j).b\/(aw B j).b∈bs:=by intro _ _ e;cases e):AG M P n N R X ops k0 L Γ w:=by
 have d:=oT y
 have p:(0+e*sz)+(f x).length<=(aw B j).vs.length:=by
  rw[hB,eJ hf,hf,yW,<-yP];exact yX _ hk
 obtain ⟨w',o,a,k⟩:=fO _ _ _ _ _ w D (s.own _ (br d)) p;have c:=s.put u d a k;refine T.store i w' F C o (a.tl hz) (H w' a ?_)
 unfold gE at c
 rw[hB,yW,il hf l e x hk] at c
 exact c
end rows
theorem nJ {a b:Int}(h:a=b):(a == b)=true:=by simpa using h
theorem fl {a b:Int}(h:a≠b):(a == b)=false:=by simpa using h
theorem Gl {a b:Int}(h:a≠b):(a != b)=true:=by simpa using h
theorem xN {a b:Int}(h:a=b):(a != b)=false:=by simpa using h
theorem St.drop {w0:World}{h0:Hp}{w:World}{h:Hp}{B:List Bx}(s:St w0 h0 w h B)(k:Nat):St w0 h0 w h (B.drop k) :=
 ⟨s.up,fun x a=>s.own x (yY a),fun x a=>s.jk x (yY a),fun x a=>s.lo x (yY a),s.nd.sublist ((yZ k B).map (·.b))⟩
theorem aJ {a b:Int}(h:(a != b)=false):a=b:=by simpa using h
theorem aU {a b:Int}(h:(a != b)=true):a≠b:=by simpa using h
theorem ah {a b:Int}(h:(a == b)=false):a≠b:=by simpa using h
theorem qt {α:Type}{f:α->List Value}{b:α}{sz:Nat}(hf:(f b).length=sz)(a:0<sz):∀ (m i:Nat),i<m*sz->((y2 m b).flatMap f)[i]?=(f b)[i%sz]?
  | 0,i,h=>by simp at h
  | m + 1,i,h=>by
    rw[y3,yJ]
    rcases ep i sz with hl|hl
    . rw[yC oM,y4 hl]
    . rw[yF oM,hf,qt hf a m (i-sz) (by rw[yP] at h;omega)]
      congr 1
      rw[Nat.mod_eq_sub_mod hl]
theorem uK {α:Type}{f:α->List Value}{c:α}{z:Value}{sz m:Nat}(d:z.cells.toList=f c)(b:z.cells.size=sz)(a:0<sz):madeCells z.cells (m*sz)=((y2 m c).flatMap f).toArray:=by
 have hf:(f c).length=sz:=by rw[<-d];simpa using b
 apply Array.ext_getElem?
 intro i;rw[show ((y2 m c).flatMap f).toArray[i]?=((y2 m c).flatMap f)[i]? from by simp]
 rcases ep i (m*sz) with hl|hl
 ·rw[qt hf a m i hl,<-d]
  have e:i%sz<z.cells.size:=by rw[b];exact y5 _ a
  simp only[madeCells,Array.getElem?_map,Array.getElem?_range,hl,if_true,yr,b,Array.getElem?_toList]
  rw[gg e,getElem!_pos z.cells (i%sz) e]
 ·rw[ew (by rw[size_madeCells];exact hl),x4]
  have:∀ m,((y2 m c).flatMap f).length=m*sz:=by
   intro m
   induction m with
   | zero=>simp
   | succ m ih=>rw[y3,yJ,yR,ih,hf,yP];omega
  rw[this];exact hl
section ops
variable {P:Program}{Γ:cH}{o:Oper}
theorem F6 {t e:TypeId}{x ix:Operand}{A:Z9}{len c sz:Nat}{i:Int}(k:Nat)(j:o.op=.indexAddr t x ix)(y:ev Γ x=.slice A len c)(hi:ev Γ ix=.int .i64 i)
    (f:P.underlying t=some (.slice e))(d:(P.info? e).map (·.size)=some sz)(p:A=some ⟨aB A,aO A,none⟩)(hk:i=k)(l:k<len)(w:World) :
    (execOp (ev Γ) o).run P w=.ok (.value (.pointer (some ⟨aB A,aO A+k*sz,none⟩))) w:=by
  subst hk
  unfold execOp
  simp only[j]
  rw[y,hi];have b:P.elem t=e:=by unfold Program.elem;rw[f]
  have h1:=run_indexAt_slice (P:=P) w t ⟨aB A,aO A,none⟩ len c .i64 (k:Int) (by rw[b];exact f);rw[if_pos ⟨by omega,by omega⟩,b] at h1
  have h:(sizeOf e).run P w=.ok sz w:=by
    cases a:P.info? e with
    | none=>rw[a] at d;cases d
    | some i =>
      rw[a] at d
      simp at d
      simp[sizeOf,typeInfo,a,d]
  rw[h] at h1
  have u:((⟨aB A,aO A,none⟩:Addr).add ((k:Int).toNat*sz))=⟨aB A,aO A+k*sz,none⟩:=by
    unfold Addr.add
    simp only[y6]
    split
    . rename_i h0;rw[h0];rfl
    . rfl
  simp only[Result.andThen] at h1
  rw[u] at h1
  rw[<-p] at h1
  rw[Sem.run_bind,h1]
  rfl
theorem IJ {t e:TypeId}{x y:Operand}{z:Value}{m sz c:Nat}{α:Type}{f:α->List Value}{j:α}(l:o.op=.makeSlice t x y)(F:ev Γ x=.int .i64 (m:Int))(u:ev Γ y=.int .i64 (m:Int))
    (C:P.underlying t=some (.slice e))(hi:(P.info? e).map (fun i=>(i.zero,i.size,i.bytes))=some (some z,sz,c))(d:z.cells.toList=f j)(h:z.cells.size=sz)(b:0<sz)(H:c*m<=140737488355328)(B:m<9223372036854775808)(w:World) :
    (execOp (ev Γ) o).run P w=.ok (.value (.slice (some ⟨w.heap.size,0,none⟩) m m)) (w.alloc (.cells ((y2 m j).flatMap f).toArray e (0,0))):=by
  cases a:P.info? e with
  | none=>rw[a] at hi;cases hi
  | some inf =>
    rw[a] at hi
    simp only[yr,Option.some.injEq,Prod.mk.injEq] at hi
    obtain ⟨h1,k,D⟩:=hi
    unfold execOp
    simp only[l]
    have p:(inf.bytes:Int)*(m:Int)<=281474976710656:=by
      rw[D];have:((c*m:Nat):Int)<=281474976710656:=by omega
      simpa using this
    rw[F,u,Sem.run_bind,run_make (P:=P) w t e inf z C a h1 .i64 .i64 (m:Int) (m:Int) oM oM p oM]
    simp only[Result.andThen,y6,k]
    rw[uK d h b]
    rfl
theorem Ia {t e:TypeId}{x hi:Operand}{A:Z9}{len b:Nat}{i:Int}(k:Nat)(j:o.op=.slice t x none (some hi) none)(u:ev Γ x=.slice A len b)(h:ev Γ hi=.int .i64 i)
  (p:P.underlying t=some (.slice e))(l:(P.info? e).isSome=true)(hk:i=k)(d:k<=b)(w:World) :
  (execOp (ev Γ) o).run P w=.ok (.value (.slice A k b)) w:=by
 subst hk;obtain ⟨f,c⟩:=o0.1 l
 unfold execOp
 simp only[j,y7,yr]
 rw[u,h];have e0:∀ a:Addr,a.add 0=a:=fun a=>by unfold Addr.add;simp
 have e1:A.map (fun a=>a.add (0*f.size))=A:=by cases A<;>simp[e0]
 simp[Instr.sliceAt,Instr.slice,Instr.sliceBounds,Instr.sliceBound,run_underlying p,asIntOf,sizeOf,typeInfo,c,Result.andThen,d]
 intro _;cases A<;>simp[e0]
theorem FN {t e:TypeId}{x c:Operand}{A:Z9}{len b sz:Nat}{i:Int}(k:Nat)(j:o.op=.slice t x (some c) none none)(p:ev Γ x=.slice A len b)(h:ev Γ c=.int .i64 i)
    (l:P.underlying t=some (.slice e))(d:(P.info? e).map (·.size)=some sz)(hk:i=k)(f:k<=len)(w:World) :
    (execOp (ev Γ) o).run P w=.ok (.value (.slice (if b=k then A else A.map (·.add (k*sz))) (len-k) (b-k))) w:=by
  subst hk;cases a:P.info? e with
  | none=>rw[a] at d;cases d
  | some inf =>
    rw[a] at d
    simp at d
    unfold execOp
    simp only[j,y7,yr]
    rw[p,h]
    simp[Instr.sliceAt,Instr.slice,Instr.sliceBounds,Instr.sliceBound,run_underlying l,asIntOf,sizeOf,typeInfo,a,Result.andThen,f,d]
end ops
def cj (z:Int):List Value:=[.int .i64 z]
abbrev Si (A:Z9)(l:List Int):Hp->Prop:=fun h_=>SlO 1 cj 0 h_ A l
structure Gro (h0:Hp) (B:List Nat) (w:World) (h:Hp) (ty:TypeId) (sz:Nat) (v:Value) (n:Nat) (cs:List Value):Prop where
  own:w.ownsRow h0.size ty sz v n cs
  jk:∀ b,v.ownBlock=some b->h[b]?=some bc
  ap:∀ b,v.ownBlock=some b->b ∉ B
section gro
variable {h0:Hp}{B:List Nat}{w:World}{h:Hp}{ty:TypeId}{sz:Nat}{v:Value}{n:Nat}{cs:List Value}
theorem Gro.nil:Gro h0 B w h ty sz (.slice none 0 0) 0 []:=⟨World.ownsRow_nil _ _ _ _,fun b a=>by simp[Value.ownBlock] at a,fun b a=>by simp[Value.ownBlock] at a⟩
theorem eT {base:Nat}(o:w.ownsRow base ty sz v n cs){w':World}(a:∀ b,v.ownBlock=some b->w'.heap[b]?=w.heap[b]?):w'.ownsRow base ty sz v n cs:=by
 rcases o with ⟨h1,h2|⟨g,cap,cur,hv,hb',hg,hn,hm,hs,ht⟩⟩
 ·exact ⟨h1,.inl h2⟩
 ·exact ⟨h1,.inr ⟨g,cap,cur,hv,hb',(a g (by rw[hv];rfl)).trans hg,hn,hm,hs,ht⟩⟩
theorem Gro.lt (r:Gro h0 B w h ty sz v n cs){b:Nat}(a:v.ownBlock=some b):b<h.size:=aF (r.jk b a)
theorem kw {base:Nat}(o:w.ownsRow base ty sz v n cs){b:Nat}(a:v.ownBlock=some b):b<w.heap.size:=by
 rcases o with ⟨_,⟨rfl,_⟩|⟨g,cap,cur,rfl,_,hg,_⟩⟩
 ·simp[Value.ownBlock] at a
 ·simp[Value.ownBlock] at a
  subst a
  rcases ep g w.heap.size with hl|hl
  ·exact hl
  ·rw[ew hl] at hg;cases hg
theorem Gro.up (r:Gro h0 B w h ty sz v n cs){w':World}{h':Hp}(u:Up w h w' h'):Gro h0 B w' h' ty sz v n cs :=
 ⟨eT r.own (fun b a=>Below.block u.ext b (kw r.own a)),fun b a=>(u.gr.blk b (r.lt a)).trans (r.jk b a),r.ap⟩
theorem Gro.put (r:Gro h0 B w h ty sz v n cs){w':World}{b:Nat}(p:Put b w w')(d:b∈B):Gro h0 B w' h ty sz v n cs :=
 ⟨eT r.own (fun c a=>p.blk c (fun e=>r.ap c a (e▸d))),r.jk,r.ap⟩
theorem Gro.new (r:Gro h0 B w h ty sz v n cs)(b:Nat)(f:∀ c,v.ownBlock=some c->c≠b):Gro h0 (b::B) w h ty sz v n cs :=
 ⟨r.own,r.jk,fun c a d=>by
  rcases hP.1 d with e|e
  ·exact f c a e
  ·exact r.ap c a e⟩
theorem Gro.sub (r:Gro h0 B w h ty sz v n cs)(B':List Nat)(a:∀ b∈B',b∈B):Gro h0 B' w h ty sz v n cs:=⟨r.own,r.jk,fun b d c=>r.ap b d (a b c)⟩
theorem Gro.out (r:Gro h0 B w h ty sz v n cs){h':Hp}{b:Nat}(f:b∈B)(d:∀ c,c≠b->h'[c]?=h[c]?):Gro h0 B w h' ty sz v n cs :=
 ⟨r.own,fun c a=>(d c (fun e=>r.ap c a (e▸f))).trans (r.jk c a),r.ap⟩
theorem Gro.app (r:Gro h0 B w h ty sz v n cs){w':World}{h':Hp}{row:Option Nat}(d:w.grownBy w' row)(f:Gr h h')(c:∀ b,v.ownBlock=some b->row≠some b):Gro h0 B w' h' ty sz v n cs :=
 ⟨eT r.own (fun b a=>d.block b (kw r.own a) (fun e=>c b a e.symm)),fun b a=>(f.blk b (r.lt a)).trans (r.jk b a),r.ap⟩
theorem wT {w0:World}{B':List Bx}{w':World}(s:St w0 h0 w h B')(l:G w0 h0)(r:Gro h0 (B'.map (·.b)) w h ty sz v n cs)(c:w.grownBy w' v.ownBlock):∃ h',Gr h h'/\St w0 h0 w' h' B'/\∀ b,h.size<=b->b<w'.heap.size->h'[b]?=some bc:=by
  have j:∀ b,v.ownBlock=some b->h0.size<=b:=by
    intro b a
    rcases r.own with ⟨_,⟨rfl,_⟩|⟨g,cap,cur,rfl,hbb,_⟩⟩
    . simp[Value.ownBlock] at a
    . simp[Value.ownBlock] at a;omega
  have k:=s.g.size;have i:=c.size;have d:Gr h (h++Array.replicate (w'.heap.size-h.size) bc):=⟨by simp,fun b a=>yh a⟩;refine ⟨h++Array.replicate (w'.heap.size-h.size) bc,d,⟨⟨⟨c.os.trans s.up.ext.os,c.tape.trans s.up.ext.tape,c.output.trans s.up.ext.output,e6 s.up.ext.size i,fun b a=>?_⟩,s.up.gr.trans d,⟨by simp;omega,fun b=>?_⟩⟩,?_,?_,s.lo,s.nd⟩,?_⟩
  . rw[c.block b (e7 a s.up.ext.size) (fun e=>by have:=j b e.symm;rw[l.size] at a;omega)]
    exact Below.block s.up.ext b a
  . rcases ep b h.size with a|a
    . rw[yh a]
      by_cases e:v.ownBlock=some b
      . exact .inr (r.jk b e)
      . rw[c.block b oM (fun o=>e o.symm)];exact s.g.blk b
    . by_cases hl:b<w'.heap.size
      . right
        rw[y8 a,y9,if_pos oM]
      . left
        rw[ew (by simp;omega),ew oM]
  . intro x f
    show w'.heap[x.b]?=_
    rw[c.block x.b (s.own x f).lt (fun e=>r.ap x.b e.symm (g8.2 ⟨x,f,rfl⟩))];exact s.own x f
  . intro x f
    rw[d.blk _ (aF (s.jk x f))];exact s.jk x f
  . intro b h1 p
    rw[y8 h1,y9,if_pos oM]
def Apart (v u:Value):Prop:=∀ b,v.ownBlock=some b->u.ownBlock≠some b
theorem Apart.symm {v u:Value}(h:Apart v u):Apart u v:=fun b a hv=>h b hv a
theorem Apart.grown {v v' u:Value}(h:Apart v u)(d:v'.ownBlock=v.ownBlock\/v'.ownBlock=some w.heap.size)(c:∀ b,u.ownBlock=some b->b<w.heap.size):Apart v' u:=fun b hv a=>by
 rcases d with e|e
 ·exact h b (e▸hv) a
 ·rw[e] at hv
  injection hv with hv
  have:=c b a
  omega
theorem Apart.nil {u:Value}:Apart (.slice none 0 0) u:=fun b a=>by simp[Value.ownBlock] at a
end gro
section app
variable {P:Program}{n:Nat}{N R:Po}{X:Nat->Po}{ops:Array Oper}{k0:Nat}{hr:Hp}{AL:List Al}{L:Array Bool}{Γ:cH}{w:World}{h:Hp}{w0:World}{h0:Hp}{B:List Bx}
theorem tM {o:Oper}{x y:Operand}{t e:TypeId}{z:Value}{sz p m m2 c:Nat}{v:Value}{cs news:List Value}{a:Addr}(I:o.op=.call { callee:=.builtin .append,args:=#[x,y],argTypes:=#[t,t] })
    (S:ev Γ x=v)(K:ev Γ y=.slice (some a) m2 c)(O:P.underlying t=some (.slice e))(hi:(P.info? e).map (fun i=>(i.zero,i.size,i.bytes))=some (some z,sz,p))(C:z.cells.size=sz)(k:0<sz)
    (s:St w0 h0 w h B)(r:Gro h0 (B.map (·.b)) w h e sz v m cs)(F:news.length=m2*sz)(f:∀ j u,news[j]?=some u->w.cell? (a.add j)=some u)(h1:∀ u∈news,u.oneCell'=true)
    (V:m+m2<=1099511627776)(J:(m+m2)*p<=140737488355328) :
    ∃ v' w',(execOp (ev Γ) o).run P w=.ok (.value v') w'/\w'.ownsRow h0.size e sz v' (m+m2) (cs++news)/\w.grownBy w' v.ownBlock/\(v'.ownBlock=v.ownBlock\/v'.ownBlock=some w.heap.size):=by
  cases d:P.info? e with
  | none=>rw[d] at hi;cases hi
  | some inf =>
    rw[d] at hi
    simp only[yr,Option.some.injEq,Prod.mk.injEq] at hi
    obtain ⟨i1,L,M⟩:=hi;obtain ⟨v',w',l,H,Q,U,D⟩:=run_append_own_at (P:=P) w h0.size t o.type e inf z sz p O d i1 L M C k v m cs r.own a m2 c news F f h1 (by unfold maxLen;omega) J (by rw[s.g.size];exact s.sz);refine ⟨v',w',?_,H,Q,D⟩
    unfold execOp
    simp only[I,resolve,invoke,builtin,Sem.run_bind,Sem.run_pure,Result.andThen_ok,List.map_toArray,zh,List.map_nil,S,K,l]
theorem Gro.grown {ty:TypeId}{sz m m2:Nat}{v v':Value}{cs news:List Value}{w':World}{h':Hp}(s:St w0 h0 w h B)(r:Gro h0 (B.map (·.b)) w h ty sz v m cs)(f:w'.ownsRow h0.size ty sz v' (m+m2) (cs++news))(d:v'.ownBlock=v.ownBlock\/v'.ownBlock=some w.heap.size)(l:Gr h h')(i:∀ b,h.size<=b->b<w'.heap.size->h'[b]?=some bc) :
  Gro h0 (B.map (·.b)) w' h' ty sz v' (m+m2) (cs++news):=by
 have c:∀ b,v'.ownBlock=some b->b<w'.heap.size:=by
  intro b a
  rcases f with ⟨_,⟨rfl,_⟩|⟨g,cap,cur,rfl,_,hg,_⟩⟩
  ·simp[Value.ownBlock] at a
  ·simp[Value.ownBlock] at a
   subst a
   rcases ep g w'.heap.size with hl|hl
   ·exact hl
   ·rw[ew hl] at hg;cases hg
 refine ⟨f,fun b a=>?_,fun b a=>?_⟩
 ·rcases d with e|e
  ·rw[e] at a;rw[l.blk b (r.lt a)];exact r.jk b a
  ·have:b=w.heap.size:=by rw[e] at a;injection a with a;exact a.symm
   exact i b (by rw[this,s.g.size];exact ey _) (c b a)
 ·rcases d with e|e
  ·rw[e] at a;exact r.ap b a
  ·have:b=w.heap.size:=by rw[e] at a;injection a with a;exact a.symm
   intro k;obtain ⟨x,o,p⟩:=g8.1 k;have:=(s.own x o).lt;have j:x.b=b:=p
   omega
theorem mI {b:Nat}{news:List Value}(g:G w h)(sg:Seg h b 0 news):∀ j u,news[j]?=some u->w.cell? ((⟨b,0,none⟩:Addr).add j)=some u:=by
 intro j u a;have:=iW g (sg j u a)
 unfold Addr.add
 split
 ·rename_i h0;subst h0;exact this
 ·exact this
end app
theorem UpM.put {M:List Nat}{w0 w w':World}{h0 h:Hp}{b:Nat}(u:UpM M w0 h0 w h)(p:Put b w w')(f:b∈M)(g:G w' h):UpM M w0 h0 w' h :=
 ⟨⟨p.os.trans u.mo.os,p.tape.trans u.mo.tape,p.output.trans u.mo.output,by rw[p.size];exact u.mo.size,fun c d a=>(p.blk c (fun e=>a (e▸f))).trans (u.mo.blk c d a)⟩,u.gr,g⟩
theorem St.at_ {w:World}{h:Hp}{rb:Nat}{t:TypeId}{vs:List Value}(g:G w h)(o:Own w rb t vs)(j:h[rb]?=some bc):∃ w0 h0,G w0 h0/\St w0 h0 w h [⟨rb,t,vs⟩]:=by
 have e:=aF j;have f:=g.size;refine ⟨{ w with heap:=w.heap.extract 0 rb },h.extract 0 rb,⟨by simp;omega,fun b=>?_⟩,⟨⟨⟨rfl,rfl,rfl,by simp;omega,fun b c=>?_⟩,⟨by simp;omega,fun b c=>?_⟩,g⟩,?_,?_,?_,by simp⟩⟩
 ·show (h.extract 0 rb)[b]?=(w.heap.extract 0 rb)[b]?\/_
  rw[zy,zy]
  by_cases c:b<rb
  ·rw[if_pos oM,if_pos oM];simpa using g.blk b
  ·rw[if_neg oM,if_neg oM];exact .inl rfl
 ·have d:b<rb:=by have:b<(w.heap.extract 0 rb).size:=c;simp at this;omega
  show w.heap[b]?=(w.heap.extract 0 rb)[b]?
  rw[zy,if_pos oM];simp
 ·have d:b<rb:=by simp at c;omega
  rw[zy,if_pos oM];simp
 ·intro x a;rw[vl] at a;subst a;exact o
 ·intro x a;rw[vl] at a;subst a;exact j
 ·intro x a;rw[vl] at a;subst a;simp;omega
def iw (rb:Nat)(w0:World)(h0:Hp)(Φ:Value->World->Hp->Prop):Ending->World->Prop:=fun e w'=>∃ v h',e=.returned v/\UpM [rb] w0 h0 w' h'/\Φ v w' h'
section
variable {P:Program}{n:Nat}{Γ:cH}{w:World}{h:Hp}{w0 wz:World}{h0 hz:Hp}{B:List Bx}
theorem retM {d:Func}{rb:Nat}{Φ:Value->World->Hp->Prop}(s:St wz hz w h B)(f:UpM [rb] w0 h0 w h)(b:List (Nat × Nat × Nat))(v:Value)(hk:(nB d Γ && cB B b)=true)(i:bW P (nF d Γ) (dq B b)=some (v,bS B b))(c:Φ v w h) :
  ∀ a,Kn n a Γ->nx P d (iw rb w0 h0 Φ) a w:=by
 intro a e;rw[ov] at hk
 refine ⟨e.df.trans (o5 hk.1),v,?_,v,h,rfl,f,c⟩;rw[iH e hk.1];exact bY _ _ _ _ i (dE s.own b hk.2)
theorem St.stepM (s:St w0 h0 w h B)(K:G w0 h0){j:Nat}{vs:List Value}{w':World}{h':Hp}(o:j<B.length)(u:UpM [(aw B j).b] w h w' h')(L:Own w' (aw B j).b (aw B j).t vs):St w0 h0 w' h' (gL B j vs):=by
  have p:=br o;have M:=s.lo _ p
  have l:(gL B j vs).map (·.b)=B.map (·.b):=by
    unfold gL
    rw[yu]
    apply yv
    intro i
    by_cases e:j=i
    . subst e
      rw[yw (by simpa using o)]
      simp[aw,o]
    . rw[yx e]
  have H:Up w0 h0 w' h':=by
    refine ⟨⟨u.mo.os.trans s.up.ext.os,u.mo.tape.trans s.up.ext.tape,u.mo.output.trans s.up.ext.output,e6 s.up.ext.size u.mo.size,fun c F=>?_⟩,s.up.gr.trans u.gr,u.g⟩;rw[u.mo.blk c (e7 F s.up.ext.size) (fun p=>by rw[vl] at p;rw[K.size] at F;omega)];exact Below.block s.up.ext c F
  have a:∀ x∈gL B j vs,∃ y∈B,y.b=x.b:=by
    intro x f;have:x.b∈(gL B j vs).map (·.b):=g8.2 ⟨x,f,rfl⟩;rw[l] at this
    obtain ⟨y,k,d⟩:=g8.1 this;exact ⟨y,k,d⟩
  refine ⟨H,?_,?_,?_,by rw[l];exact s.nd⟩
  . intro x f
    obtain ⟨i,hi,d⟩:=yy.1 f;have z:i<B.length:=by simpa [gL] using hi
    by_cases e:j=i
    . subst e
      have:x={ aw B j with vs:=vs }:=by rw[<-d];simp[gL]
      subst this;exact L
    . have C:x=B[i]:=by rw[<-d];simp[gL,e]
      subst C
      have D:B[i].b≠(aw B j).b:=by
        intro I
        have h1:(B.map (·.b))[i]'(by simpa using z)=(B.map (·.b))[j]'(by simpa using o):=by
          simp only[yz]
          rw[I]
          simp[aw,o]
        exact e ((yA s.nd).1 h1).symm
      have J:=s.own _ (gx z)
      show w'.heap[B[i].b]?=_
      rw[u.mo.blk _ J.lt (fun p=>D (vl.1 p))];exact J
  . intro x f
    obtain ⟨y,k,d⟩:=a x f;rw[<-d,u.gr.blk _ (aF (s.jk y k))];exact s.jk y k
  . intro x f
    obtain ⟨y,k,d⟩:=a x f;rw[<-d];exact s.lo y k
theorem Gro.upM {f:Hp}{d:List Nat}{ty:TypeId}{sz:Nat}{v:Value}{m:Nat}{cs:List Value}(r:Gro f d w h ty sz v m cs){w':World}{h':Hp}{b:Nat}(u:UpM [b] w h w' h')(i:b∈d):Gro f d w' h' ty sz v m cs :=
 ⟨eT r.own (fun c a=>u.mo.blk c (kw r.own a) (fun e=>by rw[vl] at e;exact r.ap c a (e▸i))),fun c a=>(u.gr.blk c (r.lt a)).trans (r.jk c a),r.ap⟩
theorem bJ (s:St w0 h0 w h B){i j:Nat}(hi:decide (i<B.length)=true)(f:decide (j<B.length)=true)(d:(i == j)=false):(aw B i).b≠(aw B j).b:=by
 have c:=oT hi;have a:=oT f;intro e
 have h1:(B.map (·.b))[i]'(by simpa using c)=(B.map (·.b))[j]'(by simpa using a):=by
  simp only[yz]
  simpa [aw,c,a] using e
 have:=(yA s.nd).1 h1;subst this
 simp at d
end
section pub
variable {h0:Hp}{B:List Nat}{w:World}{h:Hp}{ty:TypeId}{sz:Nat}{v:Value}{n:Nat}{cs:List Value}
theorem Gro.pub3 {w0:World}{B':List Bx}{A:Z9}{j a:Nat}(s:St w0 h0 w h B')(r:Gro h0 (B'.map (·.b)) w h ty sz (.slice A j a) n cs):∃ h',St w0 h0 w h' B'/\Gw h h'/\(∀ c,(Value.slice A j a).ownBlock≠some c->h'[c]?=h[c]?)/\j=n/\n<=a/\(0<n->A=some ⟨aB A,0,none⟩/\aO A=0)/\Seg h' (aB A) 0 cs:=by
  rcases r.own with ⟨h1,⟨e,rfl⟩|⟨b,cap',cur,e,hbb,hg,hn,hm,hs,ht⟩⟩
  . injection e with e1 e2 e3
    subst e1 e2 e3;have:cs=[]:=yU (by simpa using h1);subst this;exact ⟨h,s,⟨ey _,fun _ _=>.inl rfl⟩,fun _ _=>rfl,rfl,ey _,fun h=>by omega,fun i v hv=>by simp at hv⟩
  . injection e with e1 e2 e3
    subst e1 e2 e3;have d:=r.jk b rfl;have f:=aF d;have p:∀ x∈B',x.b≠b:=fun x o e=>r.ap b rfl (g8.2 ⟨x,o,e⟩)
    refine ⟨h.setIfInBounds b (.cells cur ty),⟨⟨s.up.ext,⟨by simp;exact s.up.gr.size,fun c l=>?_⟩,⟨by simp;exact s.up.g.size,fun c=>?_⟩⟩,s.own,?_,s.lo,s.nd⟩,⟨by simp,fun c l=>?_⟩,fun c l=>?_,rfl,hn,fun _=>⟨rfl,rfl⟩,?_⟩
    . rw[oi oM];exact s.up.gr.blk c l
    . by_cases e:b=c
      . subst e;left;rw[zF f];exact hg.symm
      . rw[oi e];exact s.up.g.blk c
    . intro x o
      rw[oi (Ne.symm (p x o))];exact s.jk x o
    . by_cases e:b=c
      . subst e;exact .inr d
      . left;rw[oi e]
    . rw[oi (fun e=>l (by rw[<-e];rfl))]
    . intro i u k
      unfold dG
      show (match (h.setIfInBounds b (.cells cur ty))[b]? with|some (.cells c _ _)=>c[0+i]?|_=>none)=some u
      rw[zF f];rw[<-ht] at k
      have hi:i<j*sz:=by
        rcases ep i (j*sz) with hl|hl
        . exact hl
        . rw[x4 (by simp;omega)] at k;cases k
      rw[yD hi] at k
      simpa using k
theorem Gro.pubo (r:Gro h0 B w h ty sz v n cs){h':Hp}{u:Value}(d:∀ c,u.ownBlock≠some c->h'[c]?=h[c]?)(e:Apart v u):Gro h0 B w h' ty sz v n cs:=⟨r.own,fun b a=>(d b (e b a)).trans (r.jk b a),r.ap⟩
theorem SlO.of_pub {α:Type}{f:α->List Value}{d:α}{l:List α}{A:Z9}(hf:∀ x,(f x).length=sz)(a:0<l.length->A=some ⟨aB A,0,none⟩/\aO A=0)(sg:Seg h (aB A) 0 (l.flatMap f)):SlO sz f d h A l:=by
 rcases zT l.length with h0'|h0'
 ·have:l=[]:=yU h0'
  subst this;exact SlO.nil
 ·obtain ⟨e1,e2⟩:=a h0'
  have:=SlO.of_flat (d:=d) hf sg;rw[<-e1] at this
  exact this
end pub
theorem St.pubX {w0:World}{h0:Hp}{w:World}{h:Hp}{B:List Bx}(s:St w0 h0 w h B)(j:Nat)(k:j<B.length):∃ h',St w0 h0 w h' (B.eraseIdx j)/\Gw h h'/\Seg h' (aw B j).b 0 (aw B j).vs/\h'[(aw B j).b]?=some (.cells (aw B j).vs.toArray (aw B j).t (0,0))/\∀ c,c≠(aw B j).b->h'[c]?=h[c]?:=by
 have y:=br k;have D:=s.own _ y;have f:=s.jk _ y;have d:=aF f
 have u:∀ x∈B.eraseIdx j,x.b≠(aw B j).b:=by
  intro x a;obtain ⟨i,hi,p⟩:=yy.1 a;rw[zY] at p
  intro l;have o:=s.nd;have e0:(aw B j)=B[j]:=by unfold aw;simp[k]
  split at p
  ·rename_i C
   have:(B.map (·.b))[i]'(by simp;omega)=(B.map (·.b))[j]'(by simpa using k):=by simp only[yz];rw[p,l,e0]
   have:=(yA o).1 this
   omega
  ·rename_i C
   have z:i+1<B.length:=by rw[zZ k] at hi;omega
   have:(B.map (·.b))[i+1]'(by simpa using z)=(B.map (·.b))[j]'(by simpa using k):=by simp only[yz];rw[p,l,e0]
   have:=(yA o).1 this
   omega
 refine ⟨h.setIfInBounds (aw B j).b (.cells (aw B j).vs.toArray (aw B j).t (0,0)),⟨⟨s.up.ext,⟨by simp;exact s.up.gr.size,fun b l=>?_⟩,⟨by simp;exact s.up.g.size,fun b=>?_⟩⟩,?_,?_,?_,?_⟩,⟨by simp,fun b l=>?_⟩,?_,zF d,fun c F=>oi (Ne.symm F)⟩
 ·have:=s.lo _ y
  rw[oi oM];exact s.up.gr.blk b l
 ·by_cases e:(aw B j).b=b
  ·subst e
   left
   rw[zF d];exact D.symm
  ·rw[oi e];exact s.up.g.blk b
 ·exact fun x a=>s.own x (z6 a)
 ·intro x a
  rw[oi (Ne.symm (u x a))];exact s.jk x (z6 a)
 ·exact fun x a=>s.lo x (z6 a)
 ·exact s.nd.sublist ((z7 B j).map (·.b))
 ·by_cases e:(aw B j).b=b
  ·subst e;exact .inr f
  ·left;rw[oi e]
 ·intro i v hv
  unfold dG
  rw[zF d]
  simpa using hv
structure Rw where
  ty:TypeId
  sz:Nat
  A:Z9
  c:Nat
  n:Nat
  cs:List Value
  deriving Inhabited
def Rw.v (r:Rw):Value:=.slice r.A r.n r.c
def AllF:List (Hp->Prop)->Hp->Prop
  | [],_=>True
  | p::l,h=>p h/\AllF l h
theorem AllF.q {a b c d:Hp->Prop}{F:List (Hp->Prop)}{h:Hp}(x:AllF (a::b::c::d::F) h):AllF F h:=x.2.2.2.2
theorem AllF.r {a b:Hp->Prop}{F:List (Hp->Prop)}{h:Hp}(x:AllF (a::b::F) h):AllF F h:=x.2.2
theorem AllF.gw:∀ {F:List (Hp->Prop)} {h h':Hp},(∀ p∈F,∀ h h',Gw h h'->p h->p h')->Gw h h'->AllF F h->AllF F h'
 | [],_,_,_,_,_=>trivial
 | p::_,_,_,m,u,x=>⟨m p (by simp) _ _ u x.1,AllF.gw (fun q a=>m q (by simp[a])) u x.2⟩
structure SS (w0:World) (h0:Hp) (w:World) (h:Hp) (B:List Bx) (R:List Rw) (F:List (Hp->Prop)):Prop where
  g0:G w0 h0
  st:St w0 h0 w h B
  ro:∀ r∈R,Gro h0 (B.map (·.b)) w h r.ty r.sz r.v r.n r.cs
  ap:R.Pairwise (fun r s=>Apart r.v s.v)
  mo:∀ p∈F,∀ h h',Gw h h'->p h->p h'
  f:AllF F h
section ss
variable {w0:World}{h0:Hp}{w:World}{h:Hp}{B:List Bx}{R:List Rw}{F:List (Hp->Prop)}
theorem SS.start (g:G w h):SS w h w h [] [] []:=⟨g,St.start g,fun _ a=>(by cases a),.nil,fun _ a=>(by cases a),trivial⟩
theorem SS.g (s:SS w0 h0 w h B R F):G w h:=s.st.g
theorem SS.step (s:SS w0 h0 w h B R F){w':World}{h':Hp}(u:Up w h w' h'):SS w0 h0 w' h' B R F :=
 ⟨s.g0,s.st.step u,fun r hr=>(s.ro r hr).up u,s.ap,s.mo,s.f.gw s.mo u.gr.gw⟩
theorem SS.add (s:SS w0 h0 w h B R F){K:Hp->Prop}(x:K h)(m:∀ h h',Gw h h'->K h->K h':=by intro _ _ u x;exact x.gw u):SS w0 h0 w h B R (K::F) :=
 ⟨s.g0,s.st,s.ro,s.ap,fun p a=>by
  rcases hP.1 a with rfl|a
  ·exact m
  ·exact s.mo p a,x,s.f⟩
theorem SS.a_SlO {α:Type}{sz:Nat}{f:α->List Value}{d:α}{A:Z9}{l:List α}(s:SS w0 h0 w h B R F)(x:SlO sz f d h A l):SS w0 h0 w h B R ((fun h=>SlO sz f d h A l)::F):=s.add (K:=fun h=>SlO sz f d h A l) x
theorem SS.a_Seg {b o:Nat}{cs:List Value}(s:SS w0 h0 w h B R F)(x:Seg h b o cs):SS w0 h0 w h B R ((fun h=>Seg h b o cs)::F):=s.add (K:=fun h=>Seg h b o cs) x
theorem SS.tl {K:Hp->Prop}(s:SS w0 h0 w h B R (K::F)):SS w0 h0 w h B R F:=⟨s.g0,s.st,s.ro,s.ap,fun p a=>s.mo p (List.mem_cons_of_mem _ a),s.f.2⟩
theorem SS.nil (s:SS w0 h0 w h B R F)(ty:TypeId)(sz:Nat):SS w0 h0 w h B (⟨ty,sz,none,0,0,[]⟩::R) F :=
 ⟨s.g0,s.st,fun r hr=>by
  rcases hP.1 hr with rfl|hr
  ·exact Gro.nil
  ·exact s.ro r hr,List.pairwise_cons.2 ⟨fun _ _=>Apart.nil,s.ap⟩,s.mo,s.f⟩
theorem SS.to (s:SS w0 h0 w h B R F)(B':List Bx)(R':List Rw)(e:B=B':=by kernel_rfl)(e2:R=R':=by kernel_rfl):SS w0 h0 w h B' R' F:=e▸e2▸s
theorem pA {j o:Nat}{cs:List Value}(a:j<B.length):(gE B j o cs).map (·.b)=B.map (·.b):=by
 unfold gE
 rw[yu]
 apply yv
 intro i
 by_cases e:j=i
 ·subst e
  rw[yw (by simpa using a)]
  simp[aw,a]
 ·rw[yx e]
theorem jr {j:Nat}{vs:List Value}(a:j<B.length):(gL B j vs).map (·.b)=B.map (·.b):=by
 unfold gL
 rw[yu]
 apply yv
 intro i
 by_cases e:j=i
 ·subst e
  rw[yw (by simpa using a)]
  simp[aw,a]
 ·rw[yx e]
theorem SS.put0 (s:SS w0 h0 w h B R F){j:Nat}{B':List Bx}{w':World}(c:j<B.length)(p:Put (aw B j).b w w')(a:St w0 h0 w' h B')(e:B'.map (·.b)=B.map (·.b)):SS w0 h0 w' h B' R F :=
 ⟨s.g0,a,fun r hr=>by rw[e];exact (s.ro r hr).put p (g8.2 ⟨_,br c,rfl⟩),s.ap,s.mo,s.f⟩
theorem SS.new (s:SS w0 h0 w h B R F){w':World}{h':Hp}(u:Up w h w' h'){b:Nat}{ty:TypeId}{vs:List Value}(i:h.size<=b)(d:St w0 h0 w' h' (⟨b,ty,vs⟩::B)):SS w0 h0 w' h' (⟨b,ty,vs⟩::B) R F :=
 ⟨s.g0,d,fun r hr=>((s.ro r hr).up u).new b (fun c a e=>by have:=(s.ro r hr).lt a;omega),s.ap,s.mo,s.f.gw s.mo u.gr.gw⟩
theorem SS.stepM (s:SS w0 h0 w h B R F)(j:Nat){rb:Nat}{vs:List Value}{w':World}{h':Hp}(u:UpM [rb] w h w' h')(c:Own w' rb (aw B j).t vs)(d:decide (j<B.length)=true:=by kernel_rfl)(e:(aw B j).b=rb:=by kernel_rfl):SS w0 h0 w' h' (gL B j vs) R F:=by
 subst e;have a:=oT d;exact ⟨s.g0,s.st.stepM s.g0 a u c,fun r hr=>by rw[jr a];exact (s.ro r hr).upM u (g8.2 ⟨_,br a,rfl⟩),s.ap,s.mo,s.f.gw s.mo u.gr.gw⟩
theorem SS.drop (s:SS w0 h0 w h B R F)(k m:Nat):SS w0 h0 w h (B.drop k) (R.drop m) F :=
 ⟨s.g0,s.st.drop k,fun r hr=>(s.ro r (yY hr)).sub _ (fun b a=>by
  obtain ⟨x,c,e⟩:=g8.1 a;exact g8.2 ⟨x,yY c,e⟩),s.ap.sublist (yZ _ _),s.mo,s.f⟩
theorem SS.own (s:SS w0 h0 w h B R F)(j:Nat)(a:decide (j<B.length)=true:=by kernel_rfl):Own w (aw B j).b (aw B j).t (aw B j).vs:=s.st.own _ (br (oT a))
theorem SS.jk (s:SS w0 h0 w h B R F)(j:Nat)(a:decide (j<B.length)=true:=by kernel_rfl):h[(aw B j).b]?=some bc:=s.st.jk _ (br (oT a))
theorem SS.pub (s:SS w0 h0 w h B R F)(j:Nat)(o:decide (j<B.length)=true:=by kernel_rfl):∃ h',SS w0 h0 w h' (B.eraseIdx j) R F/\Seg h' (aw B j).b 0 (aw B j).vs/\h0.size<=(aw B j).b/\h'[(aw B j).b]?=some (.cells (aw B j).vs.toArray (aw B j).t (0,0)):=by
 have a:=oT o;obtain ⟨h',l,gw,sg,i,c⟩:=s.st.pubX j a;have d:=br a;refine ⟨h',⟨s.g0,l,fun r hr=>((s.ro r hr).out (g8.2 ⟨_,d,rfl⟩) c).sub _ (fun b p=>?_),s.ap,s.mo,s.f.gw s.mo gw⟩,sg,s.st.lo _ d,i⟩;obtain ⟨x,k,e⟩:=g8.1 p;exact g8.2 ⟨x,z6 k,e⟩
theorem SS.take (s:SS w0 h0 w h B R F){w':World}{h':Hp}(u:Up w h w' h'){b:Nat}{ty:TypeId}{vs:List Value}(p:h.size<=b)(f:h'[b]?=some (.cells vs.toArray ty (0,0)))(k:(ty == 0)=false:=by kernel_rfl) :
  ∃ i,SS w0 h0 w' i (⟨b,ty,vs⟩::B) R F/\(∀ c,c≠b->i[c]?=h'[c]?)/\Gr h i:=by
 have j:=aF f;have l:Gr h (h'.setIfInBounds b bc):=⟨by simp;exact u.gr.size,fun c d=>by rw[oi oM];exact u.gr.blk c d⟩
 have hG:G w' (h'.setIfInBounds b bc):=⟨by simp;exact u.g.size,fun c=>by
  by_cases e:b=c
  ·subst e;right;rw[zF j]
  ·rw[oi e];exact u.g.blk c⟩
 have o:Up w h w' (h'.setIfInBounds b bc):=⟨u.ext,l,hG⟩
 have z:Own w' b ty vs:=by
  rcases u.g.blk b with e|e
  ·exact e.symm.trans f
  ·rw[e] at f
   injection f with f
   unfold bc at f
   injection f with h1 h2 h3
   rw[<-h2] at k
   cases k
 refine ⟨h'.setIfInBounds b bc,s.new o p ⟨s.st.up.trans o,?_,?_,?_,?_⟩,fun c d=>oi (Ne.symm d),l⟩
 ·intro x a
  rcases hP.1 a with rfl|a
  ·exact z
  ·exact (s.st.own x a).ext u.ext
 ·intro x a
  rcases hP.1 a with rfl|a
  ·exact zF j
  ·rw[l.blk _ (aF (s.st.jk x a))];exact s.st.jk x a
 ·intro x a
  rcases hP.1 a with rfl|a
  ·exact e6 s.st.sz p
  ·exact s.st.lo x a
 ·refine i3.2 ⟨fun H=>?_,s.st.nd⟩
  obtain ⟨y,D,I⟩:=g8.1 H;have:=aF (s.st.jk y D);have C:y.b=b:=I
  omega
theorem SS.pubr (s:SS w0 h0 w h B R F)(j:Nat){ty:TypeId}{sz c:Nat}{A:Z9}{α:Type}{f:α->List Value}{l:List α}(d:α)(hf:∀ x,(f x).length=sz)(hr:R.getD j default=⟨ty,sz,A,c,l.length,l.flatMap f⟩:=by kernel_rfl)(C:decide (j<R.length)=true:=by kernel_rfl) :
  ∃ h',SS w0 h0 w h' B (R.eraseIdx j) ((fun h=>SlO sz f d h A l)::F)/\l.length<=c:=by
 have a:=oT C;have e0:R[j]=⟨ty,sz,A,c,l.length,l.flatMap f⟩:=by rw[<-hr];simp[a]
 have J:R[j]∈R:=gx a;have z:=s.ro _ J;rw[e0] at z
 obtain ⟨h',D,gw,I,_,H,hz,sg⟩:=Gro.pub3 s.st z
 have k:∀ r∈R.eraseIdx j,Apart r.v R[j].v:=by
  intro r hr;obtain ⟨i,hi,e⟩:=yy.1 hr;rw[zY] at e
  have b:=z8.1 s.ap
  split at e
  ·rename_i y;rw[<-e];exact b i j oM a y
  ·rename_i y
   rw[<-e];have o:i+1<R.length:=by rw[zZ a] at hi;omega
   exact (b j (i+1) a o oM).symm
 refine ⟨h',⟨s.g0,D,fun r hr=>(s.ro r (z6 hr)).pubo I (by have:=k r hr;rw[e0] at this;exact this),s.ap.sublist (z7 R j),fun p b=>by
  rcases hP.1 b with rfl|b
  ·exact fun _ _ u x=>x.gw u
  ·exact s.mo p b,SlO.of_pub hf hz sg,s.f.gw s.mo gw⟩,H⟩
theorem SS.grown (s:SS w0 h0 w h B R F){j:Nat}(I:j<R.length){w':World}{v':Value}{m2:Nat}{news:List Value}(O:w'.ownsRow h0.size R[j].ty R[j].sz v' (R[j].n+m2) (R[j].cs++news))(L:w.grownBy w' R[j].v.ownBlock)(M:v'.ownBlock=R[j].v.ownBlock\/v'.ownBlock=some w.heap.size) :
    ∃ h' A c,v'=.slice A (R[j].n+m2) c/\Gr h h'/\SS w0 h0 w' h' B (R.set j ⟨R[j].ty,R[j].sz,A,c,R[j].n+m2,R[j].cs++news⟩) F:=by
  have S:R[j]∈R:=gx I;have r:=s.ro _ S;obtain ⟨h',y,Q,C⟩:=wT s.st s.g0 r L;have U:=r.grown s.st O M y C
  have H:∃ A c,v'=.slice A (R[j].n+m2) c:=by
    rcases O with ⟨_,⟨e,e2⟩|⟨g,cap,cur,e,_⟩⟩
    . exact ⟨none,0,by rw[e,e2]⟩
    . exact ⟨_,_,e⟩
  obtain ⟨A,c,e⟩:=H;subst e;have D:=z8.1 s.ap
  have l:∀ i (hi:i<R.length),i≠j->Apart R[j].v R[i].v:=fun i hi o=>by
    rcases Nat.lt_or_gt_of_ne o with hl|hl
    . exact (D i j hi I hl).symm
    . exact D j i I hi hl
  have d:∀ i (hi:i<R.length),i≠j->Apart (.slice A (R[j].n+m2) c) R[i].v:=fun i hi o =>
    Apart.grown (w:=w) (l i hi o) M (fun b p=>kw (s.ro _ (gx hi)).own p)
  refine ⟨h',A,c,rfl,y,⟨s.g0,Q,?_,?_,s.mo,s.f.gw s.mo y.gw⟩⟩
  . intro x V
    obtain ⟨i,hi,z⟩:=yy.1 V;have a:i<R.length:=by simpa using hi
    by_cases e:j=i
    . subst e
      simp at z
      rw[<-z];exact U
    . rw[Ab e] at z
      rw[<-z];exact (s.ro _ (gx a)).app L y (fun b p K=>l i a (Ne.symm e) b K p)
  . refine z8.2 (fun i k hi hk J=>?_)
    have a:i<R.length:=by simpa using hi
    have u:k<R.length:=by simpa using hk
    by_cases e:j=i
    . subst e
      rw[Af,Ab oM];exact d k u oM
    . by_cases e2:j=k
      . subst e2
        rw[Af,Ab oM];exact (d i a oM).symm
      . rw[Ab e,Ab e2]
        exact D i k a u J
end ss
theorem SS.aS {α:Type}{sz:Nat}{f:α->List Value}{x:α}{A:Z9}{l:List α}{w0 w:World}{h0 h:Hp}{B:List Bx}{R:List Rw}{F:List (Hp->Prop)}(s:SS w0 h0 w h B R F)(p:SlO sz f x h A l):SS w0 h0 w h B R ((fun h=>SlO sz f x h A l)::F):=s.a_SlO p
theorem SS.aP {α β:Type}{sz a:Nat}{f:α->List Value}{x:α}{A:Z9}{l:List α}{g:β->List Value}{y:β}{D:Z9}{m:List β}{w0 w:World}{h0 h:Hp}{B:List Bx}{R:List Rw}{F:List (Hp->Prop)}(s:SS w0 h0 w h B R F)(p:SlO sz f x h A l)(q:SlO a g y h D m):SS w0 h0 w h B R ((fun h=>SlO a g y h D m)::(fun h=>SlO sz f x h A l)::F):=(s.a_SlO p).a_SlO q
section
variable {P:Program}{n:Nat}{N R:Po}{X:Nat->Po}{Γ:cH}{w:World}{h:Hp}
theorem cQ {x y:Code}(H:CG P n (fun a w=>y.wp P (gK N R X) a w) R X x Γ w):CG P n N R X (.seq x y) Γ w:=CG.seq H
theorem cK {y:Code}{N' R':Po}{X':Nat->Po}(H:CG P n N' R' X' y Γ w):CG P n (fun a w=>y.wp P (gK N' R' X') a w) R X .skip Γ w:=CG.skipN H
theorem kQ {id:Nat}{ops:Array Oper}(H:LG P n N R X ops 0 Γ w):CG P n N R X (.region id ops false) Γ w:=CG.listed H
theorem kZ {id:Nat}{c:Code}(H:CG P n N R (fun i=>if i=id then N else X i) c Γ w):CG P n N R X (.block id c) Γ w:=CG.block H
theorem kX (H:∀ a,Kn n a Γ->R a w):CG P n N R X .ret Γ w:=CG.ret H
theorem sS (g:G w h):SS w h w h [] [] []:=SS.start g
end
theorem nR (n:Nat):n<=n:=ey n
theorem ju {h:Hp}{b i:Nat}{v:Value}(e:dG h b i=some v):∃ c t g,h[b]?=some (.cells c t g)/\c[i]?=some v:=by
  unfold dG at e
  cases a:h[b]? with
  | none=>rw[a] at e;cases e
  | some o =>
    rw[a] at e
    cases o with
    | cells c t g=>exact ⟨c,t,g,rfl,e⟩
    | _=>cases e
theorem mD {h:Hp}{b i:Nat}(j:h[b]?=some bc):dG h b i=none:=by
 unfold dG;rw[j];simp[bc]
structure Whole (lo:Nat) (h:Hp) (b:Nat) (ty:TypeId) (vs:List Value):Prop where
  lo:lo<=b
  ty0:(ty == 0)=false
  at_:h[b]?=some (.cells vs.toArray ty (0,0))
theorem Whole.nj {lo:Nat}{h:Hp}{b:Nat}{ty:TypeId}{vs:List Value}(x:Whole lo h b ty vs):h[b]?≠some bc:=fun e=>by
 have h1:=x.at_;rw[e] at h1
 injection h1 with h1
 unfold bc at h1
 injection h1 with h2 h3 h4
 have:=x.ty0;rw[<-h3] at this
 cases this
section ss
variable {w0:World}{h0:Hp}{w:World}{h:Hp}{B:List Bx}{R:List Rw}{F:List (Hp->Prop)}
theorem SS.grab (s:SS w0 h0 w h B R F){b:Nat}{ty:TypeId}{vs:List Value}(x:Whole h0.size h b ty vs):SS w0 h0 w (h.setIfInBounds b bc) (⟨b,ty,vs⟩::B) R []:=by
 have j:=aF x.at_
 have l:Own w b ty vs:=by
  rcases s.g.blk b with e|e
  ·exact e.symm.trans x.at_
  ·exact absurd e x.nj
 have d:∀ c,h[c]?=some bc->c≠b:=fun c f e=>x.nj (e▸f)
 refine ⟨s.g0,⟨⟨s.st.up.ext,⟨by simp;exact s.st.up.gr.size,fun c f=>?_⟩,⟨by simp;exact s.st.up.g.size,fun c=>?_⟩⟩,?_,?_,?_,?_⟩,fun r hr=>?_,s.ap,(fun p o=>by cases o),trivial⟩
 ·have:=x.lo
  rw[oi oM];exact s.st.up.gr.blk c f
 ·by_cases e:b=c
  ·subst e;right;rw[zF j]
  ·rw[oi e];exact s.st.up.g.blk c
 ·intro y a
  rcases hP.1 a with rfl|a
  ·exact l
  ·exact s.st.own y a
 ·intro y a
  rcases hP.1 a with rfl|a
  ·exact zF j
  ·rw[oi (Ne.symm (d _ (s.st.jk y a)))];exact s.st.jk y a
 ·intro y a
  rcases hP.1 a with rfl|a
  ·exact x.lo
  ·exact s.st.lo y a
 ·refine i3.2 ⟨fun k=>?_,s.st.nd⟩
  obtain ⟨y,a,u⟩:=g8.1 k;exact d _ (s.st.jk y a) u
 ·have i:=s.ro r hr
  refine ⟨i.own,fun c f=>?_,fun c f k=>?_⟩
  ·rw[oi (Ne.symm (d _ (i.jk c f)))];exact i.jk c f
  ·rcases hP.1 k with e|k
   ·exact d _ (i.jk c f) e
   ·exact i.ap c f k
end ss
structure Poked (h h':Hp) (b:Nat):Prop where
  oth:∀ c,c≠b->c<h.size->h'[c]?=h[c]?
theorem gz {n:Int}(h0 : -9223372036854775808<=n)(h1:n<=9223372036854775807):IntKind.wrap .i64 n=n:=by rw[IntKind.wrap_i64];omega
def Ba (P:Program)(ρ:Operand->Value)(o:Oper):Option (Value × Value × Nat) :=
  match o.op with
  | .indexAddr t x ix=>match P.underlying t with
    | some (.slice e)=>(P.info? e).map fun i=>(ρ x,ρ ix,i.size)
    | _=>none
  | _=>none
theorem gq {P:Program}{Γ:cH}{o:Oper}{A:Z9}{len b sz:Nat}{i:Int}{k:Nat}(h:Ba P (ev Γ) o=some (.slice A len b,.int .i64 i,sz))(d:A=some ⟨aB A,aO A,none⟩)(hk:i=k)(a:k<len)(w:World) :
    (execOp (ev Γ) o).run P w=.ok (.value (.pointer (some ⟨aB A,aO A+k*sz,none⟩))) w:=by
  unfold Ba at h
  split at h
  . rename_i t x ix c
    split at h
    . rename_i e f
      cases hi:P.info? e with
      | none=>rw[hi] at h;cases h
      | some inf =>
        rw[hi] at h
        simp only[yr,Option.some.injEq,Prod.mk.injEq] at h
        exact F6 (P:=P) k c h.1 h.2.1 f (by rw[hi];simp[h.2.2]) d hk a w
    . cases h
  . cases h
def FU (P:Program)(ρ:Operand->Value)(o:Oper):Option (Value × Option Value × Option Value × Nat) :=
  match o.op with
  | .slice t x lo' hi' none=>match P.underlying t with
    | some (.slice e)=>(P.info? e).map fun i=>(ρ x,lo'.map ρ,hi'.map ρ,i.size)
    | _=>none
  | _=>none
theorem E8 {P:Program}{Γ:cH}{o:Oper}{A:Z9}{len a sz:Nat}{i:Int}(k:Nat)(h:FU P (ev Γ) o=some (.slice A len a,none,some (.int .i64 i),sz))(hk:i=k)(b:k<=a)(w:World) :
    (execOp (ev Γ) o).run P w=.ok (.value (.slice A k a)) w:=by
  unfold FU at h
  split at h
  . rename_i t x l r c
    split at h
    . rename_i e d
      cases hi:P.info? e with
      | none=>rw[hi] at h;cases h
      | some inf =>
        rw[hi] at h
        simp only[yr,Option.some.injEq,Prod.mk.injEq,Ag,yq] at h
        obtain ⟨h1,rfl,⟨y,rfl,f⟩,j⟩:=h;exact Ia (P:=P) k c h1 f d (by rw[hi];rfl) hk b w
    . cases h
  . cases h
theorem q9 {P:Program}{Γ:cH}{o:Oper}{A:Z9}{len a sz:Nat}{i:Int}(k:Nat)(h:FU P (ev Γ) o=some (.slice A len a,some (.int .i64 i),none,sz))(hk:i=k)(b:k<=len)(w:World) :
    (execOp (ev Γ) o).run P w=.ok (.value (.slice (if a=k then A else A.map (·.add (k*sz))) (len-k) (a-k))) w:=by
  unfold FU at h
  split at h
  . rename_i t x l r c
    split at h
    . rename_i e f
      cases hi:P.info? e with
      | none=>rw[hi] at h;cases h
      | some inf =>
        rw[hi] at h
        simp only[yr,Option.some.injEq,Prod.mk.injEq,Ag,yq] at h
        obtain ⟨h1,⟨y,rfl,j⟩,rfl,d⟩:=h;exact FN (P:=P) k c h1 j f (by rw[hi];simp[d]) hk b w
    . cases h
  . cases h
def H4 (P:Program)(ρ:Operand->Value)(o:Oper):Option (Value × Value × TypeId × Value × Nat × Nat) :=
  match o.op with
  | .makeSlice t x y=>match P.underlying t with
    | some (.slice e)=>match P.info? e with
      | some i=>i.zero.map fun z=>(ρ x,ρ y,e,z,i.size,i.bytes)
      | _=>none
    | _=>none
  | _=>none
theorem tg {P:Program}{Γ:cH}{o:Oper}{e:TypeId}{z:Value}{m sz i:Nat}{α:Type}{f:α->List Value}{j:α}(h:H4 P (ev Γ) o=some (.int .i64 (m:Int),.int .i64 (m:Int),e,z,sz,i))(b:z.cells.toList=f j)(d:z.cells.size=sz)(a:0<sz)(B:i*m<=140737488355328)(c:m<9223372036854775808)(w:World) :
    (execOp (ev Γ) o).run P w=.ok (.value (.slice (some ⟨w.heap.size,0,none⟩) m m)) (w.alloc (.cells ((y2 m j).flatMap f).toArray e (0,0))):=by
  unfold H4 at h
  split at h
  . rename_i t x y l
    split at h
    . rename_i H C
      split at h
      . rename_i u hi
        simp only[yq,Prod.mk.injEq] at h
        obtain ⟨F,hz,h1,k,rfl,rfl,D,p⟩:=h;exact IJ (P:=P) l h1 k C (by rw[hi];simp[hz,D,p]) b d a B c w
      . cases h
    . cases h
  . cases h
def Gv (P:Program)(ρ:Operand->Value)(o:Oper):Option (Value × Value × TypeId × Value × Nat × Nat) :=
  match o.op with
  | .call { callee:=.builtin .append,args:=⟨[x,y]⟩,argTypes:=⟨[t,u]⟩ }=>if t=u then match P.underlying t with
    | some (.slice e)=>match P.info? e with
      | some i=>i.zero.map fun z=>(ρ x,ρ y,e,z,i.size,i.bytes)
      | _=>none
    | _=>none else none
  | _=>none
theorem xH {P:Program}{ρ:Operand->Value}{o:Oper}{r:Value × Value × TypeId × Value × Nat × Nat}(h:Gv P ρ o=some r):∃ x y t,o.op=.call { callee:=.builtin .append,args:=#[x,y],argTypes:=#[t,t] }/\ρ x=r.1/\ρ y=r.2.1/\P.underlying t=some (.slice r.2.2.1)/\(P.info? r.2.2.1).map (fun i=>(i.zero,i.size,i.bytes))=some (some r.2.2.2.1,r.2.2.2.2.1,r.2.2.2.2.2):=by
  unfold Gv at h
  split at h
  . rename_i x y t u b
    split at h
    . rename_i a
      subst a
      split at h
      . rename_i e c
        split at h
        . rename_i d hi
          simp only[yq] at h
          obtain ⟨z,hz,rfl⟩:=h;exact ⟨x,y,t,b,rfl,rfl,c,by rw[hi];simp[hz]⟩
        . cases h
      . cases h
    . cases h
  . cases h
section listed
variable {P:Program}{n:Nat}{N R:Po}{X:Nat->Po}{ops:Array Oper}{k:Nat}{Γ:cH}{w:World}{h:Hp}{w0:World}{h0:Hp}{B:List Bx}{Rs:List Rw}{F:List (Hp->Prop)}
def cL (ops:Array Oper)(Γ:cH)(k t n:Nat):Bool:=d5 ops Γ k && ((am ops k).dst == some t) && decide (t<n) && (bp ops Γ (am ops k) == some true)
def cS (ops:Array Oper)(Γ:cH)(k:Nat):Bool:=d5 ops Γ k && ((am ops k).dst == none) && (bp ops Γ (am ops k) == some true)
theorem bF {t:Nat}(h:cL ops Γ k t n=true):(d5 ops Γ k && ((am ops k).dst == some t) && decide (t<n))=true/\bp ops Γ (am ops k)=some true:=by
 unfold cL at h
 rw[ov] at h
 exact ⟨h.1,by simpa using h.2⟩
theorem gi (h:cS ops Γ k=true):(d5 ops Γ k && ((am ops k).dst == none))=true/\bp ops Γ (am ops k)=some true:=by
 unfold cS at h
 rw[ov] at h
 exact ⟨h.1,by simpa using h.2⟩
theorem lV (t:Nat)(v:Value)(H:LG P n N R X ops (k+1) ((t,v)::Γ) w)(a:cL ops Γ k t n=true:=by kernel_rfl)(hr:(execOp (ev Γ) (am ops k)).run P w=.ok (.value v) w:=by kernel_rfl):LG P n N R X ops k Γ w :=
 LG.val t v w (bF a).1 (bF a).2 hr H
theorem lB (t:Nat){e b:Bool}(c:e=b)(H:LG P n N R X ops (k+1) ((t,.bool b)::Γ) w)(a:cL ops Γ k t n=true:=by kernel_rfl)(hr:(execOp (ev Γ) (am ops k)).run P w=.ok (.value (.bool e)) w:=by kernel_rfl):LG P n N R X ops k Γ w :=
 LG.val t _ w (bF a).1 (bF a).2 (c▸hr) H
theorem lI (t:Nat)(m:Int)(H:LG P n N R X ops (k+1) ((t,.int .i64 m)::Γ) w)(a:cL ops Γ k t n=true:=by kernel_rfl)(hr:(execOp (ev Γ) (am ops k)).run P w=.ok (.value (.int .i64 (IntKind.wrap .i64 m))) w:=by kernel_rfl)(h0 : -9223372036854775808<=m:=by omega)(h1:m<=9223372036854775807:=by omega):LG P n N R X ops k Γ w :=
 LG.val t _ w (bF a).1 (bF a).2 (by rw[gz h0 h1] at hr;exact hr) H
theorem bM (t:Nat)(m:Int)(j:Nat)(H:LG P n N R X ops (k+1) ((t,.int .i64 (j:Int))::Γ) w)(a:cL ops Γ k t n=true:=by kernel_rfl)(hr:(execOp (ev Γ) (am ops k)).run P w=.ok (.value (.int .i64 (IntKind.wrap .i64 m))) w:=by kernel_rfl)(b:m=j:=by omega)(h1:m<=9223372036854775807:=by omega):LG P n N R X ops k Γ w :=
 LG.val t _ w (bF a).1 (bF a).2 (by rw[gz oM h1,b] at hr;exact hr) H
theorem lE (t:Nat){ik:IntKind}{m j:Int}(b:m=j)(H:LG P n N R X ops (k+1) ((t,.int ik j)::Γ) w)(a:cL ops Γ k t n=true:=by kernel_rfl)(hr:(execOp (ev Γ) (am ops k)).run P w=.ok (.value (.int ik m)) w:=by kernel_rfl):LG P n N R X ops k Γ w :=
 LG.val t _ w (bF a).1 (bF a).2 (b▸hr) H
theorem lO (t:Nat)(a:List (Nat × Nat × Nat))(v:Value)(s:SS w0 h0 w h B Rs F)(H:LG P n N R X ops (k+1) ((t,v)::Γ) w)(b:cL ops Γ k t n=true:=by kernel_rfl)(c:cB B a=true:=by kernel_rfl)(d:bW P (execOp (ev Γ) (am ops k)) (dq B a)=some (.value v,bS B a):=by kernel_rfl):LG P n N R X ops k Γ w :=
 LG.own t a v s.st (bF b).1 (bF b).2 c d H
def Du (P:Program)(ops:Array Oper)(B:List Bx):cH->Nat->List (Nat × Value × List (Nat × Nat × Nat))->List (Option (Next × List Addr))
  | _,_,[]=>[]
  | Γ,k,x::l=>bW P (execOp (ev Γ) (am ops k)) (dq B x.2.2)::Du P ops B ((x.1,x.2.1)::Γ) (k+1) l
def DH (n:Nat)(ops:Array Oper)(B:List Bx):cH->Nat->List (Nat × Value × List (Nat × Nat × Nat))->Bool
  | _,_,[]=>true
  | Γ,k,x::l=>cL ops Γ k x.1 n && cB B x.2.2 && DH n ops B ((x.1,x.2.1)::Γ) (k+1) l
def oB (Γ:cH):List (Nat × Value × List (Nat × Nat × Nat))->cH
  | []=>Γ
  | x::l=>oB ((x.1,x.2.1)::Γ) l
theorem lS (s:SS w0 h0 w h B Rs F)(l:List (Nat × Value × List (Nat × Nat × Nat)))(H:LG P n N R X ops (k+l.length) (oB Γ l) w)(a:DH n ops B Γ k l=true:=by kernel_rfl)(b:Du P ops B Γ k l=l.map (fun x=>some (.value x.2.1,bS B x.2.2)):=by kernel_rfl):LG P n N R X ops k Γ w:=by
  induction l generalizing Γ k with
  | nil=>exact H
  | cons x l ih =>
    unfold DH at a
    simp only[ov] at a
    unfold Du at b
    rw[zh] at b
    injection b with e1 e2
    refine lO x.1 x.2.2 x.2.1 s (ih ?_ a.2 e2) a.1.1 a.1.2 e1;have:k+1+l.length=k+(x::l).length:=by simp;omega
    rw[this];exact H
inductive It where
  | c
  | v (x:Value)
  | o (x:Value) (j a n:Nat)
def nT (ops:Array Oper)(k:Nat):Nat:=(am ops k).dst.getD 0
def nX (ops:Array Oper)(k:Nat)(Γ:cH):Value:=match (am ops k).op with
  | .move x=>ev Γ x
  | .assign x=>ev Γ x
  | _=>.tuple #[]
def It.to (ops:Array Oper)(k:Nat)(Γ:cH):It->Nat × Value × List (Nat × Nat × Nat)
  | .c=>(nT ops k,nX ops k Γ,[])
  | .v x=>(nT ops k,x,[])
  | .o x j a n=>(nT ops k,x,[(j,a,n)])
def rq (ops:Array Oper):Nat->cH->List It->List (Nat × Value × List (Nat × Nat × Nat))
  | _,_,[]=>[]
  | k,Γ,x::l=>x.to ops k Γ::rq ops (k+1) (((x.to ops k Γ).1,(x.to ops k Γ).2.1)::Γ) l
theorem ue (ops:Array Oper)(k:Nat)(Γ:cH)(l:List It):(rq ops k Γ l).length=l.length:=by
 induction l generalizing k Γ with
 | nil=>rfl
 | cons x l ih=>show (rq _ _ _ l).length+1=_;rw[ih];rfl
abbrev ae:List It:=[.c]
abbrev aN:List It:=[.c,.c]
abbrev ff:List It:=[.c,.c,.c]
abbrev nK:List It:=[.c,.c,.c,.c]
abbrev IU:List It:=[.c,.c,.c,.c,.c]
abbrev m6:List It:=[.c,.c,.c,.c,.c,.c]
theorem lL (s:SS w0 h0 w h B Rs F)(l:List It)(H:LG P n N R X ops (k+l.length) (oB Γ (rq ops k Γ l)) w)(a:DH n ops B Γ k (rq ops k Γ l)=true:=by kernel_rfl)(b:Du P ops B Γ k (rq ops k Γ l)=(rq ops k Γ l).map (fun x=>some (.value x.2.1,bS B x.2.2)):=by kernel_rfl):LG P n N R X ops k Γ w :=
 lS s (rq ops k Γ l) (by rw[ue];exact H) a b
theorem lP (j o:Nat)(cs:List Value)(s:SS w0 h0 w h B Rs F)(H:∀ w',SS w0 h0 w' h (gE B j o cs) Rs F->LG P n N R X ops (k+1) Γ w')(c:cS ops Γ k=true:=by kernel_rfl)
  (a:(decide (j<B.length) && decide (o+cs.length<=(aw B j).vs.length))=true:=by kernel_rfl)(e:dU P (execOp (ev Γ) (am ops k))=some (.skip,nL (aw B j).b o cs):=by kernel_rfl):LG P n N R X ops k Γ w :=
 LG.put j o cs s.st s.g0 (gi c).1 (gi c).2 a e (fun w' p d=>H w' (s.put0 (oT (ov _ _▸a).1) p d (pA (oT (ov _ _▸a).1))))
theorem lA (t:Nat)(ty:TypeId)(vs:List Value)(s:SS w0 h0 w h B Rs F)(H:∀ b w' h',SS w0 h0 w' h' (⟨b,ty,vs⟩::B) Rs F->LG P n N R X ops (k+1) ((t,.pointer (some ⟨b,0,none⟩))::Γ) w')(a:cL ops Γ k t n=true:=by kernel_rfl)
  (hr:(execOp (ev Γ) (am ops k)).run P w=.ok (.value (.pointer (some ⟨w.heap.size,0,none⟩))) (w.alloc (.cells vs.toArray ty (0,0))):=by kernel_rfl):LG P n N R X ops k Γ w :=
 LG.var t ty vs s.st (bF a).1 (bF a).2 hr (fun b w' h' d u c=>H b w' h' (s.new u d c))
theorem lC (t:Nat){f:FuncId}{args:Array Value}{Φ:Value->Hp->Prop}(s:SS w0 h0 w h B Rs F)(c:Calls P f args w (Ret w h Φ))(H:∀ v w' h',SS w0 h0 w' h' B Rs F->Φ v h'->LG P n N R X ops (k+1) ((t,v)::Γ) w')(b:cL ops Γ k t n=true:=by kernel_rfl)(hr:(execOp (ev Γ) (am ops k)).run P w=.ok (.enter f args) w:=by kernel_rfl):LG P n N R X ops k Γ w :=
 LG.call t f args (bF b).1 (bF b).2 hr (c.mono fun e w' ⟨v,h',d,u,a⟩=>⟨v,d,H v w' h' (s.step u) a⟩)
theorem od (t:Nat){f:FuncId}{args:Array Value}{Φ:Value->Hp->Prop}(c:Calls P f args w (Ret w h Φ))(H:∀ v w' h',Up w h w' h'->Φ v h'->LG P n N R X ops (k+1) ((t,v)::Γ) w')(b:cL ops Γ k t n=true:=by kernel_rfl)(hr:(execOp (ev Γ) (am ops k)).run P w=.ok (.enter f args) w:=by kernel_rfl):LG P n N R X ops k Γ w :=
 LG.call t f args (bF b).1 (bF b).2 hr (c.mono fun e w' ⟨v,h',d,u,a⟩=>⟨v,d,H v w' h' u a⟩)
theorem jg (t:Nat){f:FuncId}{args:Array Value}{rb:Nat}{Φ:Value->World->Hp->Prop}(c:Calls P f args w (iw rb w h Φ))(H:∀ v w' h',UpM [rb] w h w' h'->Φ v w' h'->LG P n N R X ops (k+1) ((t,v)::Γ) w')(b:cL ops Γ k t n=true:=by kernel_rfl)(hr:(execOp (ev Γ) (am ops k)).run P w=.ok (.enter f args) w:=by kernel_rfl):LG P n N R X ops k Γ w :=
 LG.call t f args (bF b).1 (bF b).2 hr (c.mono fun e w' ⟨v,h',d,u,a⟩=>⟨v,d,H v w' h' u a⟩)
theorem lH (t:Nat)(v:Value){b o:Nat}{cs:List Value}(s:SS w0 h0 w h B Rs F)(sg:Seg h b o cs)(H:LG P n N R X ops (k+1) ((t,v)::Γ) w)(a:cL ops Γ k t n=true:=by kernel_rfl)(c:bW P (execOp (ev Γ) (am ops k)) cs=some (.value v,lj b o cs.length):=by kernel_rfl):LG P n N R X ops k Γ w :=
 LG.val t v w (bF a).1 (bF a).2 (Seg.run sg s.g (Ext.refl _) c) H
theorem Jo (t:Nat)(v:Value){u:Value}{b o:Nat}{cs:List Value}(s:SS w0 h0 w h B Rs F)(sg:Seg h b o cs)(e:v=u)(H:LG P n N R X ops (k+1) ((t,u)::Γ) w)(a:cL ops Γ k t n=true:=by kernel_rfl)(c:bW P (execOp (ev Γ) (am ops k)) cs=some (.value v,lj b o cs.length):=by kernel_rfl):LG P n N R X ops k Γ w :=
 LG.val t u w (bF a).1 (bF a).2 (e▸Seg.run sg s.g (Ext.refl _) c) H
theorem lX (t:Nat)(A:Z9)(len b sz:Nat)(i:Int)(j:Nat)(d:A=some ⟨aB A,aO A,none⟩)(H:LG P n N R X ops (k+1) ((t,.pointer (some ⟨aB A,aO A+j*sz,none⟩))::Γ) w)(c:cL ops Γ k t n=true:=by kernel_rfl)(e:Ba P (ev Γ) (am ops k)=some (.slice A len b,.int .i64 i,sz):=by kernel_rfl)(hk:i=j:=by omega)(a:j<len:=by omega):LG P n N R X ops k Γ w :=
 LG.val t _ w (bF c).1 (bF c).2 (gq e d hk a w) H
theorem lT (t:Nat)(A:Z9)(len a sz:Nat)(i:Int)(j:Nat)(H:LG P n N R X ops (k+1) ((t,.slice A j a)::Γ) w)(c:cL ops Γ k t n=true:=by kernel_rfl)(d:FU P (ev Γ) (am ops k)=some (.slice A len a,none,some (.int .i64 i),sz):=by kernel_rfl)(hk:i=j:=by omega)(b:j<=a:=by omega):LG P n N R X ops k Γ w :=
 LG.val t _ w (bF c).1 (bF c).2 (E8 j d hk b w) H
theorem lF (t:Nat)(A:Z9)(len a sz:Nat)(i:Int)(j:Nat)(H:LG P n N R X ops (k+1) ((t,.slice (if a=j then A else A.map (·.add (j*sz))) (len-j) (a-j))::Γ) w)(c:cL ops Γ k t n=true:=by kernel_rfl)(d:FU P (ev Γ) (am ops k)=some (.slice A len a,some (.int .i64 i),none,sz):=by kernel_rfl)(hk:i=j:=by omega)(b:j<=len:=by omega):LG P n N R X ops k Γ w :=
 LG.val t _ w (bF c).1 (bF c).2 (q9 j d hk b w) H
theorem lR (t:Nat)(ty:TypeId)(m:Nat)(cs:List Value)(s:SS w0 h0 w h B Rs F)(H:∀ b w' h',SS w0 h0 w' h' B Rs ((fun h=>Seg h b 0 cs)::F)->LG P n N R X ops (k+1) ((t,.slice (some ⟨b,0,none⟩) m m)::Γ) w')(a:cL ops Γ k t n=true:=by kernel_rfl)
  (hr:(execOp (ev Γ) (am ops k)).run P w=.ok (.value (.slice (some ⟨w.heap.size,0,none⟩) m m)) (w.alloc (.cells cs.toArray ty (0,0))):=by kernel_rfl):LG P n N R X ops k Γ w :=
 LG.row t ty m cs s.g (bF a).1 (bF a).2 hr (fun b w' h' u sg=>H b w' h' ((s.step u).a_Seg sg))
theorem lK {α:Type}(t:Nat)(ty:TypeId)(m sz i:Nat)(z:Value)(f:α->List Value)(l:α)(s:SS w0 h0 w h B Rs F)(H:∀ b w' h',SS w0 h0 w' h' (⟨b,ty,(y2 m l).flatMap f⟩::B) Rs F->LG P n N R X ops (k+1) ((t,.slice (some ⟨b,0,none⟩) m m)::Γ) w')(j:cL ops Γ k t n=true:=by kernel_rfl)
  (y:H4 P (ev Γ) (am ops k)=some (.int .i64 (m:Int),.int .i64 (m:Int),ty,z,sz,i):=by kernel_rfl)(c:z.cells.toList=f l:=by kernel_rfl)(e:z.cells.size=sz:=by kernel_rfl)(a:0<sz:=by decide)(x:i*m<=140737488355328:=by omega)(d:m<9223372036854775808:=by omega):LG P n N R X ops k Γ w :=
 LG.arr t ty m _ s.st (bF j).1 (bF j).2 (tg y c e a x d w) (fun b w' h' p u o=>H b w' h' (s.new u p o))
theorem lQ {α:Type}(t j:Nat)(l:List α)(f:α->List Value)(sz:Nat)(d:α)(e:Nat)(v:Value)(s:SS w0 h0 w h B Rs F)(hk:e<l.length)(H:LG P n N R X ops (k+1) ((t,v)::Γ) w)(a:cL ops Γ k t n=true:=by kernel_rfl)
  (c:decide (j<B.length)=true:=by kernel_rfl)(hB:(aw B j).vs=l.flatMap f:=by kernel_rfl)(hf:∀ x,(f x).length=sz:=by intro _;rfl)
  (i:bW P (execOp (ev Γ) (am ops k)) (f (l.getD e d))=some (.value v,lj (aw B j).b (0+e*sz) (f (l.getD e d)).length):=by kernel_rfl):LG P n N R X ops k Γ w :=
 LG.ownA t j l f sz d e v s.st (bF a).1 (bF a).2 c hB hf hk i H
theorem lW {α:Type}(j:Nat)(l:List α)(f:α->List Value)(sz e:Nat)(x:α)(s:SS w0 h0 w h B Rs F)(hk:e<l.length)(H:∀ w',SS w0 h0 w' h (gL B j ((l.set e x).flatMap f)) Rs F->LG P n N R X ops (k+1) Γ w')(c:cS ops Γ k=true:=by kernel_rfl)
  (a:decide (j<B.length)=true:=by kernel_rfl)(hB:(aw B j).vs=l.flatMap f:=by kernel_rfl)(hf:∀ x,(f x).length=sz:=by intro _;rfl)
  (i:dU P (execOp (ev Γ) (am ops k))=some (.skip,nL (aw B j).b (0+e*sz) (f x)):=by kernel_rfl):LG P n N R X ops k Γ w :=
 LG.putA j l f sz e x s.st s.g0 (gi c).1 (gi c).2 a hB hf hk i (fun w' p d=>H w' (s.put0 (oT a) p d (jr (oT a))))
theorem mS {R:List Rw}{j:Nat}{r:Rw}(hr:R.getD j default=r)(a:j<R.length):R[j]=r:=by rw[<-hr];simp[a]
theorem IS (t j:Nat){ty:TypeId}{sz c m:Nat}{A:Z9}{cs:List Value}{C m2 W:Nat}{z:Value}{a:Addr}(news:List Value)(s:SS w0 h0 w h B Rs F)(b:∀ i u,news[i]?=some u->w.cell? (a.add i)=some u)(K:news.length=m2*sz)(h1:∀ u∈news,u.oneCell'=true)(p:j<Rs.length)(hr:Rs[j]=⟨ty,sz,A,c,m,cs⟩)
  (D:cL ops Γ k t n=true)(he:Gv P (ev Γ) (am ops k)=some (.slice A m c,.slice (some a) m2 W,ty,z,sz,C))(o:z.cells.size=sz)(d:0<sz)(V:m+m2<=1099511627776)(Q:(m+m2)*C<=140737488355328)
  (H:∀ l c' w' h',SS w0 h0 w' h' B (Rs.set j ⟨ty,sz,l,c',m+m2,cs++news⟩) F->LG P n N R X ops (k+1) ((t,.slice l (m+m2) c')::Γ) w'):LG P n N R X ops k Γ w:=by
 obtain ⟨x,y,M,L,Z,U,Y,hi⟩:=xH he;have r:=s.ro _ (gx p);rw[hr] at r
 obtain ⟨v',w',f,S,J,e⟩:=tM (P:=P) L Z U Y hi o d s.st r K b h1 V Q;have I:=s.grown (j:=j) p (w':=w') (v':=v') (m2:=m2) (news:=news) (by rw[hr];exact S) (by rw[hr];exact J) (by rw[hr];exact e);rw[hr] at I
 obtain ⟨h',l,c',rfl,_,O⟩:=I;exact LG.val t _ w' (bF D).1 (bF D).2 f (H l c' w' h' O)
theorem rD {α:Type}{f:α->List Value}{l:List α}{x:α}:l.flatMap f++f x=(l++[x]).flatMap f:=by simp
theorem lY {α:Type}(t j:Nat)(ty:TypeId)(sz c:Nat)(A:Z9)(l:List α)(f:α->List Value)(x:α)(o b:Nat)(z:Value)(s:SS w0 h0 w h B Rs F)(sg:Seg h b 0 (f x))
  (H:∀ e c' w' h',SS w0 h0 w' h' B (Rs.set j ⟨ty,sz,e,c',(l++[x]).length,(l++[x]).flatMap f⟩) F->LG P n N R X ops (k+1) ((t,.slice e (l++[x]).length c')::Γ) w')
  (I:cL ops Γ k t n=true:=by kernel_rfl)(L:Gv P (ev Γ) (am ops k)=some (.slice A l.length c,.slice (some ⟨b,0,none⟩) 1 1,ty,z,sz,o):=by kernel_rfl)(i:z.cells.size=sz:=by kernel_rfl)(a:0<sz:=by decide)
  (hr:Rs.getD j default=⟨ty,sz,A,c,l.length,l.flatMap f⟩:=by kernel_rfl)(C:decide (j<Rs.length)=true:=by kernel_rfl)(h1:(f x).all (·.oneCell')=true:=by kernel_rfl)(y:(f x).length=1*sz:=by kernel_rfl)(J:l.length+1<=1099511627776:=by omega)(D:(l.length+1)*o<=140737488355328:=by omega):LG P n N R X ops k Γ w:=by
 have d:=oT C;refine IS t j (f x) s (mI s.g sg) y (fun u K=>(o4.1 h1) u K) d (mS hr d) I L i a J D (fun e c' w' h' p=>?_);have e1:l.length+1=(l++[x]).length:=by simp
 rw[rD,e1] at p
 rw[e1];exact H e c' w' h' p
end listed
section code
variable {P:Program}{n:Nat}{N R:Po}{X:Nat->Po}{Γ:cH}{w:World}
theorem aD {id:Nat}{ops:Array Oper}{y:Code}(H:LG P n (fun a w=>y.wp P (gK N R X) a w) R X ops 0 Γ w):CG P n N R X (.seq (.region id ops false) y) Γ w:=CG.seq (CG.listed H)
theorem bT {c:Operand}{x y:Code}(b:CG P n N R X x Γ w)(a:fg Γ c=true:=by kernel_rfl)(hv:ev Γ c=.bool true:=by kernel_rfl):CG P n N R X (.cond c x y) Γ w:=CG.condT a hv b
theorem dv {c:Operand}{x y:Code}(b:CG P n N R X y Γ w)(a:fg Γ c=true:=by kernel_rfl)(hv:ev Γ c=.bool false:=by kernel_rfl):CG P n N R X (.cond c x y) Γ w:=CG.condF a hv b
theorem bU {c:Code}(Γ':cH)(H:CG P n N R X c Γ' w)(a:jJ Γ (Γ'.map (·.1))=Γ':=by kernel_rfl)(hd:fe Γ'=fe Γ:=by kernel_rfl):CG P n N R X c Γ w:=CG.to Γ' a hd H
theorem lN {ops:Array Oper}{k:Nat}{y:Code}{N' R':Po}{X':Nat->Po}(H:CG P n N' R' X' y Γ w)(b:(k == ops.size)=true:=by kernel_rfl):LG P n (fun a w=>y.wp P (gK N' R' X') a w) R X ops k Γ w:=LG.next b H
theorem a7 {ops:Array Oper}{k:Nat}{id:Nat}{b:Array Oper}{y:Code}{N' R':Po}{X':Nat->Po}(H:LG P n (fun a w=>y.wp P (gK N' R' X') a w) R' X' b 0 Γ w)(c:(k == ops.size)=true:=by kernel_rfl):LG P n (fun a w=>(Code.seq (.region id b false) y).wp P (gK N' R' X') a w) R X ops k Γ w:=lN (aD H) c
theorem lD {ops:Array Oper}{k:Nat}(H:∀ a,Kn n a Γ->N a w)(b:(k == ops.size)=true:=by kernel_rfl):LG P n N R X ops k Γ w:=LG.done b H
theorem lG {ops:Array Oper}{k:Nat}(t:Nat)(H:LG P n N R X ops (k+1) ((t,undef)::Γ) w)(a:(decide (k<ops.size) && ((am ops k).dst == some t) && decide (t<n))=true:=by kernel_rfl)(b:bp ops Γ (am ops k)=some false:=by kernel_rfl):LG P n N R X ops k Γ w:=LG.out t a b H
theorem SS.ret {d:Func}{Φ:Value->Hp->Prop}{w0:World}{h0:Hp}{h:Hp}{B:List Bx}{Rs:List Rw}{F:List (Hp->Prop)}(s:SS w0 h0 w h B Rs F)(b:List (Nat × Nat × Nat))(v:Value)(c:Φ v h)(hk:(nB d Γ && cB B b)=true:=by kernel_rfl)(e:bW P (nF d Γ) (dq B b)=some (v,bS B b):=by kernel_rfl):∀ a,Kn n a Γ->nx P d (Ret w0 h0 Φ) a w:=IF s.st b v hk e c
theorem SS.retM {d:Func}{rb:Nat}{Φ:Value->World->Hp->Prop}{w0 wz:World}{h0 hz:Hp}{h:Hp}{B:List Bx}{Rs:List Rw}{F:List (Hp->Prop)}(s:SS wz hz w h B Rs F)(e:UpM [rb] w0 h0 w h)(b:List (Nat × Nat × Nat))(v:Value)(c:Φ v w h)(hk:(nB d Γ && cB B b)=true:=by kernel_rfl)(f:bW P (nF d Γ) (dq B b)=some (v,bS B b):=by kernel_rfl):∀ a,Kn n a Γ->nx P d (iw rb w0 h0 Φ) a w:=Go.Proofs.YteipbelehcpooaaGreatDoor.retM s.st e b v hk f c
theorem go {f:FuncId}{a:Func}{c:Code}{args:Array Value}{d:Ending->World->Prop}(hf:P.funcs[f]?=some a)(Γ0:cH)(i:a.body=some c)(H:CG P a.ntmps (nx P a d) (nx P a d) (fun _ _ _=>False) c Γ0 w)(h:Nat.ble args.size a.ntmps=true:=by kernel_rfl)(b:Γ0=envOf args.toList:=by kernel_rfl)(e:Nat.ble a.ntmps 1000000=true:=by kernel_rfl):Calls P f args w d :=
 enter hf i rfl (Am h) (Am e) Γ0 b H
end code
section
variable {P:Program}{n:Nat}{N R N' R' R2:Po}{X X' X2:Nat->Po}{Γ:cH}{w w0:World}{h h0:Hp}{B:List Bx}{Rs:List Rw}{F:List (Hp->Prop)}{ops:Array Oper}{k:Nat}
theorem ak (t:Nat){f:FuncId}{args:Array Value}{x:Value}(s:SS w0 h0 w h B Rs F)(c:Calls P f args w (Ret w h fun v _=>v=x))(H:∀ w1 h1,SS w0 h0 w1 h1 B Rs F->LG P n N R X ops (k+1) ((t,x)::Γ) w1)(a:cL ops Γ k t n=true:=by kernel_rfl)(hr:(execOp (ev Γ) (am ops k)).run P w=.ok (.enter f args) w:=by kernel_rfl):LG P n N R X ops k Γ w:=lC t s c (fun v w1 h1 b e=>by subst e;exact H w1 h1 b) a hr
theorem ab {id:Nat}{y:Code}(s:SS w0 h0 w h B Rs F)(l:List It)(H:LG P n (fun a w=>y.wp P (gK N R X) a w) R X ops (0+l.length) (oB Γ (rq ops 0 Γ l)) w)(b:DH n ops B Γ 0 (rq ops 0 Γ l)=true:=by kernel_rfl)(c:Du P ops B Γ 0 (rq ops 0 Γ l)=(rq ops 0 Γ l).map (fun x=>some (.value x.2.1,bS B x.2.2)):=by kernel_rfl):CG P n N R X (.seq (.region id ops false) y) Γ w:=aD (lL s l H b c)
theorem ag {x y:Code}(H:CG P n (fun a w=>y.wp P (gK N' R' X') a w) R' X' x Γ w)(b:(k==ops.size)=true:=by kernel_rfl):LG P n (fun a w=>(Code.seq x y).wp P (gK N' R' X') a w) R X ops k Γ w:=lN (CG.seq H) b
theorem be {id:Nat}{c:Code}(H:CG P n N' R' (fun i=>if i=id then N' else X' i) c Γ w)(b:(k==ops.size)=true:=by kernel_rfl):LG P n (fun a w=>(Code.block id c).wp P (gK N' R' X') a w) R X ops k Γ w:=lN (CG.block H) b
theorem ai {c:Operand}{x y:Code}(H:CG P n N' R' X' y Γ w)(b:(k==ops.size)=true:=by kernel_rfl)(hi:fg Γ c=true:=by kernel_rfl)(hv:ev Γ c=.bool false:=by kernel_rfl):LG P n (fun a w=>(Code.cond c x y).wp P (gK N' R' X') a w) R X ops k Γ w:=lN (dv H hi hv) b
theorem au {c:Operand}{x y:Code}(H:CG P n N' R' X' x Γ w)(b:(k==ops.size)=true:=by kernel_rfl)(hi:fg Γ c=true:=by kernel_rfl)(hv:ev Γ c=.bool true:=by kernel_rfl):LG P n (fun a w=>(Code.cond c x y).wp P (gK N' R' X') a w) R X ops k Γ w:=lN (bT H hi hv) b
theorem af {d:Func}{Φ:Value->Hp->Prop}(s:SS w0 h0 w h B Rs F)(b:List (Nat×Nat×Nat))(v:Value)(c:Φ v h)(e:(k==ops.size)=true:=by kernel_rfl)(hk:(nB d Γ&&cB B b)=true:=by kernel_rfl)(f:bW P (nF d Γ) (dq B b)=some (v,bS B b):=by kernel_rfl):LG P n (fun a w=>Code.ret.wp P (gK N' (nx P d (Ret w0 h0 Φ)) X') a w) R X ops k Γ w:=lN (CG.ret (s.ret b v c hk f)) e
end
section drawn
variable {M:Ms}{P:Program}{n:Nat}{N R:Po}{X:Nat->Po}{ops:Array Oper}{k0:Nat}{hr:Hp}{AL:List Al}{L:Array Bool}{Γ:cH}{w:World}{h:Hp}{w0:World}{h0:Hp}{B:List Bx}{Rs:List Rw}{F:List (Hp->Prop)}
def cE (n:Nat)(ops:Array Oper)(k0:Nat)(AL:List Al)(L:Array Bool)(Γ:cH)(i t:Nat):Bool:=dz n ops k0 AL L i t && bx Γ (am ops i) && (bp ops Γ (am ops i) == some true)
def CH (n:Nat)(ops:Array Oper)(k0:Nat)(AL:List Al)(L:Array Bool)(Γ:cH)(i t:Nat):Bool:=dz n ops k0 AL L i t && bx Γ (am ops i) && iT ops k0 i && (bp ops Γ (am ops i) == some true)
def BU (n:Nat)(ops:Array Oper)(k0:Nat)(AL:List Al)(L:Array Bool)(Γ:cH)(i t:Nat):Bool:=nS n ops k0 AL L i t && bx Γ (am ops i) && (bp ops Γ (am ops i) == some true)
theorem jq {i t:Nat}(h:cE n ops k0 AL L Γ i t=true):(dz n ops k0 AL L i t && bx Γ (am ops i))=true/\bp ops Γ (am ops i)=some true:=by
 unfold cE at h;rw[ov] at h;exact ⟨h.1,by simpa using h.2⟩
theorem jY {i t:Nat}(h:CH n ops k0 AL L Γ i t=true):(dz n ops k0 AL L i t && bx Γ (am ops i) && iT ops k0 i)=true/\bp ops Γ (am ops i)=some true:=by
 unfold CH at h;rw[ov] at h;exact ⟨h.1,by simpa using h.2⟩
theorem kV {i t:Nat}(h:BU n ops k0 AL L Γ i t=true):(nS n ops k0 AL L i t && bx Γ (am ops i))=true/\bp ops Γ (am ops i)=some true:=by
 unfold BU at h;rw[ov] at h;exact ⟨h.1,by simpa using h.2⟩
theorem eV (i t:Nat)(v:Value)(H:EG M P n N R X ops k0 hr AL (L.setIfInBounds i true) ((t,v)::Γ) w h)(a:cE n ops k0 AL L Γ i t=true:=by kernel_rfl)(hv:∀ w,(execOp (ev Γ) (am ops i)).run P w=.ok (.value v) w:=by intro _;kernel_rfl):EG M P n N R X ops k0 hr AL L Γ w h :=
 Rg.pure i t v (jq a).1 (jq a).2 hv H
theorem eB (i t:Nat){e b:Bool}(c:e=b)(H:EG M P n N R X ops k0 hr AL (L.setIfInBounds i true) ((t,.bool b)::Γ) w h)(a:cE n ops k0 AL L Γ i t=true:=by kernel_rfl)(hv:∀ w,(execOp (ev Γ) (am ops i)).run P w=.ok (.value (.bool e)) w:=by intro _;kernel_rfl):EG M P n N R X ops k0 hr AL L Γ w h :=
 Rg.pure i t _ (jq a).1 (jq a).2 (fun w=>c▸hv w) H
theorem eI (i t:Nat)(m:Int)(H:EG M P n N R X ops k0 hr AL (L.setIfInBounds i true) ((t,.int .i64 m)::Γ) w h)(a:cE n ops k0 AL L Γ i t=true:=by kernel_rfl)(hv:∀ w,(execOp (ev Γ) (am ops i)).run P w=.ok (.value (.int .i64 (IntKind.wrap .i64 m))) w:=by intro _;kernel_rfl)(h0 : -9223372036854775808<=m:=by omega)(h1:m<=9223372036854775807:=by omega):EG M P n N R X ops k0 hr AL L Γ w h :=
 Rg.pure i t _ (jq a).1 (jq a).2 (fun w=>by have:=hv w;rw[gz h0 h1] at this;exact this) H
theorem nu (i t:Nat)(m:Int)(j:Nat)(H:EG M P n N R X ops k0 hr AL (L.setIfInBounds i true) ((t,.int .i64 (j:Int))::Γ) w h)(a:cE n ops k0 AL L Γ i t=true:=by kernel_rfl)(hv:∀ w,(execOp (ev Γ) (am ops i)).run P w=.ok (.value (.int .i64 (IntKind.wrap .i64 m))) w:=by intro _;kernel_rfl)(b:m=j:=by omega)(h1:m<=9223372036854775807:=by omega):EG M P n N R X ops k0 hr AL L Γ w h :=
 Rg.pure i t _ (jq a).1 (jq a).2 (fun w=>by have:=hv w;rw[gz oM h1,b] at this;exact this) H
theorem eG (i t:Nat)(H:EG M P n N R X ops k0 hr AL (L.setIfInBounds i true) ((t,undef)::Γ) w h)(a:dz n ops k0 AL L i t=true:=by kernel_rfl)(b:bp ops Γ (am ops i)=some false:=by kernel_rfl):EG M P n N R X ops k0 hr AL L Γ w h:=Rg.skip i t a b H
theorem eO (i t:Nat)(a:List (Nat × Nat × Nat))(v:Value)(s:SS w0 h0 w h B Rs F)(H:EG M P n N R X ops k0 hr AL (L.setIfInBounds i true) ((t,v)::Γ) w h)(hM:∀ p∈a,(aw B p.1).b ∉ M.l:=by intro _ _;exact List.not_mem_nil)(c:CH n ops k0 AL L Γ i t=true:=by kernel_rfl)(d:cB B a=true:=by kernel_rfl)(e:bW P (execOp (ev Γ) (am ops i)) (dq B a)=some (.value v,bS B a):=by kernel_rfl):EG M P n N R X ops k0 hr AL L Γ w h :=
 Rg.own i t a v s.st (jY c).1 (jY c).2 hM d e H
theorem eH (i t:Nat)(v:Value){b o:Nat}{cs:List Value}(s:SS w0 h0 w h B Rs F)(sg:Seg h b o cs)(H:EG M P n N R X ops k0 hr AL (L.setIfInBounds i true) ((t,v)::Γ) w h)(hM:∀ b∈M.l,h[b]?=some bc:=by intro _ hb;cases hb)(a:CH n ops k0 AL L Γ i t=true:=by kernel_rfl)(d:bW P (execOp (ev Γ) (am ops i)) cs=some (.value v,lj b o cs.length):=by kernel_rfl):EG M P n N R X ops k0 hr AL L Γ w h :=
 Rg.load i t v (jY a).1 (jY a).2 (fun _ c=>Seg.runM sg s.g hM c d) H
theorem I9 (i t:Nat)(v:Value){u:Value}{b o:Nat}{cs:List Value}(s:SS w0 h0 w h B Rs F)(sg:Seg h b o cs)(e:v=u)(H:EG M P n N R X ops k0 hr AL (L.setIfInBounds i true) ((t,u)::Γ) w h)(hM:∀ b∈M.l,h[b]?=some bc:=by intro _ hb;cases hb)(a:CH n ops k0 AL L Γ i t=true:=by kernel_rfl)(d:bW P (execOp (ev Γ) (am ops i)) cs=some (.value v,lj b o cs.length):=by kernel_rfl):EG M P n N R X ops k0 hr AL L Γ w h :=
 Rg.load i t u (jY a).1 (jY a).2 (fun _ c=>e▸Seg.runM sg s.g hM c d) H
theorem eX (i t:Nat)(A:Z9)(len b sz:Nat)(x:Int)(j:Nat)(d:A=some ⟨aB A,aO A,none⟩)(H:EG M P n N R X ops k0 hr AL (L.setIfInBounds i true) ((t,.pointer (some ⟨aB A,aO A+j*sz,none⟩))::Γ) w h)(c:cE n ops k0 AL L Γ i t=true:=by kernel_rfl)(e:Ba P (ev Γ) (am ops i)=some (.slice A len b,.int .i64 x,sz):=by kernel_rfl)(hk:x=j:=by omega)(a:j<len:=by omega):EG M P n N R X ops k0 hr AL L Γ w h :=
 Rg.pure i t _ (jq c).1 (jq c).2 (gq e d hk a) H
theorem eQ {α:Type}(i t j:Nat)(l:List α)(f:α->List Value)(sz:Nat)(d:α)(e:Nat)(v:Value)(s:SS w0 h0 w h B Rs F)(hk:e<l.length)(H:EG M P n N R X ops k0 hr AL (L.setIfInBounds i true) ((t,v)::Γ) w h)(hM:(aw B j).b ∉ M.l:=by exact List.not_mem_nil)(a:CH n ops k0 AL L Γ i t=true:=by kernel_rfl)
  (c:decide (j<B.length)=true:=by kernel_rfl)(hB:(aw B j).vs=l.flatMap f:=by kernel_rfl)(hf:∀ x,(f x).length=sz:=by intro _;rfl)
  (k:bW P (execOp (ev Γ) (am ops i)) (f (l.getD e d))=some (.value v,lj (aw B j).b (0+e*sz) (f (l.getD e d)).length):=by kernel_rfl):EG M P n N R X ops k0 hr AL L Γ w h :=
 Rg.ownA i t j l f sz d e v s.st (jY a).1 (jY a).2 hM c hB hf hk k H
theorem eC (i t:Nat){f:FuncId}{args:Array Value}{Φ:World->Hp->Value->Hp->Prop}(s:SS w0 h0 w h B Rs F)(c:∀ w1 h1,SS w0 h0 w1 h1 B Rs F->Calls P f args w1 (Ret w1 h1 (Φ w1 h1)))(H:∀ w1 h1 v w' h',SS w0 h0 w' h' B Rs F->Φ w1 h1 v h'->EG M P n N R X ops k0 hr AL (L.setIfInBounds i true) ((t,v)::Γ) w' h')(d:BU n ops k0 AL L Γ i t=true:=by kernel_rfl)(hv:∀ w,(execOp (ev Γ) (am ops i)).run P w=.ok (.enter f args) w:=by intro _;kernel_rfl):EG M P n N R X ops k0 hr AL L Γ w h :=
 Rg.call i t f args (kV d).1 (kV d).2 hv (fun w1 h1 u=>(c w1 h1 (s.step u)).mono fun e w' ⟨v,h',j,b,a⟩=>⟨v,h',j,b.m M.l,H w1 h1 v w' h' ((s.step u).step b) a⟩)
theorem eR (i t:Nat)(ty:TypeId)(m:Nat)(cs:List Value)(s:SS w0 h0 w h B Rs F)(H:∀ b w' h',SS w0 h0 w' h' B Rs ((fun h=>Seg h b 0 cs)::F)->EG M P n N R X ops k0 hr AL (L.setIfInBounds i true) ((t,.slice (some ⟨b,0,none⟩) m m)::Γ) w' h')(a:BU n ops k0 AL L Γ i t=true:=by kernel_rfl)
  (hv:∀ w,(execOp (ev Γ) (am ops i)).run P w=.ok (.value (.slice (some ⟨w.heap.size,0,none⟩) m m)) (w.alloc (.cells cs.toArray ty (0,0))):=by intro _;kernel_rfl):EG M P n N R X ops k0 hr AL L Γ w h :=
 Rg.row i t ty m cs (kV a).1 (kV a).2 hv (fun b w' h' u sg=>H b w' h' ((s.step u).a_Seg sg))
theorem eY {α:Type}(i t j:Nat)(ty:TypeId)(sz c:Nat)(A:Z9)(l:List α)(f:α->List Value)(x:α)(V b:Nat)(z:Value)(s:SS w0 h0 w h B Rs F)(sg:∀ h,AllF F h->Seg h b 0 (f x))(U:∀ b,(Value.slice A l.length c).ownBlock=some b->b∈M.l)
  (H:∀ I c' w' h',SS w0 h0 w' h' B (Rs.set j ⟨ty,sz,I,c',(l++[x]).length,(l++[x]).flatMap f⟩) F->EG M P n N R X ops k0 hr AL (L.setIfInBounds i true) ((t,.slice I (l++[x]).length c')::Γ) w' h')
  (K:BU n ops k0 AL L Γ i t=true:=by kernel_rfl)(he:Gv P (ev Γ) (am ops i)=some (.slice A l.length c,.slice (some ⟨b,0,none⟩) 1 1,ty,z,sz,V):=by kernel_rfl)(S:z.cells.size=sz:=by kernel_rfl)(p:0<sz:=by decide)
  (O:Rs.getD j default=⟨ty,sz,A,c,l.length,l.flatMap f⟩:=by kernel_rfl)(Z:decide (j<Rs.length)=true:=by kernel_rfl)(h1:(f x).all (·.oneCell')=true:=by kernel_rfl)(Y:(f x).length=1*sz:=by kernel_rfl)(hm:l.length+1<=1099511627776:=by omega)(hb:(l.length+1)*V<=140737488355328:=by omega):EG M P n N R X ops k0 hr AL L Γ w h:=by
 have d:=oT Z;refine Rg.event i t (kV K).1 (kV K).2 (fun w1 h1' u=>?_);have D:=s.step u;obtain ⟨x',y,ty',ho,hx,hy,Q,hi⟩:=xH he;have r:=D.ro _ (gx d);have o:=mS O d;rw[o] at r
 obtain ⟨v',w',a,ow,k,C⟩:=tM (P:=P) ho hx hy Q hi S p D.st r Y (mI D.g (sg _ D.f)) (fun u Q=>(o4.1 h1) u Q) hm hb;have W:=D.grown (j:=j) d (w':=w') (v':=v') (m2:=1) (news:=f x) (by rw[o];exact ow) (by rw[o];exact k) (by rw[o];exact C);rw[o] at W
 obtain ⟨h',I,c',rfl,e2,J⟩:=W;have e1:l.length+1=(l++[x]).length:=by simp
 simp only[] at J
 rw[rD,e1] at J
 rw[e1] at a
 exact .inl ⟨_,w',h',a,⟨⟨k.os,k.tape,k.output,k.size,fun c K hn=>k.block c K (fun e=>hn (U c e.symm))⟩,e2,J.g⟩,H I c' w' h' J⟩
theorem ce (s:SS w0 h0 w h B Rs F)(H:∀ w' h',SS w0 h0 w' h' B Rs F->AG M P n N R X ops k0 L Γ w')(a:gI ops [] L=true:=by kernel_rfl):EG M P n N R X ops k0 hr [] L Γ w h:=Rg.fin0 a (fun w' h' u=>H w' h' (s.step u))
theorem SS.blk {wr:World}{x:Al}{b:Nat}(d:SS w0 h0 wr hr B Rs F)(s:SS w0 h0 w h B Rs F)(k:Blk hr w h (x,b))(t:TypeId)(vs:List Value)(i:x.o=.cells vs.toArray t (0,0)):SS w0 h0 w h (⟨b,t,vs⟩::B) Rs F :=
 ⟨s.g0,St.new1 d.st s.st k t vs i,fun r a=>(s.ro r a).new b (fun c j e=>by
  have h1:=(d.ro r a).lt j;have l:hr.size<=b:=k.2.2
  omega),s.ap,s.mo,s.f⟩
theorem IV {wr:World}{x y:Al}(z:SS w0 h0 wr hr B Rs F)(s:SS w0 h0 w h B Rs F)(t:TypeId)(vs:List Value)(l:TypeId)(a:List Value)(H:∀ w' h' b c,SS w0 h0 w' h' (⟨b,t,vs⟩::⟨c,l,a⟩::B) Rs F->AG M P n N R X ops k0 ((L.setIfInBounds y.i true).setIfInBounds x.i true) ((x.t,.pointer (some ⟨b,0,none⟩))::(y.t,.pointer (some ⟨c,0,none⟩))::Γ) w')(K:(gI ops [x,y] L && decide (x.t<n) && decide (y.t<n) && (x.t != y.t) && (x.i != y.i))=true:=by kernel_rfl)(J:x.o=.cells vs.toArray t (0,0):=by kernel_rfl)(C:y.o=.cells a.toArray l (0,0):=by kernel_rfl):EG M P n N R X ops k0 hr [x,y] L Γ w h :=
 Rg.fin2 K (fun w' h' b c u k D p=>H w' h' b c ⟨s.g0,St.new2 z.st (s.st.step u) k D p t vs J l a C,fun r j=>(((s.step u).ro r j).new c (fun d hd e=>by
  have h1:=(z.ro r j).lt hd;have I:hr.size<=c:=D.2.2
  omega)).new b (fun d hd e=>by
  have h1:=(z.ro r j).lt hd;have I:hr.size<=b:=k.2.2
  omega),s.ap,s.mo,(s.step u).f⟩)
def cT (n:Nat)(ops:Array Oper)(k0:Nat)(L:Array Bool)(Γ:cH)(i t:Nat):Bool:=jm ops k0 L i && bx Γ (am ops i) && ((am ops i).dst == some t) && decide (t<n) && (bp ops Γ (am ops i) == some true)
def Hm (ops:Array Oper)(k0:Nat)(L:Array Bool)(Γ:cH)(i:Nat):Bool:=jm ops k0 L i && bx Γ (am ops i) && ((am ops i).dst == none) && (bp ops Γ (am ops i) == some true)
theorem uR {i t:Nat}(h:cT n ops k0 L Γ i t=true):(jm ops k0 L i && bx Γ (am ops i) && ((am ops i).dst == some t) && decide (t<n))=true/\bp ops Γ (am ops i)=some true:=by
 unfold cT at h;rw[ov] at h;exact ⟨h.1,by simpa using h.2⟩
theorem nN {i:Nat}(h:Hm ops k0 L Γ i=true):(jm ops k0 L i && bx Γ (am ops i) && ((am ops i).dst == none))=true/\bp ops Γ (am ops i)=some true:=by
 unfold Hm at h;rw[ov] at h;exact ⟨h.1,by simpa using h.2⟩
theorem tV (i t:Nat)(v:Value)(H:AG M P n N R X ops k0 (L.setIfInBounds i true) ((t,v)::Γ) w)(a:cT n ops k0 L Γ i t=true:=by kernel_rfl)(hv:(execOp (ev Γ) (am ops i)).run P w=.ok (.value v) w:=by kernel_rfl):AG M P n N R X ops k0 L Γ w:=T.val i t v w (uR a).1 (uR a).2 hv H
theorem tP (i j o:Nat)(cs:List Value)(s:SS w0 h0 w h B Rs F)(H:∀ w',SS w0 h0 w' h (gE B j o cs) Rs F->AG M P n N R X ops k0 (L.setIfInBounds i true) Γ w')(c:Hm ops k0 L Γ i=true:=by kernel_rfl)
  (a:(decide (j<B.length) && decide (o+cs.length<=(aw B j).vs.length))=true:=by kernel_rfl)(d:dU P (execOp (ev Γ) (am ops i))=some (.skip,nL (aw B j).b o cs):=by kernel_rfl)(hz:∀ K bs,M.z=some (K,bs)->K<=(aw B j).b\/(aw B j).b∈bs:=by intro _ _ e;cases e):AG M P n N R X ops k0 L Γ w :=
 T.put i j o cs s.st s.g0 (nN c).1 (nN c).2 a d (fun w' p f=>H w' (s.put0 (oT (ov _ _▸a).1) p f (pA (oT (ov _ _▸a).1)))) hz
theorem tW {α:Type}(i j:Nat)(l:List α)(f:α->List Value)(sz e:Nat)(x:α)(s:SS w0 h0 w h B Rs F)(hk:e<l.length)(H:∀ w',SS w0 h0 w' h (gL B j ((l.set e x).flatMap f)) Rs F->AG M P n N R X ops k0 (L.setIfInBounds i true) Γ w')(c:Hm ops k0 L Γ i=true:=by kernel_rfl)
  (a:decide (j<B.length)=true:=by kernel_rfl)(hB:(aw B j).vs=l.flatMap f:=by kernel_rfl)(hf:∀ x,(f x).length=sz:=by intro _;rfl)
  (k:dU P (execOp (ev Γ) (am ops i))=some (.skip,nL (aw B j).b (0+e*sz) (f x)):=by kernel_rfl)(hz:∀ K bs,M.z=some (K,bs)->K<=(aw B j).b\/(aw B j).b∈bs:=by intro _ _ e;cases e):AG M P n N R X ops k0 L Γ w :=
 T.putA i j l f sz e x s.st s.g0 (nN c).1 (nN c).2 a hB hf hk k (fun w' p d=>H w' (s.put0 (oT a) p d (jr (oT a)))) hz
theorem tN {y:Code}{N' R':Po}{X':Nat->Po}(H:CG P n N' R' X' y Γ w)(b:(Region.ready .any ops L).isEmpty=true:=by kernel_rfl):AG M P n (fun a w=>y.wp P (gK N' R' X') a w) R X ops k0 L Γ w:=T.next b H
theorem uy {id:Nat}{b:Array Oper}{y:Code}{N' R':Po}{X':Nat->Po}(H:LG P n (fun a w=>y.wp P (gK N' R' X') a w) R' X' b 0 Γ w)(c:(Region.ready .any ops L).isEmpty=true:=by kernel_rfl):AG M P n (fun a w=>(Code.seq (.region id b false) y).wp P (gK N' R' X') a w) R X ops k0 L Γ w:=tN (aD H) c
theorem tD (H:∀ a,Kn n a Γ->N a w)(b:(Region.ready .any ops L).isEmpty=true:=by kernel_rfl):AG M P n N R X ops k0 L Γ w:=T.done b H
theorem cR {id:Nat}{d:Bool}(k0:Nat)(AL:List Al)(c:P.follows .mixedOrders=true)(s:SS w0 h0 w h B Rs F)(b:∀ x∈AL,AlOk P ops k0 x)(H:EG ⟨[],none⟩ P n N R X ops k0 h AL (Array.replicate ops.size false) Γ w h)(a:k9 ops=true:=by kernel_rfl):CG P n N R X (.region id ops d) Γ w :=
 CG.region ⟨[],none⟩ k0 AL c a s.g b (fun _ e=>by cases e) H
end drawn
theorem aj {M:Ms}{P:Program}{n:Nat}{N R:Po}{X:Nat->Po}{ops:Array Oper}{k0:Nat}{hr:Hp}{AL:List Al}{L:Array Bool}{Γ:cH}{w w0:World}{h h0:Hp}{B:List Bx}{Rs:List Rw}{F:List (Hp->Prop)}(i t:Nat){f:FuncId}{args:Array Value}{x:Value}(s:SS w0 h0 w h B Rs F)(c:∀ w1 h1,SS w0 h0 w1 h1 B Rs F->Calls P f args w1 (Ret w1 h1 fun v _=>v=x))(H:∀ w1 h1,SS w0 h0 w1 h1 B Rs F->EG M P n N R X ops k0 hr AL (L.setIfInBounds i true) ((t,x)::Γ) w1 h1)(a:BU n ops k0 AL L Γ i t=true:=by kernel_rfl)(hv:∀ w,(execOp (ev Γ) (am ops i)).run P w=.ok (.enter f args) w:=by intro _;kernel_rfl):EG M P n N R X ops k0 hr AL L Γ w h:=eC i t s c (fun _ _ v w1 h1 b e=>by subst e;exact H w1 h1 b) a hv
theorem BA {w:World}{h:Hp}(g:G w h){b:Nat}{ty:TypeId}{vs:List Value}(j:h[b]?=some bc)(o:Own w b ty vs):∃ d,G w d/\Gw h d/\Seg d b 0 vs/\∀ c,c≠b->d[c]?=h[c]?:=by
 have a:=aF j;refine ⟨h.setIfInBounds b (.cells vs.toArray ty (0,0)),⟨by simp;exact g.size,fun c=>?_⟩,⟨by simp,fun c f=>?_⟩,fun i v hv=>?_,fun c f=>oi (Ne.symm f)⟩
 ·by_cases e:b=c
  ·subst e;left;rw[zF a];exact o.symm
  ·rw[oi e];exact g.blk c
 ·by_cases e:b=c
  ·subst e;exact .inr j
  ·left;rw[oi e]
 ·unfold dG
  rw[zF a]
  simpa using hv
theorem rY {w w':World}{h f h':Hp}{b:Nat}(j:h[b]?=some bc)(l:∀ c,c≠b->f[c]?=h[c]?)(i:f.size=h.size)(u:Up w f w' h'):∃ d,Up w h w' d:=by
 have k:=aF j;have a:b<h'.size:=e7 oM u.gr.size;refine ⟨h'.setIfInBounds b bc,u.ext,⟨by simp;rw[<-i];exact u.gr.size,fun c o=>?_⟩,⟨by simp;exact u.g.size,fun c=>?_⟩⟩
 ·by_cases e:b=c
  ·subst e;rw[zF a,j]
  ·rw[oi e,u.gr.blk c oM,l c (Ne.symm e)]
 ·by_cases e:b=c
  ·subst e;right;rw[zF a]
  ·rw[oi e];exact u.g.blk c
theorem G.sz {w:World}{h h':Hp}(g:G w h)(a:G w h'):h'.size=h.size:=by rw[<-g.size,<-a.size]
section lent
variable {M:Ms}{P:Program}{n:Nat}{N R:Po}{X:Nat->Po}{ops:Array Oper}{k k0:Nat}{hr:Hp}{AL:List Al}{L:Array Bool}{Γ:cH}{w:World}{h:Hp}{w0:World}{h0:Hp}{B:List Bx}{Rs:List Rw}{F:List (Hp->Prop)}
theorem SS.lends (s:SS w0 h0 w h B Rs F){j:Nat}(o:j<B.length){f:FuncId}{args:Array Value}{Φ:Value->Prop}(c:∀ a,G w a->AllF F a->Seg a (aw B j).b 0 (aw B j).vs->Calls P f args w (Ret w a (fun v _=>Φ v))):Calls P f args w (Ret w h (fun v _=>Φ v)):=by
 have i:=br o;obtain ⟨a,g,gw,sg,p⟩:=BA s.g (s.st.jk _ i) (s.st.own _ i);refine (c a g (s.f.gw s.mo gw) sg).mono ?_;rintro e w' ⟨v,h',x,u,d⟩;obtain ⟨k,l⟩:=rY (s.st.jk _ i) p (s.g.sz g) u;exact ⟨v,k,x,l,d⟩
theorem HW (t j:Nat){f:FuncId}{args:Array Value}{Φ:Value->Prop}(s:SS w0 h0 w h B Rs F)(c:∀ hp,G w hp->AllF F hp->Seg hp (aw B j).b 0 (aw B j).vs->Calls P f args w (Ret w hp (fun v _=>Φ v)))(H:∀ v w' h',SS w0 h0 w' h' B Rs F->Φ v->LG P n N R X ops (k+1) ((t,v)::Γ) w')(d:decide (j<B.length)=true:=by kernel_rfl)(a:cL ops Γ k t n=true:=by kernel_rfl)(hr:(execOp (ev Γ) (am ops k)).run P w=.ok (.enter f args) w:=by kernel_rfl):LG P n N R X ops k Γ w :=
 lC t s (s.lends (oT d) c) H a hr
end lent
section unroll
variable {P:Program}{n:Nat}{N R:Po}{X:Nat->Po}{Γ:cH}{w:World}
def IX (P:Program)(N R:Po)(X:Nat->Po)(c:Code)(a:Act)(w:World):Prop:=∀ (b:Frame) (k:List Item) (cs:List Frame),∃ e a' w',gK N R X e a' w'/\Arrives P (lone (b.at a (.code c::.inLoop c::k)) cs w) b k cs e a' w'
def CL (P:Program)(n:Nat)(N R:Po)(X:Nat->Po)(c:Code)(Γ:cH)(w:World):Prop:=∀ a,Kn n a Γ->IX P N R X c a w
theorem cU {c:Code}(H:CL P n N R X c Γ w):CG P n N R X (.loop c) Γ w:=fun a f b k cs=>by
 obtain ⟨e,a',w',h,d⟩:=H a f b k cs;exact ⟨e,a',w',h,.of_steps (.one step_loop) d⟩
theorem cN {c:Code}(H:CG P n (IX P N R X c) R X c Γ w):CL P n N R X c Γ w:=fun a z b k cs=>by
  obtain ⟨e,h,i,o,d⟩:=H a z b (.inLoop c::k) cs;cases e with
  | normal =>
    obtain ⟨y,p,u,j,f⟩:=o b k cs;exact ⟨y,p,u,j,.of_steps (Steps.trans d (.one step_inLoop)) f⟩
  | exit id=>exact ⟨.exit id,h,i,o,.pass (x:=.inLoop c) rfl (fun _ _=>.inl (by simp)) d⟩
  | goto l=>exact o.elim
  | ret=>exact ⟨.ret,h,i,o,.pass (x:=.inLoop c) rfl (fun _ _=>.inl (by simp)) d⟩
  | panic ch=>exact o.elim
  | outgrown=>exact o.elim
theorem CL.to {c:Code}(Γ':cH)(H:CL P n N R X c Γ' w)(d:jJ Γ (Γ'.map (·.1))=Γ':=by kernel_rfl)(hd:fe Γ'=fe Γ:=by kernel_rfl):CL P n N R X c Γ w:=fun a b=>H a (b.to Γ' d hd)
end unroll
theorem Gw.refl (h:Hp):Gw h h:=⟨ey _,fun _ _=>.inl rfl⟩
theorem Gw.trans {a b c:Hp}(u:Gw a b)(v:Gw b c):Gw a c:=⟨e6 u.size v.size,fun x d=>by
 rcases u.blk x d with e|e
 ·rcases v.blk x (e7 d u.size) with e2|e2
  ·exact .inl (e2.trans e)
  ·exact .inr (e.symm.trans e2)
 ·exact .inr e⟩
def Nw (K:Nat)(h:Hp)(b:Nat)(t:TypeId)(cs:List Value):Prop:=K<=b/\t≠0/\h[b]?=some (.cells cs.toArray t (0,0))
theorem Nw.gw {K:Nat}{h h':Hp}{b:Nat}{t:TypeId}{cs:List Value}(x:Nw K h b t cs)(u:Gw h h'):Nw K h' b t cs:=by
 obtain ⟨h1,c,a⟩:=x;refine ⟨h1,c,?_⟩
 rcases u.blk b (aF a) with e|e
 ·exact e.trans a
 ·rw[e] at a
  injection a with a
  unfold bc at a
  injection a with _ h4
  exact absurd h4.symm c
theorem Nw.seg {K:Nat}{h:Hp}{b:Nat}{t:TypeId}{cs sp:List Value}(x:Nw K h b t (cs++sp)):Seg h b 0 cs:=fun i v hv=>by
 unfold dG
 rw[x.2.2];have hi:i<cs.length:=(At.1 hv).1
 simp only[yW,List.getElem?_toArray]
 rw[yC hi];exact hv
theorem Nw.seg0 {K:Nat}{h:Hp}{b:Nat}{t:TypeId}{cs:List Value}(x:Nw K h b t cs):Seg h b 0 cs:=Nw.seg (sp:=[]) (by rw[List.append_nil];exact x)
section laws
variable {M:Ms}{P:Program}{n:Nat}{N R:Po}{X:Nat->Po}{ops:Array Oper}{k k0:Nat}{hr:Hp}{AL:List Al}{L:Array Bool}{Γ:cH}{w:World}{h:Hp}{w0:World}{h0:Hp}{B:List Bx}{Rs:List Rw}{F:List (Hp->Prop)}
theorem SlO.flat {α:Type}{sz:Nat}{f:α->List Value}{d:α}{A:Z9}:∀ {l:List α},(∀ x,(f x).length=sz)->SlO sz f d h A l->Seg h (aB A) (aO A) (l.flatMap f)
  | l,hf,s=>fun i v hv=>by
    have hi:i<(l.flatMap f).length:=(At.1 hv).1;rw[eJ hf] at hi
    rcases zT sz with h0'|hp
    . subst h0';simp at hi
    . have hk:i/sz<l.length:=(Av hp).2 hi
      have hr:i%sz<sz:=y5 _ hp;have b:=s.el (i/sz) hk (i%sz) v;have hd:=eP hf d l (i/sz) hk;have a:i/sz*sz+i%sz=i:=by rw[Az];exact Nat.div_add_mod i sz
      have:=b (by rw[<-hd,yD hr,yE,a];exact hv)
      rwa [yI,a] at this
theorem uI {b o:Nat}{news:List Value}(g:G w h)(sg:Seg h b o news):∀ j u,news[j]?=some u->w.cell? ((⟨b,o,none⟩:Addr).add j)=some u:=by
 intro j u a;have:=iW g (sg j u a)
 unfold Addr.add
 split
 ·rename_i h0;subst h0;exact this
 ·exact this
theorem tH (j o:Nat)(cs:List Value)(s:SS w0 h0 w h B Rs F)(H:∀ w',Put (aw B j).b w w'->SS w0 h0 w' h (gE B j o cs) Rs F->LG P n N R X ops (k+1) Γ w')(c:cS ops Γ k=true:=by kernel_rfl)
  (a:(decide (j<B.length) && decide (o+cs.length<=(aw B j).vs.length))=true:=by kernel_rfl)(e:dU P (execOp (ev Γ) (am ops k))=some (.skip,nL (aw B j).b o cs):=by kernel_rfl):LG P n N R X ops k Γ w :=
 LG.put j o cs s.st s.g0 (gi c).1 (gi c).2 a e (fun w' p d=>H w' p (s.put0 (oT (ov _ _▸a).1) p d (pA (oT (ov _ _▸a).1))))
theorem tX (i t:Nat)(A:Z9)(len b sz:Nat)(x:Int)(j:Nat)(d:A=some ⟨aB A,aO A,none⟩)(H:AG M P n N R X ops k0 (L.setIfInBounds i true) ((t,.pointer (some ⟨aB A,aO A+j*sz,none⟩))::Γ) w)(c:cT n ops k0 L Γ i t=true:=by kernel_rfl)(e:Ba P (ev Γ) (am ops i)=some (.slice A len b,.int .i64 x,sz):=by kernel_rfl)(hk:x=j:=by omega)(a:j<len:=by omega):AG M P n N R X ops k0 L Γ w :=
 T.val i t _ w (uR c).1 (uR c).2 (gq e d hk a w) H
theorem eK {α:Type}(i t:Nat)(ty:TypeId)(m sz p:Nat)(z:Value)(f:α->List Value)(d:α)(s:SS w0 h0 w h B Rs F)(H:∀ b w' h',SS w0 h0 w' h' (⟨b,ty,(y2 m d).flatMap f⟩::B) Rs F->EG M P n N R X ops k0 hr AL (L.setIfInBounds i true) ((t,.slice (some ⟨b,0,none⟩) m m)::Γ) w' h')(y:BU n ops k0 AL L Γ i t=true:=by kernel_rfl)
  (D:H4 P (ev Γ) (am ops i)=some (.int .i64 (m:Int),.int .i64 (m:Int),ty,z,sz,p):=by kernel_rfl)(j:z.cells.toList=f d:=by kernel_rfl)(o:z.cells.size=sz:=by kernel_rfl)(c:0<sz:=by decide)(C:p*m<=140737488355328:=by omega)(k:m<9223372036854775808:=by omega):EG M P n N R X ops k0 hr AL L Γ w h :=
 Rg.event i t (kV y).1 (kV y).2 (fun w1 h1 u=>by
  have a:=s.step u;have e:Up w1 h1 (w1.alloc (.cells ((y2 m d).flatMap f).toArray ty (0,0))) (h1.push bc):=Up.allocAny a.g _ _ (.inr rfl);refine .inl ⟨_,_,_,tg D j o c C k w1,e.m M.l,H _ _ _ (a.new e (by rw[a.g.size];exact ey _) (St.new1 (x:=⟨0,0,.cells ((y2 m d).flatMap f).toArray ty (0,0)⟩) a.st (a.st.step e) ⟨?_,?_,?_⟩ ty _ rfl))⟩
  ·rw[heap_alloc];exact gp
  ·rw[a.g.size];exact gp
  ·show h1.size<=w1.heap.size;rw[a.g.size];exact ey _)
theorem SS.blkp {F1:List (Hp->Prop)}{wr:World}{x:Al}{b:Nat}(pre:List Bx)(i:SS w0 h0 wr hr B Rs F1)(s:SS w0 h0 w h (pre++B) Rs F)(k:Blk hr w h (x,b))(t:TypeId)(vs:List Value)(l:x.o=.cells vs.toArray t (0,0))(p:pre.all (fun y=>y.t != t)=true):SS w0 h0 w h (⟨b,t,vs⟩::(pre++B)) Rs F :=
 ⟨s.g0,St.new i.st s.st (fun y a=>by
  rcases g5.1 a with a|a
  ·right
   intro e;have h1:=s.st.own y (List.mem_append_left _ a);have j:w.heap[b]?=some x.o:=k.1
   unfold Own at h1
   rw[e,j,l] at h1
   injection h1 with h1
   injection h1 with _ h3
   have:=(o4.1 p) y a
   simp only[bne_iff_ne,ne_eq] at this
   exact this h3.symm
  ·exact .inl (aF (i.st.jk y a))) k t vs l,fun r d=>(s.ro r d).new b (fun c u e=>by
  have h1:=(i.ro r d).lt u;have j:hr.size<=b:=k.2.2
  omega),s.ap,s.mo,s.f⟩
theorem eU {F1:List (Hp->Prop)}{wr:World}{x:Al}(pre:List Bx)(c:SS w0 h0 wr hr B Rs F1)(s:SS w0 h0 w h (pre++B) Rs F)(t:TypeId)(vs:List Value)(H:∀ w' h' b,SS w0 h0 w' h' (⟨b,t,vs⟩::(pre++B)) Rs F->AG M P n N R X ops k0 (L.setIfInBounds x.i true) ((x.t,.pointer (some ⟨b,0,none⟩))::Γ) w')(e:(gI ops [x] L && decide (x.t<n))=true:=by kernel_rfl)(a:x.o=.cells vs.toArray t (0,0):=by kernel_rfl)(d:pre.all (fun y=>y.t != t)=true:=by kernel_rfl):EG M P n N R X ops k0 hr [x] L Γ w h :=
 Rg.fin1 e (fun w' h' b u k=>H w' h' b (SS.blkp pre c (s.step u) k t vs a d))
end laws
theorem SS.at_ {w:World}{h:Hp}{rb:Nat}{t:TypeId}{vs:List Value}(g:G w h)(o:Own w rb t vs)(j:h[rb]?=some bc):∃ w0 h0,SS w0 h0 w h [⟨rb,t,vs⟩] [] []:=by
 obtain ⟨w0,h0,b,st⟩:=St.at_ g o j;exact ⟨w0,h0,b,st,fun _ a=>(by cases a),.nil,fun _ a=>(by cases a),trivial⟩
theorem SlO.take {α:Type}{sz:Nat}{f:α->List Value}{d:α}{h:Hp}{A:Z9}{l:List α}(s:SlO sz f d h A l)(k:Nat):SlO sz f d h A (l.take k) :=
 ⟨fun a=>s.ok (by rw[A2] at a;omega),fun i hi=>by
  rw[A2] at hi
  have:=s.el i oM
  rwa [A4,yD oM,<-A4]⟩
theorem SlO.drop {α:Type}{sz:Nat}{f:α->List Value}{d:α}{h:Hp}{A:Z9}{l:List α}(s:SlO sz f d h A l)(k c:Nat)(j:l.length<=c):SlO sz f d h (if c=k then A else A.map (·.add (k*sz))) (l.drop k):=by
 rcases ep k l.length with hk|hk
 ·rw[if_neg oM]
  have b:=s.ok oM
  have a:(⟨aB A,aO A,none⟩:Addr).add (k*sz)=⟨aB A,aO A+k*sz,none⟩:=by
   unfold Addr.add
   split
   ·rename_i h0;rw[h0];rfl
   ·rfl
  have e:A.map (·.add (k*sz))=some ⟨aB A,aO A+k*sz,none⟩:=by rw[b];simp only[yr,aB,aO] at a ⊢;rw[<-a]
  refine ⟨fun _=>by rw[e];rfl,fun i hi=>?_⟩;rw[e]
  show Seg h (aB A) (aO A+k*sz+i*sz) _
  rw[A5] at hi
  have:=s.el (k+i) oM;rw[Nat.add_mul,<-yI] at this
  rwa [A4,yE,<-A4]
 ·rw[yT hk];exact SlO.nil
theorem mc (x y:Int):(if y>x then y else x)=max x y:=by omega
theorem vy (x y:Int):(if y<x then y else x)=min x y:=by omega
section z
variable {bs:List Nat}{P:Program}{n:Nat}{N R:Po}{X:Nat->Po}{ops:Array Oper}{k0:Nat}{hr:Hp}{AL:List Al}{L:Array Bool}{Γ:cH}{w wr:World}{h:Hp}{w0:World}{h0:Hp}{B:List Bx}{Rs:List Rw}{F F1:List (Hp->Prop)}
abbrev Mz (hr:Hp)(bs:List Nat):Ms:=⟨[],some (hr.size,bs)⟩
theorem kT {id:Nat}{d:Bool}(k0:Nat)(AL:List Al)(bs:List Nat)(c:P.follows .mixedOrders=true)(s:SS w0 h0 w h B Rs F)(b:∀ x∈AL,AlOk P ops k0 x)(H:EG (Mz h bs) P n N R X ops k0 h AL (Array.replicate ops.size false) Γ w h)(a:k9 ops=true:=by kernel_rfl):CG P n N R X (.region id ops d) Γ w :=
 CG.region (Mz h bs) k0 AL c a s.g b (fun _ e=>by cases e) H
theorem D3 (c:SS w0 h0 wr hr B Rs F1)(s:SS w0 h0 w h B Rs F){w':World}(d:∀ b,b<hr.size->b ∉ bs->b ∉ ([]:List Nat)->w'.heap[b]?=w.heap[b]?):∀ x∈B,x.b ∉ bs->Own w' x.b x.t x.vs:=fun x a e =>
 (d x.b (aF (c.st.jk x a)) e List.not_mem_nil).trans (s.st.own x a)
theorem jW (i t:Nat)(a:List (Nat × Nat × Nat))(v:Value)(d:SS w0 h0 wr hr B Rs F1)(s:SS w0 h0 w h B Rs F)(H:EG (Mz hr bs) P n N R X ops k0 hr AL (L.setIfInBounds i true) ((t,v)::Γ) w h)(hM:∀ p∈a,(aw B p.1).b ∉ bs:=by intro _ _;exact List.not_mem_nil)(c:cE n ops k0 AL L Γ i t=true:=by kernel_rfl)(e:cB B a=true:=by kernel_rfl)(j:bW P (execOp (ev Γ) (am ops i)) (dq B a)=some (.value v,bS B a):=by kernel_rfl):EG (Mz hr bs) P n N R X ops k0 hr AL L Γ w h :=
 Rg.loadZ i t v rfl (jq c).1 (jq c).2 (fun w' f=>bY _ _ _ _ j (ii hM (D3 d s f) a (fun _ h=>h) e)) H
theorem Hy {α:Type}(i t j:Nat)(l:List α)(f:α->List Value)(sz:Nat)(d:α)(e:Nat)(v:Value)(y:SS w0 h0 wr hr B Rs F1)(s:SS w0 h0 w h B Rs F)(hk:e<l.length)(H:EG (Mz hr bs) P n N R X ops k0 hr AL (L.setIfInBounds i true) ((t,v)::Γ) w h)(hM:(aw B j).b ∉ bs:=by exact List.not_mem_nil)(k:cE n ops k0 AL L Γ i t=true:=by kernel_rfl)
  (p:decide (j<B.length)=true:=by kernel_rfl)(hB:(aw B j).vs=l.flatMap f:=by kernel_rfl)(hf:∀ x,(f x).length=sz:=by intro _;rfl)
  (D:bW P (execOp (ev Γ) (am ops i)) (f (l.getD e d))=some (.value v,lj (aw B j).b (0+e*sz) (f (l.getD e d)).length):=by kernel_rfl):EG (Mz hr bs) P n N R X ops k0 hr AL L Γ w h :=
 Rg.loadZ i t v rfl (jq k).1 (jq k).2 (fun w' o=>bY _ _ _ _ D (fun q a u z c=>by
  rw[eE _ _ _ _ _ z,(D3 y s o _ (br (oT p)) hM).cell,hB];rw[<-eP hf d l e hk] at c
  have C:q<sz:=by
   rcases ep q sz with hl|hl
   ·exact hl
   ·rw[x4 (by simp;omega)] at c;cases c
  rw[yD C,yE] at c
  rw[yW];exact c)) H
theorem xd {x y:Al}(z:SS w0 h0 wr hr B Rs F)(s:SS w0 h0 w h B Rs F)(t:TypeId)(vs:List Value)(l:TypeId)(a:List Value)(H:∀ w' h' b c,hr.size<=b->hr.size<=c->SS w0 h0 w' h' (⟨b,t,vs⟩::⟨c,l,a⟩::B) Rs F->AG (Mz hr bs) P n N R X ops k0 ((L.setIfInBounds y.i true).setIfInBounds x.i true) ((x.t,.pointer (some ⟨b,0,none⟩))::(y.t,.pointer (some ⟨c,0,none⟩))::Γ) w')(K:(gI ops [x,y] L && decide (x.t<n) && decide (y.t<n) && (x.t != y.t) && (x.i != y.i))=true:=by kernel_rfl)(J:x.o=.cells vs.toArray t (0,0):=by kernel_rfl)(C:y.o=.cells a.toArray l (0,0):=by kernel_rfl):EG (Mz hr bs) P n N R X ops k0 hr [x,y] L Γ w h :=
 Rg.fin2 K (fun w' h' b c u k D p=>H w' h' b c k.2.2 D.2.2 ⟨s.g0,St.new2 z.st (s.st.step u) k D p t vs J l a C,fun r j=>(((s.step u).ro r j).new c (fun d hd e=>by
  have h1:=(z.ro r j).lt hd;have I:hr.size<=c:=D.2.2
  omega)).new b (fun d hd e=>by
  have h1:=(z.ro r j).lt hd;have I:hr.size<=b:=k.2.2
  omega),s.ap,s.mo,(s.step u).f⟩)
theorem fb {b:Nat}(c:hr.size<=b):∀ K a,(Mz hr bs).z=some (K,a)->K<=b\/b∈a:=fun K a e=>by
 injection e with e
 injection e with e1 e2
 subst e1;exact .inl c
theorem a6 {b:Nat}(c:b∈bs):∀ K a,(Mz hr bs).z=some (K,a)->K<=b\/b∈a:=fun K a e=>by
 injection e with e
 injection e with e1 e2
 subst e2;exact .inr c
end z
theorem mixed:Tryz.prog.follows .mixedOrders=true:=by kernel_rfl
theorem rb {s:Result Next}{e b:Bool}{w:World}(h:s=.ok (.value (.bool e)) w)(a:e=b):s=.ok (.value (.bool b)) w:=a▸h
theorem ba {s:Result Next}{k:IntKind}{n m:Int}{w:World}(h:s=.ok (.value (.int k n)) w)(e:n=m):s=.ok (.value (.int k m)) w:=e▸h
theorem rU {s:Result Next}{m:Int}{w:World}(x:Int)(h:s=.ok (.value (.int .u64 (IntKind.wrap .u64 x))) w)(e:IntKind.wrap .u64 x=m):s=.ok (.value (.int .u64 m)) w:=ba (n:=IntKind.wrap .u64 x) h e
theorem rS {s:Result Next}{m:Int}{w:World}(x:Int)(h:s=.ok (.value (.int .i64 (IntKind.wrap .i64 x))) w)(e:IntKind.wrap .i64 x=m):s=.ok (.value (.int .i64 m)) w:=ba (n:=IntKind.wrap .i64 x) h e
theorem rT {s:Result Next}{m:Int}{w:World}(x:Int)(h:s=.ok (.value (.int .u32 (IntKind.wrap .u32 x))) w)(e:IntKind.wrap .u32 x=m):s=.ok (.value (.int .u32 m)) w:=ba (n:=IntKind.wrap .u32 x) h e
theorem BB (n:Nat):IntKind.wrap .u8 (n:Int)=((n%256:Nat):Int):=by rw[IntKind.wrap_u8];omega
theorem wd (n:Nat):IntKind.wrap .u32 (n:Int)=((n%4294967296:Nat):Int):=by rw[IntKind.wrap_u32];omega
theorem AW (n:Nat):IntKind.wrap .u64 (n:Int)=((n%18446744073709551616:Nat):Int):=by rw[IntKind.wrap_u64];omega
theorem s7 {n:Int}(h0:0<=n)(h:n<4294967296):IntKind.wrap .u32 n=n:=by rw[IntKind.wrap_u32];omega
theorem bX {n:Int}(h0:0<=n)(h:n<18446744073709551616):IntKind.wrap .u64 n=n:=by rw[IntKind.wrap_u64];omega
theorem l6 {n:Int}(h0 : -9223372036854775808<=n)(h:n<9223372036854775808):IntKind.wrap .i64 n=n:=by rw[IntKind.wrap_i64];omega
theorem HD {n:Nat}(h:n<4294967296):IntKind.wrap .u32 (n:Int)=(n:Int):=by rw[IntKind.wrap_u32];omega
theorem GT {n:Nat}(h:n<18446744073709551616):IntKind.wrap .u64 (n:Int)=(n:Int):=by rw[IntKind.wrap_u64];omega
theorem HE {n:Nat}(h:n<9223372036854775808):IntKind.wrap .i64 (n:Int)=(n:Int):=by rw[IntKind.wrap_i64];omega
theorem lh (a b:Nat):Int.fdiv (a:Int) (b:Int)=((a/b:Nat):Int):=by rw[A7 _ oM];simp
theorem tE (a b:Nat):A8 (a:Int) (b:Int)=((a/b:Nat):Int):=rfl
theorem dY (a b:Nat):Int.tmod (a:Int) (b:Int)=((a%b:Nat):Int):=rfl
theorem l8 (a b:Nat)(h:a<18446744073709551616):IntKind.wrap .u64 (A8 (a:Int) (b:Int))=((a/b:Nat):Int):=by rw[tE];exact GT (A9 (Bb _ _) h)
theorem dV (a b:Nat)(h:a<9223372036854775808):IntKind.wrap .i64 (A8 (a:Int) (b:Int))=((a/b:Nat):Int):=by rw[tE];exact HE (A9 (Bb _ _) h)
section div
variable {P:Program}{Γ:cH}{o:Oper}
theorem dZ {t u:TypeId}{x y:Operand}{k:IntKind}{a b:Int}(c:o.op=.binOp .quo t x y u)(f:ev Γ x=.int k a)(d:ev Γ y=.int k b)(e:b≠0)(w:World) :
  (execOp (ev Γ) o).run P w=.ok (.value (.int k (k.wrap (a.tdiv b)))) w:=by
 unfold execOp;simp only[c];rw[f,d]
 simp[binOp,eqGuard,Op.intDiv,e,Result.andThen]
theorem gn {t u:TypeId}{x y:Operand}{k:IntKind}{a b:Int}(c:o.op=.binOp .rem t x y u)(f:ev Γ x=.int k a)(d:ev Γ y=.int k b)(e:b≠0)(w:World) :
  (execOp (ev Γ) o).run P w=.ok (.value (.int k (a.tmod b))) w:=by
 unfold execOp;simp only[c];rw[f,d]
 simp[binOp,eqGuard,Op.intDiv,e,Result.andThen]
theorem Hk {t u:TypeId}{x y:Operand}{k ky:IntKind}{a:Int}{n:Nat}(b:o.op=.binOp .shl t x y u)(e:ev Γ x=.int k a)(d:ev Γ y=.int ky (n:Int))(f:n<=k.bits)(w:World) :
  (execOp (ev Γ) o).run P w=.ok (.value (.int k (k.wrap (a*2^n)))) w:=by
 unfold execOp;simp only[b];rw[e,d]
 have c:min n k.bits=n:=by omega
 have hz:¬((n:Int)<0):=by omega
 simp[binOp,eqGuard,Op.shift,Result.andThen,c,hz]
theorem HO {t u:TypeId}{x y:Operand}{k ky:IntKind}{a:Int}{n:Nat}(b:o.op=.binOp .shr t x y u)(f:ev Γ x=.int k a)(e:ev Γ y=.int ky (n:Int))(h:n<=k.bits)(w:World) :
  (execOp (ev Γ) o).run P w=.ok (.value (.int k (a/2^n))) w:=by
 unfold execOp;simp only[b];rw[f,e]
 have c:min n k.bits=n:=by omega
 have hz:¬((n:Int)<0):=by omega
 have d:(0:Int)<=2^n:=Int.pow_nonneg kD
 simp[binOp,eqGuard,Op.shift,Result.andThen,c,hz,A7 _ d]
theorem j5 {t u:TypeId}{x y:Operand}{a b:Nat}(c:o.op=.binOp .or t x y u)(h:ev Γ x=.int .u64 (a:Int))(d:ev Γ y=.int .u64 (b:Int))(i:a<18446744073709551616)(f:b<18446744073709551616)(w:World) :
  (execOp (ev Γ) o).run P w=.ok (.value (.int .u64 ((a ||| b:Nat):Int))) w:=by
 unfold execOp;simp only[c];rw[h,d]
 have e:bits .or .u64 (a:Int) (b:Int)=((a ||| b:Nat):Int):=by
  unfold bits
  have h1:(BitVec.ofInt 64 (a:Int) ||| BitVec.ofInt 64 (b:Int)).toNat=a ||| b:=by
   rw[BitVec.toNat_or]
   congr 1<;>(simp[BitVec.toNat_ofInt];omega)
  show IntKind.wrap .u64 (((BitVec.ofInt 64 (a:Int) ||| BitVec.ofInt 64 (b:Int)).toNat:Nat):Int)=_
  rw[h1];have:=Bg (n:=64) i f;exact bX oM oM
 simp[binOp,eqGuard,Result.andThen,intBits_or,e]
theorem Eh {t u:TypeId}{x y:Operand}{a b:Nat}(c:o.op=.binOp .or t x y u)(h:ev Γ x=.int .u32 (a:Int))(d:ev Γ y=.int .u32 (b:Int))(i:a<4294967296)(f:b<4294967296)(w:World) :
  (execOp (ev Γ) o).run P w=.ok (.value (.int .u32 ((a ||| b:Nat):Int))) w:=by
 unfold execOp;simp only[c];rw[h,d]
 have e:bits .or .u32 (a:Int) (b:Int)=((a ||| b:Nat):Int):=by
  unfold bits
  have h1:(BitVec.ofInt 32 (a:Int) ||| BitVec.ofInt 32 (b:Int)).toNat=a ||| b:=by
   rw[BitVec.toNat_or]
   congr 1<;>(simp[BitVec.toNat_ofInt];omega)
  show IntKind.wrap .u32 (((BitVec.ofInt 32 (a:Int) ||| BitVec.ofInt 32 (b:Int)).toNat:Nat):Int)=_
  rw[h1];have:=Bg (n:=32) i f;exact s7 oM oM
 simp[binOp,eqGuard,Result.andThen,intBits_or,e]
end div
def lo (n:Nat):Int:=((n%18446744073709551616:Nat):Int)
def wb:Nat->Nat->List UInt8
  | 0,_=>[]
  | f+1,m=>if m=0 then [] else (po 8).map (fun k=>UInt8.ofNat (m/256^k))++wb f (m/18446744073709551616)
def hi (n:Nat):ByteArray:=⟨(wb n (n/18446744073709551616)).toArray⟩
abbrev uX (r k:Rat)(s b t:Int)(d:Nat):Value:=.agg #[.bool (av r.num),uV (lo (ac r.num)),.string (hi (ac r.num)),uV (lo (qd r)),.string (hi (qd r)),.bool (av k.num),uV (lo (ac k.num)),.string (hi (ac k.num)),uV (lo (qd k)),.string (hi (qd k)),iV s,iV b,iV t,mV d]
abbrev uC (r k:Rat)(s b t:Int)(d:Nat):List Value:=[.bool (av r.num),uV (lo (ac r.num)),.string (hi (ac r.num)),uV (lo (qd r)),.string (hi (qd r)),.bool (av k.num),uV (lo (ac k.num)),.string (hi (ac k.num)),uV (lo (qd k)),.string (hi (qd k)),iV s,iV b,iV t,mV d]
abbrev qX (q:Rat):Value:=.agg #[.bool (av q.num),uV (lo (ac q.num)),.string (hi (ac q.num)),uV (lo (qd q)),.string (hi (qd q))]
abbrev qC (q:Rat):List Value:=[.bool (av q.num),uV (lo (ac q.num)),.string (hi (ac q.num)),uV (lo (qd q)),.string (hi (qd q))]
abbrev qY (q:Rat)(A:Z9)(m c:Nat):Value:=.agg #[.bool (av q.num),uV (lo (ac q.num)),.string (hi (ac q.num)),uV (lo (qd q)),.string (hi (qd q)),.slice A m c]
abbrev qZ (q:Rat)(A:Z9)(m c:Nat):List Value:=[.bool (av q.num),uV (lo (ac q.num)),.string (hi (ac q.num)),uV (lo (qd q)),.string (hi (qd q)),.slice A m c]
abbrev wX (b:Value)(m:Nat):Value:=.agg #[b,uV (lo m),.string (hi m)]
abbrev wC (b:Value)(m:Nat):List Value:=[b,uV (lo m),.string (hi m)]
def nc (n:Nat):List Value:=[.int .u64 (lo n),.string (hi n)]
def nv (n:Nat):Value:=.agg #[.int .u64 (lo n),.string (hi n)]
def ic (z:Int):List Value:=[.bool (av z),.int .u64 (lo (ac z)),.string (hi (ac z))]
def iv (z:Int):Value:=.agg #[.bool (av z),.int .u64 (lo (ac z)),.string (hi (ac z))]
def qc (q:Rat):List Value:=[.bool (av q.num),.int .u64 (lo (ac q.num)),.string (hi (ac q.num)),.int .u64 (lo (qd q)),.string (hi (qd q))]
abbrev Sq (A:Z9)(l:List Rat):Hp->Prop:=fun h_=>SlO 5 qc 0 h_ A l
def qv (q:Rat):Value:=.agg #[.bool (av q.num),.int .u64 (lo (ac q.num)),.string (hi (ac q.num)),.int .u64 (lo (qd q)),.string (hi (qd q))]
theorem jC {n:Nat}(h:n<18446744073709551616):lo n=(n:Int):=by unfold lo;rw[y4 h]
theorem mA {n:Nat}(h:n<18446744073709551616):hi n=⟨#[]⟩:=by
 unfold hi;rw[Bs h];cases n<;>rfl
def dP:List Nat->Nat
  | []=>0
  | x::l=>x+4294967296*dP l
def qo:Nat->Nat->List Nat
  | 0,_=>[]
  | f+1,n=>if n=0 then [] else n%4294967296::qo f (n/4294967296)
def lim (n:Nat):List Nat:=qo n n
abbrev DU (q:Rat)(A:Z9)(c:Nat)(D:Z9)(d:Nat):List Value:=[.bool (av q.num),.slice A (lim (ac q.num)).length c,.slice D (lim q.den).length d]
abbrev rG (q:Rat)(A:Z9)(c:Nat)(D:Z9)(d:Nat):Value:=.agg #[.bool (av q.num),.slice A (lim (ac q.num)).length c,.slice D (lim q.den).length d]
theorem tA:∀ (f g n:Nat),n<=f->n<=g->qo f n=qo g n
  | 0,g,n,hf,hg=>by
    have:n=0:=by omega
    subst this;cases g<;>rfl
  | f+1,0,n,hf,hg=>by
    have:n=0:=by omega
    subst this
    rfl
  | f+1,g+1,n,hf,hg=>by
    unfold qo
    split
    . rfl
    . rw[tA f g (n/4294967296) oM oM]
theorem gW:lim 0=[]:=rfl
theorem fo {n:Nat}(h:0<n):lim n=n%4294967296::lim (n/4294967296):=by
 unfold lim
 obtain ⟨m,rfl⟩:∃ m,n=m+1:=⟨n-1,by omega⟩;rw[qo,if_neg oM];rw[tA m _ _ oM (ey _)]
theorem Cn {n:Nat}(h0:0<n)(h:n<4294967296):lim n=[n]:=by
 rw[fo h0,y4 h,Bs h,gW]
theorem fX (n:Nat):dP (lim n)=n:=by
  induction n using la with
  | _ n ih =>
    rcases zT n with h|h
    . subst h;rfl
    . rw[fo h,dP,ih (n/4294967296) oM]
      omega
theorem kB (n:Nat):∀ x∈lim n,x<4294967296:=by
  induction n using la with
  | _ n ih =>
    rcases zT n with h|h
    . subst h;intro x a;cases a
    . rw[fo h]
      intro x a
      rcases hP.1 a with rfl|a
      . omega
      . exact ih _ oM x a
theorem d6 {n:Nat}:0<(lim n).length↔0<n:=by
 rcases zT n with h|h
 ·subst h;simp[gW]
 ·rw[fo h];simp[h]
theorem sE {n:Nat}:lim n=[]↔n=0:=by
 constructor
 ·intro h;rcases zT n with h0|h0;exact h0;rw[fo h0] at h;cases h
 ·rintro rfl;rfl
theorem ie {n k:Nat}(h:n<4294967296^k):(lim n).length<=k:=by
  induction k generalizing n with
  | zero => have:n=0:=by simpa using h
            subst this;simp[gW]
  | succ k ih =>
    rcases zT n with h0|h0
    . subst h0;simp[gW]
    . rw[fo h0]
      have:n/4294967296<4294967296^k:=B0 (by rw[B2,Az] at h;exact h);have:=ih this
      simp
      omega
def tl (l:List Nat):Nat->Nat
  | 0=>0
  | n+1=>if l.getD n 0=0 then tl l n else n+1
theorem jf (l:List Nat):∀ n,tl l n<=n
 | 0=>ey _
 | n+1=>by unfold tl;split;exact Nat.le_succ_of_le (jf l n);exact ey _
theorem nM {l:List Nat}{n:Nat}(h:n=0\/l.getD (n-1) 0≠0):tl l n=n:=by
 cases n with
 | zero=>rfl
 | succ n=>unfold tl;rw[if_neg];rcases h with h|h;omega;exact h
theorem kJ (a b:List Nat):dP (a++b)=dP a+4294967296^a.length*dP b:=by
  induction a with
  | nil=>simp[dP]
  | cons x a ih =>
    simp only[D0,dP,ih,yt,B2,D1]
    rw[<-Ft,Az (4294967296^a.length) 4294967296]
    omega
theorem lU {l:List Nat}(h:∀ x∈l,x<4294967296):dP l<4294967296^l.length:=by
  induction l with
  | nil=>simp[dP]
  | cons x l ih =>
    have h1:=h x (by simp);have b:=ih (fun y a=>h y (by simp[a]))
    simp only[dP,yt,B2]
    omega
theorem j3 (x:Nat)(l:List Nat):∀ n,tl l n=0->tl (x::l) (n+1)=if x=0 then 0 else 1
  | 0,_=>by simp[tl]
  | n + 1,h=>by
    unfold tl at h
    split at h
    . rename_i h0
      show tl (x::l) (n+2)=_
      unfold tl
      rw[if_pos (by simpa using h0)];exact j3 x l n h
    . omega
theorem lp (l:List Nat)(n:Nat):tl l (n+1)=if l.getD n 0=0 then tl l n else n+1:=rfl
theorem kS (x:Nat)(l:List Nat):∀ n,0<tl l n->tl (x::l) (n+1)=tl l n+1
  | 0,h=>by simp[tl] at h
  | n + 1,h=>by
    rw[lp l n] at h ⊢
    rw[lp (x::l) (n+1),yO]
    by_cases h0:l.getD n 0=0
    . rw[if_pos h0] at h ⊢
      rw[if_pos h0];exact kS x l n h
    . rw[if_neg h0,if_neg h0]
theorem pO (l:List Nat):dP l=0->tl l l.length=0:=by
  intro h
  have key:∀ n,n<=l.length->tl l n=0:=by
    have hz:∀ k,l.getD k 0=0:=by
      induction l with
      | nil=>intro k;simp
      | cons x l ih =>
        simp only[dP] at h
        intro k;cases k with
        | zero=>simp;omega
        | succ k=>simpa using ih oM k
    intro n
    induction n with
    | zero=>intro _;rfl
    | succ n ih=>intro a;unfold tl;rw[if_pos (hz n)];exact ih oM
  exact key _ (ey _)
theorem ww {l:List Nat}(h:∀ x∈l,x<4294967296):lim (dP l)=l.take (tl l l.length):=by
  induction l with
  | nil=>rfl
  | cons x l ih =>
    have h1:=h x (by simp);have a:=ih (fun y c=>h y (by simp[c]))
    rcases zT (dP (x::l)) with h0|h0
    . rw[h0,gW,pO _ h0];rfl
    . rw[fo h0]
      have e1:dP (x::l)%4294967296=x:=by simp only[dP];omega
      have e2:dP (x::l)/4294967296=dP l:=by simp only[dP];omega
      rw[e1,e2,a]
      rcases zT (tl l l.length) with ht|ht
      . have b:x≠0:=by
          intro b;have:lim (dP l)=[]:=by rw[a,ht];rfl
          have:=sE.1 this
          simp only[dP] at h0
          omega
        rw[yt,j3 x l _ ht,if_neg b,ht];rfl
      . rw[yt,kS x l _ ht];rfl
theorem Ad (n:Nat)(h:0<n):(lim n).getD ((lim n).length-1) 0≠0:=by
  induction n using la with
  | _ n ih =>
    rw[fo h]
    rcases zT (n/4294967296) with h0|h0
    . rw[h0,gW];simp;omega
    . have:=ih (n/4294967296) oM h0
      have a:=d6.2 h0;rw[yt,show (lim (n/4294967296)).length+1-1=((lim (n/4294967296)).length-1)+1 by omega,yO];exact this
theorem mw {l:List Nat}{k:Nat}(h:k<l.length):dP (l.take (k+1))=dP (l.take k)+4294967296^k*l.getD k 0:=by
 have e:l.take (k+1)=l.take k++[l.getD k 0]:=by
  rw[F2];simp[h]
 rw[e,kJ,A2,Ga oM]
 show dP (l.take k)+4294967296^k*(l.getD k 0+4294967296*0)=_
 rw[Gb,yK]
theorem vf {l:List Nat}{k:Nat}(h:k<l.length):dP (l.drop k)=l.getD k 0+4294967296*dP (l.drop (k+1)):=by
 rw[Gx h]
 simp[dP,h]
def nb (n:Nat):Nat:=if n=0 then 0 else Nat.log2 n+1
theorem Be:nb 0=0:=rfl
theorem cW {n:Nat}(h:0<n):2^(nb n-1)<=n/\n<2^nb n/\0<nb n:=by
 unfold nb
 rw[if_neg oM];have:=(HA (n:=n) (k:=n.log2) oM).1 rfl;exact ⟨this.1,this.2,by omega⟩
theorem om {n k:Nat}(h1:2^k<=n)(a:n<2^(k+1)):nb n=k+1:=by
 have b:0<2^k:=H1 k
 unfold nb
 rw[if_neg oM,(HA oM).2 ⟨h1,a⟩]
theorem GO (n:Nat):n<2^nb n:=by
 rcases zT n with h|h
 ·subst h;simp[nb]
 ·exact (cW h).2.1
theorem mK {n k:Nat}(h:n<2^k):nb n<=k:=by
 rcases zT n with h0|h0
 ·subst h0;simp[nb]
 ·have:=cW h0
  rcases ep k (nb n) with hl|hl
  ·have:2^k<=2^(nb n-1):=Ju oM oM
   omega
  ·exact hl
theorem Df {n:Nat}(h:0<n):nb n=nb (n/2)+1:=by
 rcases ep n 2 with h2|h2
 ·have:n=1:=by omega
  subst this;decide
 ·obtain ⟨c,b,a⟩:=cW (n:=n/2) oM
  apply om
  ·have:2^nb (n/2)=2*2^(nb (n/2)-1):=by rw[<-Jv,show (nb (n/2)-1).succ=nb (n/2) by omega]
   omega
  ·rw[B2];omega
theorem xW {lo a k:Nat}(c:lo<2^k)(b:0<a):nb (lo+2^k*a)=k+nb a:=by
 obtain ⟨e,d,f⟩:=cW b;rw[show k+nb a=(k+(nb a-1))+1 by omega]
 apply om
 ·rw[Jw]
  have:=Jx (2^k) e
  omega
 ·rw[show k+(nb a-1)+1=k+nb a by omega,Jw]
  have:=Jx (2^k) (show a+1<=2^nb a from d);rw[Nat.mul_succ] at this
  omega
theorem Ff {a:Nat}(h:0<a):nb a=32*((lim a).length-1)+nb ((lim a).getD ((lim a).length-1) 0):=by
 have f:=d6.2 h;have e:=mw (l:=lim a) (k:=(lim a).length-1) oM;rw[show (lim a).length-1+1=(lim a).length by omega,yN,fX] at e
 have b:=lU (l:=(lim a).take ((lim a).length-1)) (fun x d=>kB a x (Jy d));rw[A2,Ga oM] at b
 have e2:(4294967296:Nat)^((lim a).length-1)=2^(32*((lim a).length-1)):=by rw[Jz]
 rw[e2] at e b
 have c:=Ad a h;have:=xW b (Nat.pos_of_ne_zero c);rw[<-e] at this
 exact this
def fT (n:Nat):Nat->List Nat
  | 0=>[]
  | m+1=>n/256^m%256::fT n m
theorem jz (n m:Nat):(fT n m).length=m:=by induction m with|zero=>rfl|succ m ih=>simp[fT,ih]
theorem i5 (n:Nat):∀ (m k:Nat),k<m->(fT n m).getD k 0=n/256^(m-1-k)%256
  | 0,k,h=>by omega
  | m+1,0,h=>by simp[fT]
  | m+1,k+1,h=>by
    rw[fT,yO,i5 n m k oM]
    congr 3
    omega
theorem kK (n m k:Nat):(fT n m).getD k 0<256:=by
 rcases ep k m with h|h
 ·rw[i5 n m k h];exact y5 _ oM
 ·simp[x4 (show (fT n m).length<=k by rw[jz];exact h)]
theorem vM (n i:Nat):n%256^(i+1)=n%256^i+256^i*(n/256^i%256):=by
 rw[B2,Nat.mod_mul]
theorem rP (a:Nat):nb a<=32*(lim a).length:=by
 apply mK
 have:=lU (kB a);rw[fX] at this
 rw[Jz];exact this
theorem vZ (a k:Nat):(lim a).getD (k/4) 0/2^(8*(k%4))%256=a/256^k%256:=by
  have d:(lim a).getD (k/4) 0=a/4294967296^(k/4)%4294967296:=by
    rcases ep (k/4) (lim a).length with h|h
    . have e:=kJ ((lim a).take (k/4)) ((lim a).drop (k/4))
      rw[JA,fX,A2,Ga oM] at e
      have b:=lU (l:=(lim a).take (k/4)) (fun x c=>kB a x (Jy c));rw[A2,Ga oM] at b
      have hd:=vf h
      have c:(lim a).getD (k/4) 0<4294967296:=by
        have:=kB a ((lim a)[k/4]) (gx h);simpa [h] using this
      have h1:(dP ((lim a).take (k/4))+4294967296^(k/4)*dP ((lim a).drop (k/4)))/4294967296^(k/4)=dP ((lim a).drop (k/4)):=by
        rw[JB _ _ (JC oM),Bs b,yW]
      rw[<-e] at h1
      rw[h1,hd]
      omega
    . have:a<4294967296^(k/4):=by
        have h1:=lU (kB a);rw[fX] at h1
        exact e7 h1 (Ju oM h)
      rw[Bs this]
      simp[x4 h]
  rw[d]
  have e1:(256:Nat)^k=4294967296^(k/4)*2^(8*(k%4)):=by
    have:k=4*(k/4)+k%4:=by omega
    conv=>lhs;rw[this,Jw,Jz]
    rw[Jz 2 8]
  rw[e1,<-JD]
  generalize a/4294967296^(k/4)=y
  have:k%4=0\/k%4=1\/k%4=2\/k%4=3:=by omega
  rcases this with h|h|h|h<;>rw[h]<;>omega
theorem gY {l:List Nat}{m k x:Nat}{f:Nat->Nat}(c:l.length=m)(hk:k<m)(hv:∀ j,j<k->l.getD (m-1-j) 0=f j)(b:x=f k:=by rfl):∀ j,j<k+1->(l.set (m-1-k) x).getD (m-1-j) 0=f j:=by
 intro j d
 by_cases e:j=k
 ·subst e
  have:m-1-j<l.length:=by omega
  simp[this,b]
 ·have a:m-1-k≠m-1-j:=by omega
  have:=hv j oM
  simp only[A4] at this ⊢
  rw[yx a];exact this
theorem sU {l:List Nat}{n m:Nat}(a:l.length=m)(hv:∀ j,j<m->l.getD (m-1-j) 0=n/256^j%256):l=fT n m:=by
 apply List.ext_getElem
 ·rw[jz,a]
 ·intro i h1 b
  have c:=i5 n m i oM;have:=hv (m-1-i) oM;rw[show m-1-(m-1-i)=i by omega,<-c] at this
  simpa [h1,b] using this
def fC (n k j:Nat):Nat:=n/256^k*256^k/4294967296^j%4294967296
theorem uE (n j:Nat):fC n 0 j=n/4294967296^j%4294967296:=by unfold fC;simp
theorem v8 {n k:Nat}(h:n<256^k)(j:Nat):fC n k j=0:=by unfold fC;rw[Bs h];simp
theorem oV (n k j:Nat):fC n k j<4294967296:=y5 _ oM
theorem uU (k:Nat):(256:Nat)^k=4294967296^(k/4)*2^(8*(k%4)):=by
 have:k=4*(k/4)+k%4:=by omega
 conv=>lhs;rw[this,Jw,Jz]
 rw[Jz 2 8]
theorem t8 (y q j:Nat):y*4294967296^q/4294967296^j%4294967296=if j<q then 0 else y/4294967296^(j-q)%4294967296:=by
 split
 ·rename_i h
  have e:(4294967296:Nat)^q=4294967296^j*(4294967296^(q-j-1)*4294967296):=by
   rw[<-B2,<-Jw];congr 1;omega
  rw[e,<-Ft,Az y,Ft,Nat.mul_div_cancel_left _ (JC oM),<-Ft];exact Nat.mul_mod_left _ _
 ·rename_i h
  have e:(4294967296:Nat)^j=4294967296^q*4294967296^(j-q):=by rw[<-Jw];congr 1;omega
  rw[e,<-JD,Nat.mul_div_cancel _ (JC oM)]
theorem By (x b:Nat)(a:b<256):∀ r,r<4->(256*x+b)*2^(8*r)%4294967296=256*x*2^(8*r)%4294967296+b*2^(8*r)/\(256*x+b)*2^(8*r)/4294967296=256*x*2^(8*r)/4294967296/\256*x*2^(8*r)%4294967296%2^(8*r+8)=0/\b*2^(8*r)<4294967296:=by
 intro r hr;have:r=0\/r=1\/r=2\/r=3:=by omega
 rcases this with rfl|rfl|rfl|rfl<;>omega
theorem nU (n k j:Nat):fC n k j=if j=k/4 then fC n (k+1) j ||| (n/256^k%256)*2^(8*(k%4)) else fC n (k+1) j:=by
  have l:n/256^k=256*(n/256^(k+1))+n/256^k%256:=by
    rw[B2,<-JD];omega
  have i:n/256^k%256<256:=y5 _ oM;have f:=uU k;have e:(256:Nat)^(k+1)=4294967296^(k/4)*2^(8*(k%4))*256:=by rw[B2,f]
  obtain ⟨o,l2,l3,p⟩:=By (n/256^(k+1)) _ i (k%4) oM
  unfold fC
  generalize n/256^(k+1)=x at *
  generalize hb2:n/256^k%256=b at *
  rw[l,f,e];have e1:(256*x+b)*(4294967296^(k/4)*2^(8*(k%4)))=(256*x+b)*2^(8*(k%4))*4294967296^(k/4):=by ac_rfl
  have e2:x*(4294967296^(k/4)*2^(8*(k%4))*256)=256*x*2^(8*(k%4))*4294967296^(k/4):=by ac_rfl
  rw[e1,e2,t8,t8]
  by_cases h1:j<k/4
  . rw[if_pos h1,if_pos h1,if_neg oM]
  . rw[if_neg h1,if_neg h1]
    by_cases h2:j=k/4
    . rw[if_pos h2,h2,yp,Nat.pow_zero,Nat.div_one,Nat.div_one,o]
      obtain ⟨c,hc⟩:∃ c,256*x*2^(8*(k%4))%4294967296=2^(8*(k%4)+8)*c:=⟨_,(Nat.mul_div_cancel' (Nat.dvd_of_mod_eq_zero l3)).symm⟩;rw[hc]
      have a:b*2^(8*(k%4))<2^(8*(k%4)+8):=by
        rw[Jw,Az];exact Nat.mul_lt_mul_of_pos_left i (H1 _)
      exact Nat.two_pow_add_eq_or_of_lt a c
    . rw[if_neg h2]
      obtain ⟨d,hd⟩:∃ d,j-k/4=d+1:=⟨j-k/4-1,by omega⟩;have h:∀ y:Nat,y/4294967296^(d+1)=y/4294967296/4294967296^d:=fun y=>by rw[Jv,JD]
      rw[hd,h,h,l2]
theorem iB:∀ (l:List Nat) (n:Nat),(∀ j,j<l.length->l.getD j 0=n/4294967296^j%4294967296)->n<4294967296^l.length->dP l=n
  | [],n,_,h=>by simp at h;simp[dP,h]
  | x :: l,n,hd,h=>by
    have h0:=hd 0 (by simp)
    simp at h0
    have b:=iB l (n/4294967296) (fun j a=>by
      have:=hd (j+1) (by simpa using a);rw[yO,Jv,<-JD] at this
      exact this) (B0 (by rw[yt,Jv] at h;exact h))
    rw[dP,b,h0]
    omega
def aq (b:Nat):List Nat->Nat
  | []=>0
  | x::l=>x+b*aq b l
def Dg (b:Nat)(l:List Nat):Prop:=∀ x∈l,x<b
theorem kg (l:List Nat):dP l=aq 4294967296 l:=by
 induction l with
 | nil=>rfl
 | cons x l ih=>simp only[dP,aq,ih]
theorem Dg.nil {b:Nat}:Dg b []:=fun _ h=>by cases h
theorem Dg.getD {b:Nat}{l:List Nat}(h:Dg b l)(a:0<b)(k:Nat):l.getD k 0<b:=by
 rcases ep k l.length with hk|hk
 ·have:=h (l[k]) (gx hk);simpa [hk] using this
 ·simpa [x4 hk] using a
theorem Dg.set {b:Nat}{l:List Nat}(h:Dg b l)(k:Nat){x:Nat}(c:x<b):Dg b (l.set k x):=fun y a=>by
 rcases List.mem_or_eq_of_mem_set a with h1|h1
 ·exact h y h1
 ·rw[h1];exact c
theorem Dg.take {b:Nat}{l:List Nat}(h:Dg b l)(k:Nat):Dg b (l.take k):=fun x a=>h x (Jy a)
theorem Dg.drop {b:Nat}{l:List Nat}(h:Dg b l)(k:Nat):Dg b (l.drop k):=fun x a=>h x (yY a)
theorem Dg.append {b:Nat}{l m:List Nat}(h:Dg b l)(k:Dg b m):Dg b (l++m):=fun x a=>by
 rcases g5.1 a with h1|h1
 ·exact h x h1
 ·exact k x h1
theorem Dg.one {b x:Nat}(h:x<b):Dg b [x]:=fun y a=>by rw[vl.1 a];exact h
theorem Dg.cons {b x:Nat}{l:List Nat}(h:x<b)(k:Dg b l):Dg b (x::l):=fun y a=>by
 rcases hP.1 a with rfl|h1
 ·exact h
 ·exact k y h1
theorem Dg.rep {b n:Nat}(c:0<b):Dg b (y2 n 0):=fun y a=>by rw[(List.mem_replicate.1 a).2];exact c
theorem ei (b:Nat)(x y:List Nat):aq b (x++y)=aq b x+b^x.length*aq b y:=by
  induction x with
  | nil=>simp[aq]
  | cons a x ih =>
    simp only[D0,aq,ih,yt,B2,D1]
    rw[<-Ft,Az (b^x.length) b]
    omega
theorem cC {b:Nat}{l:List Nat}(h:Dg b l):aq b l<b^l.length:=by
  induction l with
  | nil=>simp[aq]
  | cons x l ih =>
    have h1:=h x (by simp);have c:=ih (fun y a=>h y (by simp[a]))
    simp only[aq,yt,B2]
    have d:b*(aq b l+1)<=b*b^l.length:=Jx _ c;rw[D1,Nat.mul_one,Az b (b^l.length)] at d
    omega
theorem cn (b:Nat){l:List Nat}{k:Nat}(h:k<=l.length):aq b l=aq b (l.take k)+b^k*aq b (l.drop k):=by
 have e:=ei b (l.take k) (l.drop k);rw[JA,A2,Ga h] at e
 exact e
theorem iK {l:List Nat}{k:Nat}(h:k<l.length):l.take (k+1)=l.take k++[l.getD k 0]:=by
 rw[F2];simp[h]
theorem aW (b:Nat){l:List Nat}{k:Nat}(h:k<l.length):aq b (l.take (k+1))=aq b (l.take k)+b^k*l.getD k 0:=by
 rw[iK h,ei,A2,Ga oM]
 show aq b (l.take k)+b^k*(l.getD k 0+b*0)=_
 rw[Gb,yK]
theorem fN (b:Nat){l:List Nat}{k:Nat}(h:k<l.length):aq b (l.drop k)=l.getD k 0+b*aq b (l.drop (k+1)):=by
 rw[Gx h]
 simp[aq,h]
theorem dx (b:Nat){l:List Nat}{k:Nat}(x:Nat)(h:k<l.length):aq b (l.set k x)+b^k*l.getD k 0=aq b l+b^k*x:=by
  induction l generalizing k with
  | nil=>simp at h
  | cons y l ih =>
    cases k with
    | zero=>simp[aq];omega
    | succ k =>
      have:=ih (k:=k) (by simpa using h);rw[yV,yO,aq,aq,B2,Az (b^k) b,Ft,Ft];have e:b*(aq b (l.set k x)+b^k*l.getD k 0)=b*(aq b l+b^k*x):=by rw[this]
      rw[D1,D1] at e
      omega
theorem fZ (b n:Nat):aq b (y2 n 0)=0:=by
 induction n with
 | zero=>rfl
 | succ n ih=>simp[y3,aq,ih]
theorem nY {b:Nat}(c:0<b){l:List Nat}(h:aq b l=0)(k:Nat):l.getD k 0=0:=by
  induction l generalizing k with
  | nil=>simp
  | cons x l ih =>
    simp only[aq] at h
    have h1:b*aq b l=0:=by omega
    have a:aq b l=0:=by
      rcases Nat.mul_eq_zero.1 h1 with a|a
      . omega
      . exact a
    cases k with
    | zero=>simp;omega
    | succ k=>simpa using ih a k
theorem ip (b:Nat){l:List Nat}(h:∀ k,l.getD k 0=0):aq b l=0:=by
  induction l with
  | nil=>rfl
  | cons x l ih =>
    have h0:=h 0
    simp at h0
    rw[aq,ih (fun k=>by have:=h (k+1);simpa using this),h0];simp
theorem jj {l:List Nat}{k n:Nat}(h:k<n):(l.take n).getD k 0=l.getD k 0:=by
 simp only[A4,List.getElem?_take,if_pos h]
theorem bL {l:List Nat}{k n:Nat}:(l.drop n).getD k 0=l.getD (n+k) 0:=by
 simp only[A4,yE]
theorem bO {l:List Nat}{k j x:Nat}(h:k<l.length):(l.set k x).getD j 0=if k=j then x else l.getD j 0:=by
 simp only[A4,List.getElem?_set,h,if_true]
 split<;>simp
theorem gU {n k:Nat}:(y2 n 0).getD k 0=0:=by
 simp only[A4,List.getElem?_replicate]
 split<;>rfl
theorem cO {l:List Nat}{k:Nat}(h:l.length<=k):l.getD k 0=0:=by simp[x4 h]
theorem jF (b:Nat)(l:List Nat):∀ n,n<=l.length->aq b (l.take (tl l n))=aq b (l.take n)
  | 0,_=>rfl
  | n + 1,h=>by
    unfold tl
    split
    . rename_i h0
      rw[aW b oM,h0,jF b l n oM];simp
    . rfl
theorem uB {l:List Nat}:∀ n,tl l n=0\/l.getD (tl l n-1) 0≠0
  | 0=>.inl rfl
  | n+1=>by
    unfold tl
    split
    . exact uB n
    . rename_i h;exact .inr h
def qz (b:Nat):Nat->Nat->List Nat
  | 0,_=>[]
  | f+1,n=>if n=0 then [] else n%b::qz b f (n/b)
def jt (b n:Nat):List Nat:=qz b n n
theorem uv {b:Nat}(a:2<=b):∀ (f g n:Nat),n<=f->n<=g->qz b f n=qz b g n
  | 0,g,n,hf,hg=>by
    have:n=0:=by omega
    subst this;cases g<;>rfl
  | f+1,0,n,hf,hg=>by
    have:n=0:=by omega
    subst this
    rfl
  | f + 1,g+1,n,hf,hg=>by
    unfold qz
    split
    . rfl
    . rename_i h0
      have:=JE (n:=n) (k:=b) oM oM;rw[uv a f g (n/b) oM oM]
theorem jG (b:Nat):jt b 0=[]:=rfl
theorem eA {b n:Nat}(a:2<=b)(h:0<n):jt b n=n%b::jt b (n/b):=by
 unfold jt
 obtain ⟨m,rfl⟩:∃ m,n=m+1:=⟨n-1,by omega⟩;have:=JE (n:=m+1) (k:=b) oM oM;rw[qz,if_neg oM];rw[uv a m _ _ oM (ey _)]
theorem nh {b:Nat}(a:2<=b)(n:Nat):aq b (jt b n)=n:=by
  induction n using la with
  | _ n ih =>
    rcases zT n with h|h
    . subst h;rfl
    . rw[eA a h,aq,ih (n/b) (JE h oM)]
      exact Nat.mod_add_div n b
theorem wH {b:Nat}(a:2<=b)(n:Nat):Dg b (jt b n):=by
  induction n using la with
  | _ n ih =>
    rcases zT n with h|h
    . subst h;exact Dg.nil
    . rw[eA a h]
      exact Dg.cons (y5 _ oM) (ih _ (JE h oM))
theorem ud {b n:Nat}(a:2<=b):0<(jt b n).length↔0<n:=by
 rcases zT n with h|h
 ·subst h;simp[jG]
 ·rw[eA a h];simp[h]
theorem rJ {b:Nat}(h:2<=b){l:List Nat}(hd:Dg b l)(a:l=[]\/l.getD (l.length-1) 0≠0):jt b (aq b l)=l:=by
  induction l with
  | nil=>rfl
  | cons x l ih =>
    have d:=hd x (by simp);have e1:(x+b*aq b l)%b=x:=by rw[Nat.add_mul_mod_self_left,y4 d]
    have e2:(x+b*aq b l)/b=aq b l:=by rw[JB _ _ oM,Bs d,yW]
    have c:l=[]\/l.getD (l.length-1) 0≠0:=by
      rcases List.eq_nil_or_concat l with h0|⟨m,y,rfl⟩
      . exact .inl h0
      . right
        rcases a with a|a
        . cases a
        . rw[show (x::m.concat y).length-1=((m.concat y).length-1)+1 by simp,yO] at a
          exact a
    have f:0<aq b (x::l):=by
      rcases zT (aq b (x::l)) with h0|h0
      . rcases a with a|a
        . cases a
        . exact absurd (nY oM h0 _) a
      . exact h0
    rw[eA h f]
    simp only[aq]
    rw[e1,e2,ih (fun y e=>hd y (by simp[e])) c]
theorem EW {b:Nat}(c:2<=b){l:List Nat}(hd:Dg b l):jt b (aq b l)=l.take (tl l l.length):=by
 have e:=jF b l l.length (ey _);rw[yN] at e
 have a:=jf l l.length
 have:=rJ c (hd.take (tl l l.length)) (by
  by_cases h0:tl l l.length=0
  ·left;rw[h0];rfl
  ·right
   rw[A2,Ga a,jj oM]
   rcases uB (l:=l) l.length with h|h
   ·exact absurd h h0
   ·exact h)
 rw[e] at this
 exact this
theorem qU {b:Nat}(a:2<=b)(n:Nat)(h:0<n):(jt b n).getD ((jt b n).length-1) 0≠0:=by
  induction n using la with
  | _ n ih =>
    rw[eA a h]
    rcases zT (n/b) with h0|h0
    . rw[h0,jG]
      have:n<b:=by
        rcases ep n b with h1|h1
        . exact h1
        . have:=Nat.div_pos h1 oM;omega
      simp[y4 this];omega
    . have:=ih (n/b) (JE h oM) h0
      have c:=(ud a).2 h0;rw[yt,show (jt b (n/b)).length+1-1=((jt b (n/b)).length-1)+1 by omega,yO];exact this
theorem fW {b n k:Nat}(a:2<=b)(h:n<b^k):(jt b n).length<=k:=by
 rcases zT n with h0|h0
 ·subst h0;simp[jG]
 ·rcases ep k (jt b n).length with hk|hk
  ·exfalso
   have h1:=aW b (l:=jt b n) (k:=(jt b n).length-1) oM;rw[show (jt b n).length-1+1=(jt b n).length by omega,yN,nh a] at h1
   have d:=qU a n h0;have e:b^((jt b n).length-1)*1<=b^((jt b n).length-1)*(jt b n).getD ((jt b n).length-1) 0:=Jx _ oM;have c:b^k<=b^((jt b n).length-1):=Ju oM oM
   omega
  ·exact hk
theorem jw {b:Nat}(a:2<=b)(n:Nat):n<b^(jt b n).length:=by
 have:=cC (wH a n)
 rwa [nh a] at this
theorem iM (b:Nat){l:List Nat}{k m:Nat}(hk:k+m<=l.length)(a:0<b)(hd:Dg b l)(h:aq b l<b^(k+m)):aq b l/b^k=aq b ((l.drop k).take m)/\∀ i,k+m<=i->l.getD i 0=0:=by
 have e1:=cn b (l:=l) (k:=k) oM;have e2:=cn b (l:=l.drop k) (k:=m) (by rw[A5];omega);have h1:=cC (hd.take k);rw[A2,Ga oM] at h1
 have c:0<b^k:=JC a
 have hz:aq b ((l.drop k).drop m)=0:=by
  rcases zT (aq b ((l.drop k).drop m)) with h0|h0
  ·exact h0
  ·exfalso
   have e:b^m*1<=b^m*aq b ((l.drop k).drop m):=Jx _ h0;have d:b^k*b^m<=b^k*aq b (l.drop k):=Jx _ oM;rw[<-Jw] at d
   omega
 rw[hz,Gb,yK] at e2
 refine ⟨?_,fun i hi=>?_⟩
 ·rw[e1,JB _ _ c,Bs h1,yW,e2]
 ·have:=nY a hz (i-k-m)
  rw[bL,bL,show k+(m+(i-k-m))=i by omega] at this
  exact this
theorem v7 {b P u v U V G:Nat}(i:0<P)(o:U*P<=u)(k:u<(U+1)*P)(d:V*P<=v)(p:v<(V+1)*P)(c:b*P<=v)(e:u<b*v)(hG:G*V<=U)(a:G+1=b\/U<(G+1)*V)(j:G<b) :
    u/v<=G/\G<=u/v+1:=by
  have hv:0<v:=e7 (Nat.mul_pos oM i) c
  constructor
  . have l:u/v<G+1:=by
      rw[Av hv]
      rcases a with h|h
      . rw[h];exact e
      . have h1:(U+1)*P<=(G+1)*V*P:=yX _ h
        have f:(G+1)*(V*P)<=(G+1)*v:=Jx _ d;rw[Ft] at h1
        omega
    omega
  . have h1:G*v<=u+v:=by
      have z:G*v<=G*((V+1)*P):=Jx _ oM;have x:G*((V+1)*P)=G*V*P+G*P:=by rw[<-Ft,D1,Nat.mul_one,Nat.add_mul]
      have y:G*V*P<=U*P:=yX _ hG;have B:G*P<=b*P:=yX _ oM
      omega
    have f:G<=(u+v)/v:=(Nat.le_div_iff_mul_le hv).2 h1;rw[Nat.add_div_right _ hv] at f
    omega
theorem a8 (b:Nat)(l:List Nat)(k:Nat):aq b (l.take (k+1))=aq b (l.take k)+b^k*l.getD k 0:=by
 rcases ep k l.length with h|h
 ·exact aW b h
 ·rw[JF oM,JF h]
  simp[x4 h]
theorem gN {b:Nat}{l y:List Nat}{i c c' s X:Nat}(hi:i<l.length)(inv:aq b l+b^i*c=X+aq b (y.take i))(e:s+b*c'=l.getD i 0+y.getD i 0+c) :
  aq b (l.set i s)+b^(i+1)*c'=X+aq b (y.take (i+1)):=by
 have h1:=dx b s hi;rw[a8,B2]
 generalize b^i=P at *
 generalize aq b (l.set i s)=S at *
 have e2:P*(s+b*c')=P*(l.getD i 0+y.getD i 0+c):=by rw[e]
 simp only[D1,<-Ft] at e2 ⊢
 omega
theorem iN {b:Nat}{l y:List Nat}{i c c' s X:Nat}(hi:i<l.length)(inv:aq b l+aq b (y.take i)=X+b^i*c)(e:s+y.getD i 0+c=l.getD i 0+b*c') :
  aq b (l.set i s)+aq b (y.take (i+1))=X+b^(i+1)*c':=by
 have h1:=dx b s hi;rw[a8,B2]
 generalize b^i=P at *
 generalize aq b (l.set i s)=S at *
 have e2:P*(s+y.getD i 0+c)=P*(l.getD i 0+b*c'):=by rw[e]
 simp only[D1,<-Ft] at e2 ⊢
 omega
theorem p7 {b:Nat}{l y:List Nat}{k j m c c' s X:Nat}(hi:k+j<l.length)(inv:aq b l+b^(k+j)*c=X+b^k*(m*aq b (y.take j)))(e:s+b*c'=l.getD (k+j) 0+m*y.getD j 0+c) :
  aq b (l.set (k+j) s)+b^(k+(j+1))*c'=X+b^k*(m*aq b (y.take (j+1))):=by
 have h1:=dx b s hi;rw[a8,<-yI,B2];have d:b^(k+j)=b^k*b^j:=Jw _ _ _;have e2:b^(k+j)*(s+b*c')=b^(k+j)*(l.getD (k+j) 0+m*y.getD j 0+c):=by rw[e]
 have a:b^k*(m*(aq b (y.take j)+b^j*y.getD j 0))=b^k*(m*aq b (y.take j))+b^(k+j)*(m*y.getD j 0):=by
  rw[d,D1,D1,<-Ft m,Az m (b^j),Ft (b^j),<-Ft (b^k) (b^j)]
 rw[a]
 generalize b^(k+j)=P at *
 generalize aq b (l.set (k+j) s)=S at *
 generalize b^k*(m*aq b (y.take j))=Y at *
 simp only[D1,<-Ft] at e2 ⊢
 omega
end Go.Proofs.YteipbelehcpooaaGreatDoor
