/- Laws of this claim, part 1. -/
import Derived.Below
import Derived.WalkKit
import Derived.Lib.Hide
import Derived.Deep.Draws
import Derived.Orders
import Derived.OrdersHeld
import Derived.KernelRfl
import Derived.Laws.MakeOwn
import Derived.Maps.AppendAt
import Derived.Test.YtbbhdbhkaacnnaaGreatDoorProg
import Derived.Lib.IndexBytes
import Derived.Lib.Builder
import Derived.Lib.UnsafeStr
import Derived.Test.YtbbhdbhkaacnnaaGreatDoorShelf
import Derived.Shelf.Spec.BitsCarry
import Derived.Lib.BitFns
import Derived.Laws.CopyRow
import Derived.Shelf.Strings.Builder1
import Derived.Shelf.Strings.Builder2
import Derived.Lib.TrailingZeros
import Derived.Laws.Bits64b
import Derived.Lib.ItoaNum
import Derived.WideMake
import Derived.ArgAppend
import Derived.Lib.ItoaMem
import Derived.Lib.IndexLaws
import Derived.DeepKeys5
import Derived.StringKeys
import Derived.Laws.IdiomStrings
import Derived.Deep.Upon
import Derived.Lib.OthersKept
import Derived.Shelf.Strings.BuilderK
import Derived.Lib.Walk
import Derived.BigCall
import Derived.BigGuard
import Derived.Shelf.SortM.Walk0sIn
set_option maxRecDepth 100000
set_option maxHeartbeats 4000000
namespace Go.Proofs.YtbbhdbhkaacnnaaGreatDoor
open _root_.Array renaming all_eq_true_iff_forall_mem -> i1, any_eq_true -> m3, getD -> e4, getElem?_append_left -> et, getElem?_append_right -> ey, getElem?_eq_getElem -> er, getElem?_eq_none -> ea, getElem?_eq_some_iff -> g3, getElem?_extract -> ez, getElem?_push_lt -> eq, getElem?_push_size -> e0, getElem?_replicate -> wl, getElem?_setIfInBounds_ne -> g6, getElem?_setIfInBounds_self_of_lt -> yy, getElem_mem -> nn, mapM_eq_mapM_toList -> r9, replicate -> pa, setIfInBounds_comm -> e6
open Bool renaming and_eq_true -> hN, false_eq_true -> n1, not_true -> ov, or_eq_true -> mz
open Int renaming fdiv_eq_ediv_of_nonneg -> zh, tdiv -> zy, toNat_natCast -> vb
open List renaming all_cons -> q8, all_eq_true -> i3, any_eq_true -> oi, cons_append -> z6, drop_sublist -> ul, drop_zero -> sy, eq_nil_of_length_eq_zero -> ta, eraseIdx_sublist -> y4, ext_getElem? -> pR, flatMap_cons -> sr, getD_cons_succ -> s3, getD_eq_getElem?_getD -> B1, getElem?_append_left -> rc, getElem?_append_right -> rk, getElem?_drop -> ri, getElem?_eq_none -> pk, getElem?_set_ne -> p1, getElem?_set_self -> p0, getElem?_take_of_lt -> rh, getElem_eraseIdx -> yY, getElem_inj -> q0, getElem_map -> ql, getElem_mem -> e5, getElem_set_ne -> y6, getElem_set_self -> y7, length_append -> s6, length_eraseIdx_of_lt -> yZ, length_take -> Ab, lookup_cons -> g4, mapM_cons -> rp, map_cons -> yh, map_set -> pw, mem_append -> fo, mem_cons -> gq, mem_iff_getElem -> p2, mem_map -> ga, mem_of_mem_drop -> ub, mem_of_mem_eraseIdx -> y3, mem_of_mem_take -> A9, mem_range -> l4, mem_singleton -> o0, nodup_cons -> gs, pairwise_iff_getElem -> y5, perm_middle -> ge, range -> la, range' -> o1, range'_succ -> o2, range_eq_range' -> pc, replicate -> um, replicate_succ -> un, set_cons_succ -> tu, take_add_one -> Aa, take_append_of_le_length -> sA, take_length -> s1, take_of_length_le -> I5
open Nat renaming add_assoc -> sc, add_comm -> s5, add_mul -> I4, add_mul_div_left -> I3, add_zero -> sw, div_add_mod -> I7, div_div_eq_div_mul -> H1, div_eq_of_lt -> zY, div_le_self -> zF, div_lt_of_lt_mul -> zZ, div_lt_self -> I2, eq_zero_or_pos -> yz, le_of_ble_eq_true -> y9, le_refl -> eb, le_trans -> ed, log2_eq_iff -> Az, lt_of_le_of_lt -> zz, lt_of_lt_of_le -> ep, lt_or_ge -> co, min_eq_left -> Am, min_eq_right -> I8, mod_eq_of_lt -> u9, mod_lt -> va, mul_add -> z7, mul_assoc -> z8, mul_comm -> z2, mul_le_mul_left -> A8, mul_le_mul_right -> ua, mul_lt_mul_of_pos_left -> I0, mul_mod_left -> HA, mul_one -> I1, mul_zero -> Ao, one_mul -> I6, or_lt_two_pow -> zT, pow_add -> A7, pow_le_pow_right -> A4, pow_mul -> Bs, pow_pos -> F2, pow_succ -> z1, pow_succ' -> A6, strongRecOn -> g2, sub_self -> pr, succ_mul -> s4, two_pow_pos -> A0, zero_add -> tv, zero_mul -> s9
open Option renaming isSome_iff_exists -> hO, map_eq_none_iff -> y8, map_eq_some_iff -> pt, map_none -> vl, map_some -> pv
abbrev Z9:=Option Addr
theorem kD {p : Prop} (h : p := by decide) : p := h
theorem oM {p : Prop} (h : p := by omega) : p := h
theorem kR {p : Prop} (h : p := by kernel_rfl) : p := h
theorem aM {p : Prop} (h : p := by assumption) : p := h
theorem ip {p : Prop} (h : p := by first | assumption | omega) : p := h
theorem sM {p : Prop} (h : p := by first | omega | (simp; done) | (simp; omega)) : p := h
theorem oT {p : Prop} [Decidable p] (h : decide p = true) : p := of_decide_eq_true h
theorem oF {p : Prop} [Decidable p] (h : decide p = false) : ¬p := of_decide_eq_false h
theorem dT {p : Prop} [Decidable p] (h : p) : decide p = true /\ p := ⟨decide_eq_true h, h⟩
theorem dF {p : Prop} [Decidable p] (h : ¬p) : decide p = false /\ ¬p := ⟨decide_eq_false h, h⟩
open Go.RowKit
abbrev pB (b:Nat):Value:=.pointer (some ⟨b,0,none⟩)
abbrev qP (b o:Nat):Value:=.pointer (some ⟨b,o,none⟩)
abbrev qT:Value:=.bool true
abbrev qF:Value:=.bool false
abbrev qS (A:Z9)(n c:Nat):Value:=.slice A n c
abbrev sZ:Value:=.slice none 0 0
abbrev eS:Value:=.string ⟨#[]⟩
abbrev sB (b:Nat):Z9:=some ⟨b,0,none⟩
abbrev iV (n:Int):Value:=.int .i64 n
abbrev uV (n:Int):Value:=.int .u64 n
abbrev a1:List Value:=[qF,uV 0,eS,uV 0,eS]
abbrev a2:List Value:=[iV 0,iV 0,qF,uV 0,eS,uV 0,eS,eS,sZ]
abbrev ca:Value:=.agg #[qF,uV 0,eS,uV 0,eS]
abbrev uW (n:Int):Value:=.int .u32 n
abbrev nV (n:Nat):Value:=.int .i64 (n:Int)
abbrev mV (n:Nat):Value:=.int .u64 (n:Int)
abbrev mW (n:Nat):Value:=.int .u32 (n:Int)
def Ext (w w':World):Prop:=Below w.heap.size w w'
theorem Ext.refl (w:World):Ext w w:=Below.refl _ _
theorem Ext.trans {a b c:World}(h:Ext a b)(k:Ext b c):Ext a c:=Below.trans h (Below.mono k h.size)
theorem Ext.alloc {a w:World}(h:Ext a w)(o:Obj):Ext a (w.alloc o):=Below.alloc h h.size o
theorem Ext.drew {a w:World}(h:Ext a w):Ext a w.drew:=Below.drew h
theorem Ext.size {a w:World}(h:Ext a w):a.heap.size<=w.heap.size:=Below.size h
theorem Ext.cell {a w:World}(h:Ext a w){p:Addr}(b:p.block<a.heap.size):w.cell? p=a.cell? p:=Below.cell h b
theorem Ext.some {a w:World}(h:Ext a w){p:Addr}{v:Value}(b:a.cell? p=.some v):w.cell? p=.some v:=by
 rcases co p.block a.heap.size with hl|hl
 ·rw[h.cell hl];exact b
 ·unfold World.cell? at b
  rw[ea hl] at b
  cases b
def au (z:Int):Bool:=decide (z<0)
def ab (z:Int):Nat:=z.natAbs
def qd (q:Rat):Nat:=if q.den=1 then 0 else q.den
def bE (neg:Bool)(a:Nat):Int:=if neg then -(a:Int) else a
theorem jq (b:Bool)(a:Nat):au (bE b a)=(b && decide (0<a)):=by cases b<;>simp[au,bE]<;>omega
theorem cd (b:Bool)(a:Nat):ab (bE b a)=a:=by cases b<;>simp[ab,bE]
theorem r4 (z:Int):bE (!au z) (ab z) = -z:=by unfold bE au ab;by_cases h:z<0<;>simp[h]<;>omega
theorem bT {z:Int}(h:au z=true):z<0:=by simpa [au] using h
theorem bJ {z:Int}(h:au z=false):0<=z:=by simpa [au] using h
abbrev Hp:=Array Obj
def junk:Obj:=.cells #[] 0 (0,0)
structure G (w:World) (h:Hp):Prop where
  size:w.heap.size=h.size
  blk:∀ b:Nat,h[b]?=w.heap[b]?\/h[b]?=some junk
structure Gr (h h':Hp):Prop where
  size:h.size<=h'.size
  blk:∀ b:Nat,b<h.size->h'[b]?=h[b]?
structure Up (w:World) (h:Hp) (w':World) (h':Hp):Prop where
  ext:Ext w w'
  gr:Gr h h'
  g:G w' h'
theorem Gr.refl (h:Hp):Gr h h:=⟨eb _,fun _ _=>rfl⟩
theorem Gr.trans {a b c:Hp}(h:Gr a b)(k:Gr b c):Gr a c :=
 ⟨ed h.size k.size,fun x d=>(k.blk x (ep d h.size)).trans (h.blk x d)⟩
theorem Gr.push (h:Hp)(o:Obj):Gr h (h.push o) :=
 ⟨by simp,fun b a=>by rw[eq a];exact (er a).symm⟩
theorem Up.refl {w:World}{h:Hp}(g:G w h):Up w h w h:=⟨Ext.refl _,Gr.refl _,g⟩
theorem Up.trans {w w1 w2:World}{h h1 c:Hp}(a:Up w h w1 h1)(b:Up w1 h1 w2 c):Up w h w2 c:=⟨a.ext.trans b.ext,a.gr.trans b.gr,b.g⟩
theorem G.drew {w:World}{h:Hp}(g:G w h):G w.drew h:=⟨g.size,g.blk⟩
theorem Up.drew {w w1:World}{h h1:Hp}(a:Up w h w1 h1):Up w h w1.drew h1:=⟨a.ext.drew,a.gr,a.g.drew⟩
theorem G.lift {w w':World}{h:Hp}(g:G w h)(x:Ext w w'):∃ c,Up w h w' c:=by
 have d:=x.size;have f:=g.size;refine ⟨h++w'.heap.extract h.size w'.heap.size,x,⟨by simp,fun b a=>et a⟩,⟨by simp;omega,fun b=>?_⟩⟩
 rcases co b h.size with a|a
 ·rw[et a]
  have e:=Below.block x b oM
  rcases g.blk b with h1|h1
  ·exact .inl (h1.trans e.symm)
  ·exact .inr h1
 ·left
  rw[ey a,ez]
  by_cases hl:b<w'.heap.size
  ·rw[if_pos oM];congr 1;omega
  ·rw[if_neg oM,ea oM]
theorem dq (w:World)(o:Obj):(w.alloc o).heap=w.heap.push o:=rfl
theorem Up.allocAny {w:World}{h:Hp}(g:G w h)(o o':Obj)(a:o'=o\/o'=junk):Up w h (w.alloc o) (h.push o'):=by
 refine ⟨(Ext.refl _).alloc _,Gr.push _ _,⟨by rw[dq];simp[g.size],fun b=>?_⟩⟩;rw[dq];have e:=g.size
 rcases Nat.lt_trichotomy b h.size with hb|hb|hb
 ·rw[eq hb,eq oM]
  have:=g.blk b
  rwa [er hb,er oM] at this
 ·subst hb
  rw[e0];have:(w.heap.push o)[h.size]?=some o:=by rw[<-e];exact e0
  rw[this]
  rcases a with rfl|rfl
  ·exact .inl rfl
  ·exact .inr rfl
 ·left
  rw[ea (by simp;omega),ea (by simp;omega)]
structure Mo (M:List Nat) (w w':World):Prop where
  os:w'.os=w.os
  tape:w'.tape=w.tape
  output:w'.output=w.output
  size:w.heap.size<=w'.heap.size
  blk:∀ b,b<w.heap.size->b ∉ M->w'.heap[b]?=w.heap[b]?
theorem Mo.refl (M:List Nat)(w:World):Mo M w w:=⟨rfl,rfl,rfl,eb _,fun _ _ _=>rfl⟩
theorem Mo.trans {M:List Nat}{a b c:World}(h:Mo M a b)(k:Mo M b c):Mo M a c :=
 ⟨k.os.trans h.os,k.tape.trans h.tape,k.output.trans h.output,ed h.size k.size,fun x d e=>(k.blk x (ep d h.size) e).trans (h.blk x d e)⟩
theorem Ext.mo {a b:World}(h:Ext a b)(M:List Nat):Mo M a b:=⟨h.os,h.tape,h.output,h.size,fun x c _=>Below.block h x c⟩
theorem Mo.ext {a b:World}(h:Mo [] a b):Ext a b:=⟨h.os,h.tape,h.output,h.size,fun x c=>h.blk x c (by simp)⟩
structure UpM (M:List Nat) (w:World) (h:Hp) (w':World) (h':Hp):Prop where
  mo:Mo M w w'
  gr:Gr h h'
  g:G w' h'
theorem Up.m {w w':World}{h a:Hp}(u:Up w h w' a)(M:List Nat):UpM M w h w' a:=⟨u.ext.mo M,u.gr,u.g⟩
theorem UpM.refl {M:List Nat}{w:World}{h:Hp}(g:G w h):UpM M w h w h:=⟨Mo.refl _ _,Gr.refl _,g⟩
theorem UpM.trans {M:List Nat}{w w1 w2:World}{h h1 c:Hp}(a:UpM M w h w1 h1)(b:UpM M w1 h1 w2 c):UpM M w h w2 c:=⟨a.mo.trans b.mo,a.gr.trans b.gr,b.g⟩
theorem UpM.up {w w':World}{h a:Hp}(u:UpM [] w h w' a):Up w h w' a:=⟨u.mo.ext,u.gr,u.g⟩
structure Ms where
  l:List Nat
  z:Option (Nat × List Nat)
def Tl (M:Ms)(w w':World):Prop:=∀ K bs,M.z=some (K,bs)->w.heap.size<=w'.heap.size/\∀ b,b<K->b ∉ bs->w'.heap[b]?=w.heap[b]?
theorem Tl.refl (M:Ms)(w:World):Tl M w w:=fun _ _ _=>⟨eb _,fun _ _ _=>rfl⟩
theorem Tl.none {M:Ms}(h:M.z=none)(w w':World):Tl M w w':=fun _ _ e=>by rw[h] at e;cases e
def Rl (M:Ms)(k0 i:Nat)(w w':World):Prop:=(i<k0->Mo M.l w w')/\(k0<=i->Tl M w w')
theorem Rl.refl (M:Ms)(k0 i:Nat)(w:World):Rl M k0 i w w:=⟨fun _=>Mo.refl _ _,fun _=>Tl.refl _ _⟩
theorem Rl.mo {M:Ms}{k0 i:Nat}{w w':World}(h:i<k0)(m:Mo M.l w w'):Rl M k0 i w w':=⟨fun _=>m,fun a=>absurd a oM⟩
theorem Rl.tl {M:Ms}{k0 i:Nat}{w w':World}(h:k0<=i)(m:Tl M w w'):Rl M k0 i w w':=⟨fun a=>absurd a oM,fun _=>m⟩
section region
variable (M:Ms)(P:Program)(ops:Array Oper)(Q:Exit->Act->World->Prop)(k0:Nat)
def ot:Nat->Array Bool->Act->World->Prop
  | 0,L,a,w=>Region.ready .any ops L=[]/\Q .normal a w
  | n + 1,L,a,w=>(Region.ready .any ops L=[]->Q .normal a w) /\
      ∀ i∈Region.ready .any ops L,wpOp P ops Q i (fun a' w'=>Rl M k0 i w w'/\ot n (L.setIfInBounds i true) a' w') a w
theorem lU:∀ (n:Nat) (L:Array Bool) (a:Act) (w:World),ot M P ops Q k0 n L a w->wpAny P .any ops Q n L a w
 | 0,_,_,_,h=>h
 | n+1,_,_,_,h=>⟨h.1,fun i hi=>wpOp_mono (fun a' w' h'=>lU n _ a' w' h'.2) (h.2 i hi)⟩
def rem (L:Array Bool):Nat:=L.toList.count false
def A (L:Array Bool)(a:Act)(w:World):Prop:=ot M P ops Q k0 (rem L) L a w
variable {M P ops Q k0}
theorem Ew {L:Array Bool}{i:Nat}(h:L.getD i true=false):∃ hi:i<L.size,L[i]=false:=by
 rcases co i L.size with hi|hi
 ·exact ⟨hi,by simpa [e4,hi] using h⟩
 ·simp[e4,Nat.not_lt.2 hi] at h
theorem Cv {L:Array Bool}{i:Nat}(h:L.getD i true=false):rem L=rem (L.setIfInBounds i true)+1:=by
 obtain ⟨hi,e⟩:=Ew h
 unfold rem
 rw[Array.toList_setIfInBounds,List.count_set (by simpa using hi)];have a:L.toList[i]'(by simpa using hi)=false:=by simpa using e
 have b:0<L.toList.count false:=List.count_pos_iff.2 (by rw[<-a];exact e5 _);rw[a,if_pos (by rfl),if_neg kD]
 omega
theorem d6 {L:Array Bool}{i:Nat}(h:i∈Region.ready .any ops L):rem L=rem (L.setIfInBounds i true)+1:=Cv (mem_ready.1 h).1
theorem A.intro {L:Array Bool}{a:Act}{w:World}(h0:Region.ready .any ops L=[]->Q .normal a w)
    (h1:∀ i∈Region.ready .any ops L,wpOp P ops Q i (fun a' w'=>Rl M k0 i w w'/\A M P ops Q k0 (L.setIfInBounds i true) a' w') a w):A M P ops Q k0 L a w:=by
  unfold A
  cases d:rem L with
  | zero =>
    have hr:Region.ready .any ops L=[]:=by
      cases hr:Region.ready .any ops L with
      | nil=>rfl
      | cons i l =>
        have:=d6 (ops:=ops) (L:=L) (i:=i) (by rw[hr];simp)
        omega
    exact ⟨hr,h0 hr⟩
  | succ n =>
    refine ⟨h0,fun i hi=>?_⟩;have e:=d6 hi;have b:=h1 i hi
    unfold A at b
    have c:rem (L.setIfInBounds i true)=n:=by omega
    rw[c] at b
    exact b
theorem A.done {L:Array Bool}{a:Act}{w:World}(hr:(Region.ready .any ops L).isEmpty=true)(h:Q .normal a w):A M P ops Q k0 L a w:=by
 have b:Region.ready .any ops L=[]:=by simpa using hr
 exact A.intro (fun _=>h) (fun i hi=>by rw[b] at hi;cases hi)
theorem lf {i:Nat}{D:Oper}{v:Value}{S:World->Prop}(hi:ops[i]?=some D)(B:∀ (j:Nat) (o:Oper) cs b,ops[j]?=some o->o.op≠.select cs b)
    (hQ:∀ c a w,Q (.panic c) (a.put D.dst v) w->Q (.panic c) a w)(J:∀ w w',S w->Mo M.l w w'->S w') :
    ∀ (n:Nat) (L:Array Bool) (a:Act) (w:World),
      (∀ j f,ops[j]?=some f->j≠i->L.getD j true=false->(∀ e∈f.after,Region.binds .any e=true->e.on≠i)->D.apart ops f=true) ->
      ((∀ w,S w)\/(∀ w w',S w->Tl M w w'->S w')\/∀ j f,ops[j]?=some f->k0<=j->j≠i->∃ e∈f.after,Region.binds .any e=true/\e.on=i) ->
      i∈Region.ready .any ops L->YieldsIf P ops S D v a->S w ->
      ot M P ops Q k0 n (L.setIfInBounds i true) (a.put D.dst v) w->(i<k0)->ot M P ops Q k0 (n+1) L a w:=by
  intro n
  induction n with
  | zero =>
    intro L a w _ _ hr U F H _;refine ⟨fun h=>(by rw[h] at hr;cases hr),fun j O=>?_⟩
    by_cases hji:j=i
    . subst hji;exact U.wpOp hi F ⟨Rl.refl _ _ _ _,H⟩
    . have:=ready_mono O hji
      rw[H.1] at this
      cases this
  | succ n ih =>
    intro L a w p d hr U F H Z;refine ⟨fun h=>(by rw[h] at hr;cases hr),fun j O=>?_⟩
    by_cases hji:j=i
    . subst hji;exact U.wpOp hi F ⟨Rl.refl _ _ _ _,H⟩
    . have h1:=H.2 j (ready_mono O hji)
      obtain ⟨z,f,x,I⟩:=mem_ready.1 O
      have C:∀ e∈f.after,Region.binds .any e=true->e.on≠i:=fun e he hb Y=>by
        have h1:=I e he hb;have h0:=(mem_ready.1 hr).1;rw[Y] at h1
        obtain ⟨y,h0'⟩:=Ew h0
        simp[e4,y,h0'] at h1
      have h2:=wpOp_putIf x (p j f x hji z C) (fun cs b=>B i D cs b hi) (fun cs b=>B j f cs b x) hQ U h1
      have u:∀ k ok,ops[k]?=some ok->k≠i->(L.setIfInBounds j true).getD k true=false ->
          (∀ e∈ok.after,Region.binds .any e=true->e.on≠i)->D.apart ops ok=true:=fun k ok Z W K X=>by
        refine p k ok Z W ?_ X
        by_cases hjk:j=k
        . subst hjk;exact z
        . rw[getD_set_ne true hjk] at K;exact K
      have hS':∀ w',Rl M k0 j w w'->S w':=fun w' hx=>by
        rcases d with ht|ht|ht
        . exact ht w'
        . rcases co j k0 with y|y
          . exact J _ _ F (hx.1 y)
          . exact ht _ _ F (hx.2 y)
        . rcases co j k0 with y|y
          . exact J _ _ F (hx.1 y)
          . obtain ⟨e,he,hb,ho⟩:=ht j f x y hji
            exact absurd ho (C e he hb)
      refine wpOp_mono (fun a' w' V=>⟨V.2.1,ih (L.setIfInBounds j true) a' w' u d (ready_mono hr (Ne.symm hji)) V.1 (hS' w' V.2.1) ?_ Z⟩) h2;rw[e6 _ _ hji];exact V.2.2
structure Al where
  i:Nat
  t:Nat
  o:Obj
structure AlOk (P:Program) (ops:Array Oper) (k0:Nat) (x:Al):Prop where
  ex:∃ o,ops[x.i]?=some o/\o.dst=some x.t/\o.guard=none/\o.after = #[]/\(∀ (ρ:Operand->Value) (w:World),(execOp ρ o).run P w=.ok (.value (.pointer (some ⟨w.heap.size,0,none⟩))) (w.alloc x.o))
  lt:x.i<k0
abbrev SA:=Al × Nat
def dO (L:Array Bool)(S:List SA):Array Bool:=S.foldr (fun s L=>L.setIfInBounds s.1.i true) L
def addA (a:Act)(S:List SA):Act:=S.foldr (fun s a=>a.put (some s.1.t) (.pointer (some ⟨s.2,0,none⟩))) a
def Blk (h0:Hp)(w:World)(h:Hp)(s:SA):Prop:=w.heap[s.2]?=some s.1.o/\h[s.2]?=some junk/\h0.size<=s.2
theorem Blk.up {h0:Hp}{w w':World}{h f:Hp}{s:SA}(b:Blk h0 w h s)(u:UpM M.l w h w' f)(hM:∀ b∈M.l,b<h0.size):Blk h0 w' f s:=by
 obtain ⟨e,c,i⟩:=b
 have a:s.2<w.heap.size:=by
  rcases co s.2 w.heap.size with a|a
  ·exact a
  ·rw[ea a] at e;cases e
 have d:s.2<h.size:=by
  rcases co s.2 h.size with a|a
  ·exact a
  ·rw[ea a] at c;cases c
 exact ⟨(u.mo.blk _ a (fun j=>by have:=hM _ j;omega)).trans e,(u.gr.blk _ d).trans c,i⟩
theorem Blk.lt {h0:Hp}{w:World}{h:Hp}{s:SA}(b:Blk h0 w h s):s.2<w.heap.size:=by
 rcases co s.2 w.heap.size with hl|hl
 ·exact hl
 ·have:=b.1;rw[ea hl] at this;cases this
variable (M P ops Q k0) in
def E (h0:Hp)(AL:List Al)(L:Array Bool)(a:Act)(w:World)(h:Hp):Prop :=
  ∀ w' h',Up w h w' h'->∀ (S:List SA) (T:List Al),(S.map (·.1)++T).Perm AL->(∀ s∈S,Blk h0 w' h' s)->(S.map (·.2)).Nodup ->
    A M P ops Q k0 (dO L S) (addA a S) w'
theorem gV (L:Array Bool)(S:List SA)(i:Nat)(hi:∀ s∈S,s.1.i≠i):dO (L.setIfInBounds i true) S=(dO L S).setIfInBounds i true:=by
  induction S with
  | nil=>rfl
  | cons s S ih =>
    have h1:s.1.i≠i:=hi s (by simp)
    show (dO (L.setIfInBounds i true) S).setIfInBounds s.1.i true=((dO L S).setIfInBounds s.1.i true).setIfInBounds i true
    rw[ih (fun t a=>hi t (by simp[a])),e6 _ _ (Ne.symm h1)]
theorem gL (a:Act)(S:List SA)(d:Option Tmp)(v:Value)(b:∀ s∈S,d≠some s.1.t):addA (a.put d v) S=(addA a S).put d v:=by
  induction S with
  | nil=>rfl
  | cons s S ih =>
    have h1:d≠some s.1.t:=b s (by simp)
    show (addA (a.put d v) S).put (some s.1.t) _=((addA a S).put (some s.1.t) _).put d v
    rw[ih (fun t c=>b t (by simp[c]))];exact Act.put_comm _ _ _ (fun x e f=>h1 (e.trans f.symm))
theorem f0 {L:Array Bool}{S:List SA}{j:Nat}(h:(dO L S).getD j true=false):L.getD j true=false:=by
  induction S with
  | nil=>exact h
  | cons s S ih =>
    apply ih
    have a:((dO L S).setIfInBounds s.1.i true).getD j true=false:=h
    by_cases e:s.1.i=j
    . subst e
      obtain ⟨c,b⟩:=Ew a
      simp at b
    . rwa [getD_set_ne true e] at a
theorem gg {L:Array Bool}{S:List SA}{j:Nat}(d:Bool)(a:∀ s∈S,s.1.i≠j):(dO L S).getD j d=L.getD j d:=by
  induction S with
  | nil=>rfl
  | cons s S ih =>
    show ((dO L S).setIfInBounds s.1.i true).getD j d=_
    rw[getD_set_ne d (a s (by simp))];exact ih (fun t b=>a t (by simp[b]))
theorem jS {L:Array Bool}{S:List SA}{j:Nat}(h:L.getD j false=true):(dO L S).getD j false=true:=by
 induction S with
 | nil=>exact h
 | cons s S ih=>exact getD_set_true (listed:=dO L S) ih
theorem lJ {L:Array Bool}{S:List SA}{i:Nat}(hi:∀ s∈S,s.1.i≠i)(h:i∈Region.ready .any ops L):i∈Region.ready .any ops (dO L S):=by
 rw[mem_ready] at *
 obtain ⟨h0,o,b,a⟩:=h;exact ⟨by rw[gg true hi];exact h0,o,b,fun e c d=>jS (a e c d)⟩
theorem jC {o:Oper}(i:∀ cs b,o.op≠.select cs b)(a:Act)(S:List SA)(h:∀ s∈S,s.1.t ∉ o.looksAt ops) :
    execOp (addA a S).eval o=execOp a.eval o/\Region.wanted o (yielded ops (addA a S).tmps)=Region.wanted o (yielded ops a.tmps):=by
  induction S with
  | nil=>exact ⟨rfl,rfl⟩
  | cons s S ih =>
    obtain ⟨f,k⟩:=ih (fun t j=>h t (by simp[j]));have e:∀ d,some s.1.t=some d->d ∉ o.looksAt ops:=fun d c=>by injection c with c;subst c;exact h s (by simp)
    exact ⟨(execOp_put (ops:=ops) o i _ _ _ e).trans f,(wanted_put (ops:=ops) o _ _ _ e).trans k⟩
theorem eg {S:List SA}{T AL:List Al}(a:(S.map (·.1)++T).Perm AL){s:SA}(b:s∈S):s.1∈AL :=
 a.mem_iff.1 (fo.2 (.inl (ga.2 ⟨s,b,rfl⟩)))
def OpR (P:Program)(ops:Array Oper)(o:Oper)(a:Act)(w:World)(R:Value->World->Prop):Prop :=
  Region.wanted o (yielded ops a.tmps)=true /\
  ((∃ v w',(execOp a.eval o).run P w=.ok (.value v) w'/\R v w')\/(∃ w',(execOp a.eval o).run P w=.ok .skip w'/\R undef w') \/
   (∃ f args,(execOp a.eval o).run P w=.ok (.enter f args) w/\Calls P f args w (fun e w'=>∃ v,e=.returned v/\R v w')))
theorem OpR.wpOp {i:Nat}{o:Oper}{a:Act}{w:World}{R:Value->World->Prop}{K:Act->World->Prop}(hi:ops[i]?=some o)(h:OpR P ops o a w R)
  (c:∀ v w',R v w'->K (a.put o.dst v) w'):wpOp P ops Q i K a w:=by
 obtain ⟨d,h⟩:=h
 unfold Go.wpOp
 simp only[hi,d,if_true]
 left
 unfold Oper.wp
 rcases h with ⟨v,w',hr,b⟩|⟨w',hr,b⟩|⟨f,args,hr,hc⟩
 ·rw[hr];exact c _ _ b
 ·rw[hr];exact c _ _ b
 ·rw[hr]
  refine Calls.mono hc fun e w' j=>?_
  obtain ⟨v,rfl,b⟩:=j;exact c _ _ b
theorem OpR.addA {o:Oper}{a:Act}{w:World}{R:Value->World->Prop}(h:OpR P ops o a w R)(e:∀ cs b,o.op≠.select cs b)(S:List SA)(d:∀ s∈S,s.1.t ∉ o.looksAt ops) :
  OpR P ops o (addA a S) w R:=by
 obtain ⟨f,c⟩:=jC (ops:=ops) e a S d
 unfold OpR at *
 rw[f,c];exact h
theorem BS {x:Al}(ok:AlOk P ops k0 x){a:Act}{w:World}{K:Act->World->Prop}(h:K (a.put (some x.t) (.pointer (some ⟨w.heap.size,0,none⟩))) (w.alloc x.o)):wpOp P ops Q x.i K a w:=by
 obtain ⟨o,h1,c,d,_,b⟩:=ok.ex
 unfold Go.wpOp
 simp only[h1]
 rw[if_pos (by simp[Region.wanted,d])]
 left
 unfold Oper.wp
 rw[b]
 show K (a.put o.dst _) _
 rw[c];exact h
theorem pd {x:Al}(ok:AlOk P ops k0 x){L:Array Bool}(h:L.getD x.i true=false):x.i∈Region.ready .any ops L:=by
 obtain ⟨o,h1,_,_,b,_⟩:=ok.ex;exact mem_ready.2 ⟨h,o,h1,fun e a=>by rw[b] at a;simp at a⟩
theorem nN {h0:Hp}{AL:List Al}{L:Array Bool}{a:Act}{w':World}{e:Hp}{S:List SA}{T:List Al}{x:Al}
  (f:∀ x∈AL,AlOk P ops k0 x)(hM:∀ b∈M.l,b<h0.size)(g:G w' e)(j:h0.size<=e.size)(y:(S.map (·.1)++T).Perm AL)(k:∀ s∈S,Blk h0 w' e s)(D:(S.map (·.2)).Nodup)(p:x∈T)
  (C:∀ (w1:World) (h1:Hp) (S1:List SA) (d:List Al),Up w' e w1 h1->(S1.map (·.1)++d).Perm AL->(∀ s∈S1,Blk h0 w1 h1 s)->(S1.map (·.2)).Nodup->d.length<T.length->A M P ops Q k0 (dO L S1) (addA a S1) w1) :
  wpOp P ops Q x.i (fun z w1=>Rl M k0 x.i w' w1/\A M P ops Q k0 ((dO L S).setIfInBounds x.i true) z w1) (addA a S) w':=by
 have c:x∈AL:=y.mem_iff.1 (fo.2 (.inr p))
 obtain ⟨d,hT⟩:∃ d,T.Perm (x::d):=by
  obtain ⟨B,l2,rfl⟩:=List.append_of_mem p;exact ⟨B++l2,ge⟩
 have u:Up w' e (w'.alloc x.o) (e.push junk):=Up.allocAny g _ _ (.inr rfl);refine BS (f x c) ⟨Rl.mo (f x c).lt (u.m M.l).mo,?_⟩;refine C (w'.alloc x.o) (e.push junk) ((x,w'.heap.size)::S) d u ?_ ?_ ?_ ?_
 ·refine List.Perm.trans ?_ y
  show (x::(S.map (·.1)++d)).Perm _
  refine List.Perm.trans ge.symm ?_;exact List.Perm.append_left _ hT.symm
 ·intro s h
  rcases gq.1 h with rfl|h
  ·refine ⟨?_,?_,?_⟩
   ·rw[dq];exact e0
   ·rw[g.size];exact e0
   ·show h0.size<=w'.heap.size;rw[g.size];exact j
  ·exact (k s h).up (u.m M.l) hM
 ·show (w'.heap.size::S.map (·.2)).Nodup
  refine gs.2 ⟨fun F=>?_,D⟩;obtain ⟨s,h,H⟩:=ga.1 F;have:=(k s h).lt
  omega
 ·have:=hT.length_eq
  simp at this
  omega
theorem g7 {AL:List Al}{L:Array Bool}{S:List SA}{T:List Al}{x:Al}(c:(S.map (·.1)++T).Perm AL)(f:x∈AL)(hr:x.i∈Region.ready .any ops (dO L S)):x∈T:=by
  rcases fo.1 (c.mem_iff.2 f) with hm|hm
  . obtain ⟨s,d,b⟩:=ga.1 hm
    have h1:=(mem_ready.1 hr).1
    exfalso
    rw[<-b] at h1
    clear hr c hm b
    induction S with
    | nil=>cases d
    | cons t S ih =>
      have a:((dO L S).setIfInBounds t.1.i true).getD s.1.i true=false:=h1
      by_cases e:t.1.i=s.1.i
      . rw[e] at a
        obtain ⟨h,b⟩:=Ew a
        simp at b
      . rw[getD_set_ne true e] at a
        rcases gq.1 d with rfl|hs'
        . exact e rfl
        . exact ih hs' a
  . exact hm
end region
section laws
variable {M:Ms}{P:Program}{ops:Array Oper}{Q:Exit->Act->World->Prop}{k0:Nat}
theorem tp (L:Array Bool)(S:List SA):(dO L S).size=L.size:=by
 induction S with
 | nil=>rfl
 | cons s S ih=>show ((dO L S).setIfInBounds s.1.i true).size=_;simp[ih]
theorem E.take0 {h0:Hp}{AL:List Al}{L:Array Bool}{a:Act}{w:World}{h:Hp}{i:Nat}{o:Oper}{v:Value}{S:World->Prop}
  (hi:ops[i]?=some o)(O:i<k0)(f:Region.noSelect ops=true)(hf:Region.free .any ops L i=true)(hr:i∈Region.ready .any ops L)
  (C:∀ x∈AL,x.i≠i/\x.t ∉ o.looksAt ops/\o.dst≠some x.t)(W:∀ c a w,¬Q (.panic c) a w)
  (B:∀ w w',S w->Mo M.l w w'->S w')(hS:∀ w',Mo M.l w w'->S w')(Y:YieldsIf P ops S o v a)
  (k:(∀ w,S w)\/(∀ w w',S w->Tl M w w'->S w')\/∀ j z,ops[j]?=some z->k0<=j->j≠i->∃ e∈z.after,Region.binds .any e=true/\e.on=i)
  (H:E M P ops Q k0 h0 AL (L.setIfInBounds i true) (a.put o.dst v) w h):E M P ops Q k0 h0 AL L a w h:=by
 intro w' V u p T I Z hn;have d:∀ s∈p,s.1.i≠i/\s.1.t ∉ o.looksAt ops/\o.dst≠some s.1.t:=fun s b=>C _ (eg I b)
 have J:=H w' V u p T I Z hn;rw[gV L p i (fun s b=>(d s b).1),gL a p o.dst v (fun s b=>(d s b).2.2)] at J
 have y:=lJ (fun s b=>(d s b).1) hr;obtain ⟨X,e2⟩:=jC (ops:=ops) (Region.noSelect_spec f i o · · hi) a p (fun s b=>(d s b).2.1)
 unfold A at *
 rw[d6 y]
 exact lf hi (Region.noSelect_spec f) (fun c a w K=>absurd K (W _ _ _)) B _ _ _ _
  (fun j z U D F=>Region.free_spec hi hf j z U D (f0 F)) k y (Y.of_same X e2) (hS _ (u.m M.l).mo) J O
theorem E.event0 {h0:Hp}{AL:List Al}{L:Array Bool}{a:Act}{w:World}{h:Hp}{i:Nat}{o:Oper}
    (hi:ops[i]?=some o)(hk:i<k0)(J:Region.noSelect ops=true)(hL:L.size=ops.size)(hun:L.getD i true=false)
    (O:∀ j X,ops[j]?=some X->L.getD j true=false->j≠i->(∀ x∈AL,x.i≠j)->∃ e∈X.after,Region.binds .any e=true/\L.getD e.on false=false/\∀ x∈AL,x.i≠e.on)
    (U:∀ e∈o.after,Region.binds .any e=true->L.getD e.on false=true\/∃ x∈AL,x.i=e.on)
    (hal:∀ x∈AL,x.i≠i/\x.t ∉ o.looksAt ops/\o.dst≠some x.t)(z:∀ x∈AL,AlOk P ops k0 x)(hM:∀ b∈M.l,b<h0.size)(g:G w h)(hsz:h0.size<=h.size)
    (H:∀ w' f,Up w h w' f->OpR P ops o a w' (fun v p=>∃ k,UpM M.l w' f p k/\E M P ops Q k0 h0 AL (L.setIfInBounds i true) (a.put o.dst v) p k)):E M P ops Q k0 h0 AL L a w h:=by
  have key:∀ (m:Nat) (T:List Al),T.length=m->∀ w' f,Up w h w' f->∀ (S:List SA),(S.map (·.1)++T).Perm AL->(∀ s∈S,Blk h0 w' f s)->(S.map (·.2)).Nodup ->
      A M P ops Q k0 (dO L S) (addA a S) w':=by
    intro m
    induction m using g2 with
    | _ m ih =>
      intro T hT w' f u S C W Y;have y:∀ s∈S,s.1.i≠i/\s.1.t ∉ o.looksAt ops/\o.dst≠some s.1.t:=fun s c=>hal _ (eg C c)
      refine A.intro (fun K=>?_) (fun j hj=>?_)
      . exfalso
        by_cases hd:∃ e∈o.after,Region.binds .any e=true/\(dO L S).getD e.on false=false
        . obtain ⟨e,B,d,hf⟩:=hd
          rcases U e B d with h1|⟨x,D,hxe⟩
          . rw[jS h1] at hf;cases hf
          . have V:x.i<(dO L S).size:=by
              obtain ⟨o',ho',_⟩:=(z x D).ex;rw[tp,hL];exact (g3.1 ho').1
            have:x.i∈Region.ready .any ops (dO L S):=pd (z x D) (by rw[<-hxe] at hf;simp[e4,V] at hf ⊢;exact hf);rw[K] at this
            cases this
        . have:i∈Region.ready .any ops (dO L S):=mem_ready.2 ⟨by rw[gg true (fun s c=>(y s c).1)];exact hun,o,hi,fun e B d=>by
            cases hv:(dO L S).getD e.on false
            . exact absurd ⟨e,B,d,hv⟩ hd
            . rfl⟩
          rw[K] at this
          cases this
      . by_cases hji:j=i
        . subst hji
          refine OpR.wpOp hi ((H w' f u).addA (Region.noSelect_spec J j o · · hi) S (fun s c=>(y s c).2.1)) ?_;rintro v p ⟨k,u2,H2⟩;refine ⟨Rl.mo hk u2.mo,?_⟩;rw[<-gV L S j (fun s c=>(y s c).1),<-gL a S o.dst v (fun s c=>(y s c).2.2)];exact H2 p k (Up.refl u2.g) S T C (fun s c=>(W s c).up u2 hM) Y
        . obtain ⟨F,X,hoj,I⟩:=mem_ready.1 hj
          have D:∃ x∈AL,x.i=j:=by
            refine Classical.byContradiction fun Z=>?_
            obtain ⟨e,B,d,hf,hne⟩:=O j X hoj (f0 F) hji (fun x D B=>Z ⟨x,D,B⟩);have:=I e B d;rw[gg false (fun s c=>hne _ (eg C c)),hf] at this
            cases this
          obtain ⟨x,hxA,rfl⟩:=D;have hxT:=g7 C hxA hj;exact nN z hM u.g (ed hsz u.gr.size) C W Y hxT (fun w1 h1 S1 T1 u1 hp1 hb1 hn1 V=>ih T1.length oM T1 rfl w1 h1 (u.trans u1) S1 hp1 hb1 hn1)
  exact fun w' f u S T C W Y=>key _ T rfl w' f u S C W Y
theorem E.fin0 {h0:Hp}{AL:List Al}{L:Array Bool}{a:Act}{w:World}{h:Hp}(hL:L.size=ops.size)
    (K:∀ j D,ops[j]?=some D->L.getD j true=false->(∃ x∈AL,x.i=j)\/∀ x∈AL,∃ e∈D.after,Region.binds .any e=true/\e.on=x.i)
    (z:∀ x∈AL,L.getD x.i true=false)(y:∀ x∈AL,AlOk P ops k0 x)(hM:∀ b∈M.l,b<h0.size)(Y:h0.size<=h.size)(O:(AL.map (·.i)).Nodup)
    (H:∀ w' c,Up w h w' c->∀ S:List SA,(S.map (·.1)).Perm AL->(∀ s∈S,Blk h0 w' c s)->(S.map (·.2)).Nodup->A M P ops Q k0 (dO L S) (addA a S) w'):E M P ops Q k0 h0 AL L a w h:=by
  have key:∀ (m:Nat) (T:List Al),T.length=m->∀ w' c,Up w h w' c->∀ (S:List SA),(S.map (·.1)++T).Perm AL->(∀ s∈S,Blk h0 w' c s)->(S.map (·.2)).Nodup ->
      A M P ops Q k0 (dO L S) (addA a S) w':=by
    intro m
    induction m using g2 with
    | _ m ih =>
      intro T hT w' c u S o C F;cases T with
      | nil=>exact H w' c u S (by simpa using o) C F
      | cons t T' =>
        have k:t∈AL:=o.mem_iff.1 (fo.2 (.inr (by simp)));have d:((S.map (·.1)++t::T').map (·.i)).Nodup:=(o.map (·.i)).nodup_iff.2 O
        have I:∀ s∈S,s.1.i≠t.i:=fun s hs X=>by
          rw[List.map_append,List.nodup_append] at d
          exact d.2.2 s.1.i (ga.2 ⟨s.1,ga.2 ⟨s,hs,rfl⟩,rfl⟩) t.i (ga.2 ⟨t,by simp,rfl⟩) X
        have f:t.i∈Region.ready .any ops (dO L S):=pd (y t k) (by rw[gg true I];exact z t k);refine A.intro (fun W=>by rw[W] at f;cases f) (fun j hj=>?_);obtain ⟨p,D,hoj,B⟩:=mem_ready.1 hj
        rcases K j D hoj (f0 p) with ⟨x,hxA,rfl⟩|hw
        . have V:=g7 o hxA hj
          exact nN y hM u.g (ed Y u.gr.size) o C F V (fun w1 h1 S1 T1 u1 hp1 J Z hlt=>ih T1.length oM T1 rfl w1 h1 (u.trans u1) S1 hp1 J Z)
        . obtain ⟨e,X,U,hon⟩:=hw t k
          have:=B e X U;rw[hon] at this
          obtain ⟨hl,hv⟩:=Ew (mem_ready.1 f).1
          simp[e4,hl,hv] at this
  exact fun w' c u S T o C F=>key _ T rfl w' c u S o C F
end laws
abbrev ck:=List (Nat × Value)
def iC (Γ:ck):List Deferred:=match Γ.lookup 1000000 with|some (.int _ D)=>[{ target:=.collected D.toNat,args:=#[] }]|_=>[]
structure Kn (n:Nat) (a:Act) (Γ:ck):Prop where
  df:a.defers=iC Γ
  sz:a.tmps.size=n
  nb:n<=1000000
  has:∀ t v,t≠1000000->Γ.lookup t=some v->a.tmps[t]?=some v
def ev (Γ:ck):Operand->Value
  | .tmp t=>(Γ.lookup t).getD undef
  | .const v=>v
  | .global g=>.pointer (some ⟨g,0,none⟩)
  | .func f=>.func (.func f) #[] #[]
def av (ops:Array Oper)(i:Nat):Oper:=ops.getD i default
def gM (Γ:ck):Operand->Bool
  | .tmp t=>t != 1000000 && (Γ.lookup t).isSome
  | _=>true
def ba (Γ:ck)(o:Oper):Bool:=o.op.operands.all (gM Γ)
def bu (ops:Array Oper)(Γ:ck)(o:Oper):Option Bool :=
  match o.guard with
  | none=>some true
  | some (g,want)=>match ((ops[g]?).bind (·.dst)).bind (fun t=>if t=1000000 then none else Γ.lookup t) with
    | some (.bool b)=>some (b == want)
    | some (.tuple _)=>some false
    | _=>none
theorem Kn.put {n:Nat}{a:Act}{Γ:ck}(k:Kn n a Γ){t:Nat}(c:t<n)(v:Value):Kn n (a.put (some t) v) ((t,v)::Γ):=by
 have f:=k.nb;refine ⟨?_,by simpa [Act.put] using k.sz,k.nb,fun s u d hu=>?_⟩
 ·have e:((1000000:Nat) == t)=false:=by simp;omega
  show a.defers=_
  rw[k.df];unfold iC;rw[g4,e]
 rw[g4] at hu
 by_cases e:s=t
 ·subst e
  simp at hu
  subst hu
  simp[Act.put,k.sz,c]
 ·have b:(s == t)=false:=by simp[e]
  rw[b] at hu
  simp only[Act.put]
  rw[g6 (Ne.symm e)];exact k.has s u d hu
theorem Kn.eval {n:Nat}{a:Act}{Γ:ck}(k:Kn n a Γ){x:Operand}(b:gM Γ x=true):a.eval x=ev Γ x:=by
  cases x with
  | tmp t =>
    have b:(t != 1000000 && (Γ.lookup t).isSome)=true:=b;rw[hN] at b
    obtain ⟨v,hv⟩:=hO.1 b.2;have:=k.has t v (by simpa using b.1) hv
    simp[Act.eval,ev,hv,this]
  | _=>rfl
theorem Kn.exec {n:Nat}{a:Act}{Γ:ck}(k:Kn n a Γ){o:Oper}(c:∀ cs b,o.op≠.select cs b)(e:ba Γ o=true):execOp a.eval o=execOp (ev Γ) o :=
 execOp_congr o c (fun x d=>k.eval ((i1.1 e) x d))
theorem Kn.want {n:Nat}{a:Act}{Γ:ck}(k:Kn n a Γ){ops:Array Oper}{o:Oper}{b:Bool}(h:bu ops Γ o=some b):Region.wanted o (yielded ops a.tmps)=b:=by
  unfold bu at h
  unfold Region.wanted
  split at h
  . rename_i d;simp only[d];simpa using h
  . rename_i g want d
    simp only[d]
    cases c:(ops[g]?).bind (·.dst) with
    | none=>rw[c] at h;simp at h
    | some t =>
      rw[c] at h
      simp only[Option.bind_some] at h
      by_cases ht0:t=1000000
      . rw[if_pos ht0] at h;simp at h
      rw[if_neg ht0] at h
      cases hv:Γ.lookup t with
      | none=>rw[hv] at h;simp at h
      | some u =>
        rw[hv] at h
        have e:=k.has t u ht0 hv;cases u with
        | bool x=>simp at h;subst h;simp[yielded,c,e]
        | tuple x=>simp at h;subst h;simp[yielded,c,e]
        | _=>simp at h
theorem Kn.mono {n:Nat}{a:Act}{Γ Γ':ck}(k:Kn n a Γ)(h:∀ t v,Γ'.lookup t=some v->Γ.lookup t=some v)(c:iC Γ'=iC Γ):Kn n a Γ':=⟨k.df.trans c.symm,k.sz,k.nb,fun t v b hv=>k.has t v b (h t v hv)⟩
def jc (Γ:ck):List Nat->ck
  | []=>[]
  | t::ts=>match Γ.lookup t with|some v=>(t,v)::jc Γ ts|none=>jc Γ ts
theorem eT (Γ:ck):∀ (ts:List Nat) (t:Nat) (v:Value),(jc Γ ts).lookup t=some v->Γ.lookup t=some v
  | [],_,_,h=>by simp[jc] at h
  | s :: ts,t,v,h=>by
    unfold jc at h
    split at h
    . rename_i u hu
      rw[g4] at h
      by_cases e:t=s
      . subst e;simp at h;subst h;exact hu
      . have a:(t == s)=false:=by simp[e]
        rw[a] at h
        exact eT Γ ts t v h
    . exact eT Γ ts t v h
abbrev Po:=Act->World->Prop
def iQ (N R:Po)(X:Nat->Po):Exit->Act->World->Prop
  | .normal,a,w=>N a w
  | .ret,a,w=>R a w
  | .exit i,a,w=>X i a w
  | _,_,_=>False
def CG (P:Program)(n:Nat)(N R:Po)(X:Nat->Po)(c:Code)(Γ:ck)(w:World):Prop:=∀ a,Kn n a Γ->c.wp P (iQ N R X) a w
def EG (M:Ms)(P:Program)(n:Nat)(N R:Po)(X:Nat->Po)(ops:Array Oper)(k0:Nat)(h0:Hp)(AL:List Al)(L:Array Bool)(Γ:ck)(w:World)(h:Hp):Prop :=
  (∀ x∈AL,AlOk P ops k0 x)->(∀ b∈M.l,b<h0.size)->G w h->h0.size<=h.size->∀ a,Kn n a Γ->E M P ops (iQ N R X) k0 h0 AL L a w h
def AG (M:Ms)(P:Program)(n:Nat)(N R:Po)(X:Nat->Po)(ops:Array Oper)(k0:Nat)(L:Array Bool)(Γ:ck)(w:World):Prop :=
  ∀ a,Kn n a Γ->A M P ops (iQ N R X) k0 L a w
section steps
variable {M:Ms}{P:Program}{n:Nat}{N R:Po}{X:Nat->Po}{ops:Array Oper}{k0:Nat}{h0:Hp}{AL:List Al}{L:Array Bool}{Γ:ck}{w:World}{h:Hp}
def oW (ops:Array Oper)(AL:List Al)(i:Nat)(o:Oper):Bool:=AL.all fun x=>x.i != i && !(o.looksAt ops).contains x.t && o.dst != some x.t
theorem gn {i:Nat}{o:Oper}(a:oW ops AL i o=true):∀ x∈AL,x.i≠i/\x.t ∉ o.looksAt ops/\o.dst≠some x.t:=by
 intro x b;have:=(i3.1 a) x b
 simp only[hN,bne_iff_ne,ne_eq,Bool.not_eq_true',List.contains_eq_mem,decide_eq_false_iff_not] at this
 exact ⟨this.1.1,this.1.2,this.2⟩
def dl (n:Nat)(ops:Array Oper)(k0:Nat)(AL:List Al)(L:Array Bool)(i t:Nat):Bool :=
  let o:=av ops i
  decide (i<ops.size) && decide (i<k0) && Region.noSelect ops && Region.free .any ops L i && (Region.ready .any ops L).contains i && oW ops AL i o && (o.dst == some t) && decide (t<n)
structure TakeOk (n:Nat) (ops:Array Oper) (k0:Nat) (AL:List Al) (L:Array Bool) (i t:Nat):Prop where
  get:ops[i]?=some (av ops i)
  lt:i<k0
  sel:Region.noSelect ops=true
  free:Region.free .any ops L i=true
  ready:i∈Region.ready .any ops L
  al:∀ x∈AL,x.i≠i/\x.t ∉ (av ops i).looksAt ops/\(av ops i).dst≠some x.t
  dst:(av ops i).dst=some t
  tn:t<n
theorem bN {i:Nat}(h:i<ops.size):ops[i]?=some (av ops i):=by
 unfold av;simp[h]
theorem dg {i t:Nat}(h:dl n ops k0 AL L i t=true):TakeOk n ops k0 AL L i t:=by
 unfold dl at h
 simp only[hN,decide_eq_true_eq,beq_iff_eq] at h
 obtain ⟨⟨⟨⟨⟨⟨⟨h1,d⟩,j⟩,f⟩,c⟩,b⟩,a⟩,e⟩:=h;exact ⟨bN h1,d,j,f,by simpa using c,gn b,a,e⟩
theorem Rg.pure (i t:Nat)(v:Value)(b:(dl n ops k0 AL L i t && ba Γ (av ops i))=true)(o:bu ops Γ (av ops i)=some true)
  (hr:∀ w,(execOp (ev Γ) (av ops i)).run P w=.ok (.value v) w)
  (k:EG M P n N R X ops k0 h0 AL (L.setIfInBounds i true) ((t,v)::Γ) w h):EG M P n N R X ops k0 h0 AL L Γ w h:=by
 rw[hN] at b
 obtain ⟨b,e⟩:=b;have c:=dg b;intro d hM g f a j;have p:=j.exec (Region.noSelect_spec c.sel i _ · · c.get) e;refine E.take0 (v:=v) (S:=fun _=>True) c.get c.lt c.sel c.free c.ready c.al (fun _ _ _ l=>l) (fun _ _ _ _=>trivial) (fun _ _=>trivial) (.inl ⟨j.want o,fun w _=>by rw[p];exact hr w⟩) (.inl fun _=>trivial) ?_;rw[c.dst];exact k d hM g f _ (j.put c.tn v)
theorem Rg.skip (i t:Nat)(j:dl n ops k0 AL L i t=true)(l:bu ops Γ (av ops i)=some false)
  (k:EG M P n N R X ops k0 h0 AL (L.setIfInBounds i true) ((t,undef)::Γ) w h):EG M P n N R X ops k0 h0 AL L Γ w h:=by
 have c:=dg j;intro b hM g d a e;refine E.take0 (v:=undef) (S:=fun _=>True) c.get c.lt c.sel c.free c.ready c.al (fun _ _ _ f=>f) (fun _ _ _ _=>trivial) (fun _ _=>trivial) (.inr ⟨e.want l,rfl⟩) (.inl fun _=>trivial) ?_;rw[c.dst];exact k b hM g d _ (e.put c.tn undef)
def ii (ops:Array Oper)(k0 i:Nat):Bool:=(la ops.size).all fun j=>decide (j<k0) || (av ops j).after.any fun e=>Region.binds .any e && e.on == i
theorem jw {i:Nat}(h:ii ops k0 i=true):∀ j b,ops[j]?=some b->k0<=j->j≠i->∃ e∈b.after,Region.binds .any e=true/\e.on=i:=by
 intro j b c d _;have a:=(g3.1 c).1;have e:b=av ops j:=by have:=bN (ops:=ops) a;rw[c] at this;injection this
 have:=(i3.1 h) j (l4.2 a)
 simp only[mz,decide_eq_true_eq,m3,hN,beq_iff_eq] at this
 rcases this with h1|⟨x,hx,h2⟩
 ·omega
 ·rw[e];exact ⟨_,nn hx,h2⟩
theorem Rg.load (i t:Nat)(v:Value)(b:(dl n ops k0 AL L i t && ba Γ (av ops i) && ii ops k0 i)=true)(x:bu ops Γ (av ops i)=some true)
  (hr:∀ w',Mo M.l w w'->(execOp (ev Γ) (av ops i)).run P w'=.ok (.value v) w')
  (k:EG M P n N R X ops k0 h0 AL (L.setIfInBounds i true) ((t,v)::Γ) w h):EG M P n N R X ops k0 h0 AL L Γ w h:=by
 rw[hN,hN] at b
 obtain ⟨⟨b,f⟩,e⟩:=b;have c:=dg b;intro d hM g j a p;have y:=p.exec (Region.noSelect_spec c.sel i _ · · c.get) f;refine E.take0 (v:=v) (S:=fun w'=>Mo M.l w w') c.get c.lt c.sel c.free c.ready c.al (fun _ _ _ u=>u) (fun _ _ h1 z=>h1.trans z) (fun _ o=>o) (.inl ⟨p.want x,fun w' o=>by rw[y];exact hr w' o⟩) (.inr (.inr (jw e))) ?_;rw[c.dst];exact k d hM g j _ (p.put c.tn v)
theorem Rg.loadZ (i t:Nat)(v:Value){bs:List Nat}(hz:M.z=some (h0.size,bs))(j:(dl n ops k0 AL L i t && ba Γ (av ops i))=true)(B:bu ops Γ (av ops i)=some true)
  (hr:∀ w',(∀ b,b<h0.size->b ∉ bs->b ∉ M.l->w'.heap[b]?=w.heap[b]?)->(execOp (ev Γ) (av ops i)).run P w'=.ok (.value v) w')
  (k:EG M P n N R X ops k0 h0 AL (L.setIfInBounds i true) ((t,v)::Γ) w h):EG M P n N R X ops k0 h0 AL L Γ w h:=by
 rw[hN] at j
 obtain ⟨j,p⟩:=j;have c:=dg j;intro o hM g f a u;have x:h0.size<=w.heap.size:=by rw[g.size];exact f
 have C:=u.exec (Region.noSelect_spec c.sel i _ · · c.get) p;refine E.take0 (v:=v) (S:=fun w'=>h0.size<=w'.heap.size/\∀ b,b<h0.size->b ∉ bs->b ∉ M.l->w'.heap[b]?=w.heap[b]?) c.get c.lt c.sel c.free c.ready c.al (fun _ _ _ y=>y) ?_ ?_ (.inl ⟨u.want B,fun w' D=>by rw[C];exact hr w' D.2⟩) (.inr (.inl ?_)) ?_
 ·intro w1 w2 s m
  exact ⟨ed s.1 m.size,fun b d h1 e=>(m.blk b (ep d s.1) e).trans (s.2 b d h1 e)⟩
 ·intro w' m
  exact ⟨ed x m.size,fun b d h1 e=>m.blk b (ep d x) e⟩
 ·intro w1 w2 s m
  have:=m h0.size bs hz;exact ⟨ed s.1 this.1,fun b d h1 e=>(this.2 b d h1).trans (s.2 b d h1 e)⟩
 ·rw[c.dst]
  exact k o hM g f _ (u.put c.tn v)
def kI (n:Nat)(ops:Array Oper)(k0:Nat)(AL:List Al)(L:Array Bool)(i t:Nat):Bool :=
  let o:=av ops i
  decide (i<ops.size) && decide (i<k0) && Region.noSelect ops && (L.size == ops.size) && (L.getD i true == false) &&
  ((la ops.size).all fun j=>L.getD j true || j == i || AL.any (·.i == j) || (av ops j).after.any fun e=>Region.binds .any e && (L.getD e.on false == false) && AL.all (·.i != e.on)) &&
  (o.after.all fun e=>!Region.binds .any e || L.getD e.on false || AL.any (·.i == e.on)) &&
  oW ops AL i o && (o.dst == some t) && decide (t<n)
theorem Rg.event (i t:Nat)(B:(kI n ops k0 AL L i t && ba Γ (av ops i))=true)(hw:bu ops Γ (av ops i)=some true)
  (H:∀ w' C,Up w h w' C ->
   (∃ v c b,(execOp (ev Γ) (av ops i)).run P w'=.ok (.value v) c/\UpM M.l w' C c b/\EG M P n N R X ops k0 h0 AL (L.setIfInBounds i true) ((t,v)::Γ) c b) \/
   (∃ f args,(execOp (ev Γ) (av ops i)).run P w'=.ok (.enter f args) w'/\Calls P f args w' (fun e c=>∃ v b,e=.returned v/\UpM M.l w' C c b/\EG M P n N R X ops k0 h0 AL (L.setIfInBounds i true) ((t,v)::Γ) c b))) :
  EG M P n N R X ops k0 h0 AL L Γ w h:=by
 rw[hN] at B
 obtain ⟨B,Q⟩:=B
 unfold kI at B
 simp only[hN,decide_eq_true_eq,beq_iff_eq] at B
 obtain ⟨⟨⟨⟨⟨⟨⟨⟨⟨h1,h2⟩,Z⟩,h4⟩,h5⟩,h6⟩,h7⟩,h8⟩,Y⟩,D⟩:=B;have d:=bN (ops:=ops) h1;intro p hM g F a J;have e1:=J.exec (Region.noSelect_spec Z i _ · · d) Q;refine E.event0 d h2 Z h4 h5 ?_ ?_ (gn h8) p hM g F ?_
 ·intro j oj W V U S
  have I:=(g3.1 W).1;have e:oj=av ops j:=by have:=bN (ops:=ops) I;rw[W] at this;injection this
  have:=(i3.1 h6) j (l4.2 I)
  simp only[mz,V,n1,false_or,beq_iff_eq,U,oi,m3,hN] at this
  rcases this with ⟨x,hx,hxe⟩|⟨x,hx,⟨K,hL⟩,hno⟩
  ·exact absurd hxe (S x hx)
  ·rw[e]
   refine ⟨_,nn hx,K,hL,fun y hy=>?_⟩;have:=(i3.1 hno) y hy
   simpa using this
 ·intro e O K
  have:=(i1.1 h7) e O
  simp only[mz,K,ov,n1,false_or,oi,beq_iff_eq] at this
  exact this
 ·intro w' C u
  refine ⟨J.want hw,?_⟩;rw[e1];have o:=ed F u.gr.size
  rcases H w' C u with ⟨v,c,b,hr,z,k⟩|⟨f,args,hr,hcall⟩
  ·exact .inl ⟨v,c,hr,b,z,by rw[Y];exact k p hM z.g (ed o z.gr.size) _ (J.put D v)⟩
  ·exact .inr (.inr ⟨f,args,hr,hcall.mono fun e c ⟨v,b,O,z,k⟩=>⟨v,O,b,z,by rw[Y];exact k p hM z.g (ed o z.gr.size) _ (J.put D v)⟩⟩)
theorem Rg.call (i t f:Nat)(args:Array Value)(b:(kI n ops k0 AL L i t && ba Γ (av ops i))=true)(c:bu ops Γ (av ops i)=some true)
 (hr:∀ w',(execOp (ev Γ) (av ops i)).run P w'=.ok (.enter f args) w')
 (H:∀ w' a,Up w h w' a->Calls P f args w' (fun e w''=>∃ v h'',e=.returned v/\UpM M.l w' a w'' h''/\EG M P n N R X ops k0 h0 AL (L.setIfInBounds i true) ((t,v)::Γ) w'' h'')) :
 EG M P n N R X ops k0 h0 AL L Γ w h:=Rg.event i t b c (fun w' a u=>.inr ⟨f,args,hr w',H w' a u⟩)
def fq (ops:Array Oper)(AL:List Al)(L:Array Bool):Bool :=
  (L.size == ops.size) && ((la ops.size).all fun j=>L.getD j true || AL.any (·.i == j) || AL.all fun x=>(av ops j).after.any fun e=>Region.binds .any e && e.on == x.i) && AL.all (fun x=>L.getD x.i true == false)
theorem Rg.fin (d:fq ops AL L=true)(f:(AL.map (·.i)).Nodup)
  (H:∀ a,Kn n a Γ->∀ w' h',Up w h w' h'->∀ S:List SA,(S.map (·.1)).Perm AL->(∀ s∈S,Blk h0 w' h' s)->(S.map (·.2)).Nodup->A M P ops (iQ N R X) k0 (dO L S) (addA a S) w') :
  EG M P n N R X ops k0 h0 AL L Γ w h:=by
 unfold fq at d
 simp only[hN,beq_iff_eq] at d
 obtain ⟨⟨h1,C⟩,F⟩:=d;intro c hM _ k a D;refine E.fin0 h1 ?_ ?_ c hM k f (H a D)
 ·intro j B p o
  have b:=(g3.1 p).1;have e:B=av ops j:=by have:=bN (ops:=ops) b;rw[p] at this;injection this
  have:=(i3.1 C) j (l4.2 b)
  simp only[mz,o,n1,false_or,oi,beq_iff_eq] at this
  rcases this with h4|h4
  ·exact .inl h4
  ·refine .inr fun x l=>?_
   have:=(i3.1 h4) x l
   simp only[m3,hN,beq_iff_eq] at this
   obtain ⟨y,u,z⟩:=this;rw[e];exact ⟨_,nn u,z⟩
 ·intro x l
  have:=(i3.1 F) x l
  simpa using this
theorem Rg.fin0 (d:fq ops [] L=true)(H:∀ w' b,Up w h w' b->AG M P n N R X ops k0 L Γ w'):EG M P n N R X ops k0 h0 [] L Γ w h:=by
 refine Rg.fin d (by simp) ?_;intro a e w' b u S c _ _;have:S=[]:=by simpa using c.length_eq
 subst this;exact H w' b u a e
theorem Rg.fin1 {x:Al}(d:(fq ops [x] L && decide (x.t<n))=true) 
    (H:∀ w' c b,Up w h w' c->Blk h0 w' c (x,b)->AG M P n N R X ops k0 (L.setIfInBounds x.i true) ((x.t,.pointer (some ⟨b,0,none⟩))::Γ) w'):EG M P n N R X ops k0 h0 [x] L Γ w h:=by
  rw[hN,decide_eq_true_eq] at d
  refine Rg.fin d.1 (by simp) ?_;intro a j w' c u S e k _;have f:=e.length_eq
  match S,f with
  | [s],_ =>
    have:s.1=x:=by simpa using e
    obtain ⟨y,b⟩:=s
    simp at this
    subst this;exact H w' c b u (k _ (by simp)) _ (j.put d.2 _)
theorem Rg.fin2 {x y:Al}(z:(fq ops [x,y] L && decide (x.t<n) && decide (y.t<n) && (x.t != y.t) && (x.i != y.i))=true) 
    (H:∀ w' l b c,Up w h w' l->Blk h0 w' l (x,b)->Blk h0 w' l (y,c)->b≠c->AG M P n N R X ops k0 ((L.setIfInBounds y.i true).setIfInBounds x.i true) ((x.t,.pointer (some ⟨b,0,none⟩))::(y.t,.pointer (some ⟨c,0,none⟩))::Γ) w'):EG M P n N R X ops k0 h0 [x,y] L Γ w h:=by
  simp only[hN,decide_eq_true_eq,bne_iff_ne,ne_eq] at z
  obtain ⟨⟨⟨⟨z,h1⟩,I⟩,W⟩,C⟩:=z;refine Rg.fin z (by simp[C]) ?_;intro a J w' l u S K B Z;have Q:=K.length_eq
  match S,Q with
  | [s, t],_ =>
    obtain ⟨f,b⟩:=s;obtain ⟨j,c⟩:=t;have o:b≠c:=by simpa using Z
    have hm:f=x/\j=y\/f=y/\j=x:=by
      have k:[f,j].Perm [x,y]:=by simpa using K
      have F:f∈[x,y]:=k.mem_iff.1 (by simp);have m2:x∈[f,j]:=k.mem_iff.2 (by simp);have O:y∈[f,j]:=k.mem_iff.2 (by simp);have p:x≠y:=fun e=>C (by rw[e])
      simp at F m2 O
      rcases F with rfl|rfl
      . rcases O with e|e
        . exact absurd e.symm p
        . exact .inl ⟨rfl,e.symm⟩
      . rcases m2 with e|e
        . exact absurd e p
        . exact .inr ⟨rfl,e.symm⟩
    rcases hm with ⟨rfl,rfl⟩|⟨rfl,rfl⟩
    . exact H w' l b c u (B _ (by simp)) (B _ (by simp)) o _ ((J.put I _).put h1 _)
    . have U:dO L [(f,b),(j,c)]=(L.setIfInBounds f.i true).setIfInBounds j.i true:=e6 _ _ C
      have Y:addA a [(f,b),(j,c)]=(a.put (some f.t) (.pointer (some ⟨b,0,none⟩))).put (some j.t) (.pointer (some ⟨c,0,none⟩)) :=
        Act.put_comm (x:=some j.t) (y:=some f.t) a _ _ (fun d V D=>W (Option.some.inj (V.trans D.symm)))
      rw[U,Y];exact H w' l c b u (B _ (by simp)) (B _ (by simp)) (Ne.symm o) _ ((J.put I _).put h1 _)
def gY (ops:Array Oper)(k0:Nat)(L:Array Bool)(i:Nat):Bool :=
  decide (i<ops.size) && decide (k0<=i) && Region.noSelect ops && (Region.ready .any ops L == [i])
theorem A.one {a:Act}{i:Nat}(b:gY ops k0 L i=true){Q:Exit->Act->World->Prop}{o:Oper}(d:ops[i]?=some o){R':Value->World->Prop}(h:OpR P ops o a w R')(f:∀ v w',R' v w'->Tl M w w')
  (e:∀ v w',R' v w'->A M P ops Q k0 (L.setIfInBounds i true) (a.put o.dst v) w'):A M P ops Q k0 L a w:=by
 unfold gY at b
 simp only[hN,decide_eq_true_eq,beq_iff_eq] at b
 refine A.intro (fun h0=>by rw[b.2] at h0;cases h0) (fun j c=>?_);rw[b.2,o0] at c
 subst c;exact OpR.wpOp d h (fun v w' hr=>⟨Rl.tl b.1.1.2 (f v w' hr),e v w' hr⟩)
theorem js {i:Nat}(a:gY ops k0 L i=true):ops[i]?=some (av ops i)/\Region.noSelect ops=true:=by
 unfold gY at a
 simp only[hN,decide_eq_true_eq,beq_iff_eq] at a
 exact ⟨bN a.1.1.1,a.1.2⟩
theorem T.val (i t:Nat)(v:Value)(w':World)(c:(gY ops k0 L i && ba Γ (av ops i) && ((av ops i).dst == some t) && decide (t<n))=true)(f:bu ops Γ (av ops i)=some true)
  (hr:(execOp (ev Γ) (av ops i)).run P w=.ok (.value v) w')(k:AG M P n N R X ops k0 (L.setIfInBounds i true) ((t,v)::Γ) w')(j:Tl M w w':=by exact Tl.refl _ _):AG M P n N R X ops k0 L Γ w:=by
 simp only[hN,decide_eq_true_eq,beq_iff_eq] at c
 obtain ⟨⟨⟨h1,l⟩,o⟩,h⟩:=c;obtain ⟨d,p⟩:=js h1;intro a b;refine A.one h1 d (R':=fun u w1=>u=v/\w1=w') ⟨b.want f,.inl ⟨v,w',?_,rfl,rfl⟩⟩ (fun _ _ e=>e.2▸j) ?_
 ·rw[b.exec (Region.noSelect_spec p i _ · · d) l];exact hr
 ·rintro _ _ ⟨rfl,rfl⟩
  rw[o];exact k _ (b.put h _)
theorem T.store (i:Nat)(w':World)(d:(gY ops k0 L i && ba Γ (av ops i) && ((av ops i).dst == none))=true)(h:bu ops Γ (av ops i)=some true)
  (hr:(execOp (ev Γ) (av ops i)).run P w=.ok .skip w')(f:Tl M w w')(k:AG M P n N R X ops k0 (L.setIfInBounds i true) Γ w'):AG M P n N R X ops k0 L Γ w:=by
 simp only[hN,beq_iff_eq] at d
 obtain ⟨⟨h1,j⟩,o⟩:=d;obtain ⟨c,l⟩:=js h1;intro a b;refine A.one h1 c (R':=fun u w1=>u=undef/\w1=w') ⟨b.want h,.inr (.inl ⟨w',?_,rfl,rfl⟩)⟩ (fun _ _ e=>e.2▸f) ?_
 ·rw[b.exec (Region.noSelect_spec l i _ · · c) j];exact hr
 ·rintro _ _ ⟨rfl,rfl⟩
  rw[o];exact k _ b
theorem T.done (c:(Region.ready .any ops L).isEmpty=true)(k:∀ a,Kn n a Γ->N a w):AG M P n N R X ops k0 L Γ w :=
 fun a b=>A.done c (k a b)
theorem T.next {y:Code}{N' R':Po}{X':Nat->Po}(b:(Region.ready .any ops L).isEmpty=true)(k:CG P n N' R' X' y Γ w):AG M P n (fun a w=>y.wp P (iQ N' R' X') a w) R X ops k0 L Γ w :=
 fun a c=>A.done b (k a c)
end steps
section code
variable {P:Program}{n:Nat}{N R:Po}{X:Nat->Po}{Γ:ck}{w:World}
def kv (ops:Array Oper):Bool:=(la ops.size).all fun i=>(av ops i).after.all fun e=>!Region.binds .any e || decide (e.on<i)
theorem oh {M:Ms}{ops:Array Oper}{Q:Exit->Act->World->Prop}{k0:Nat}(h:kv ops=true):∀ (m k:Nat) (L:Array Bool) (a:Act) (w:World),k+m=ops.size->L.size=ops.size ->
    (∀ j,j<ops.size->L.getD j true=decide (j<k))->A M P ops Q k0 L a w->wpOps P ops Q (o1 k m) a w:=by
  intro m
  induction m with
  | zero =>
    intro k L a w B p b d
    have hz:Region.ready .any ops L=[]:=by
      cases hr:Region.ready .any ops L with
      | nil=>rfl
      | cons i l =>
        have K:i∈Region.ready .any ops L:=by rw[hr];simp
        obtain ⟨h0,o,I,_⟩:=mem_ready.1 K;have hi:=(g3.1 I).1;rw[b i hi] at h0
        simp at h0
        omega
    show Q .normal a w
    unfold A at d
    cases z:rem L with
    | zero=>rw[z] at d;exact d.2
    | succ n=>rw[z] at d;exact d.1 hz
  | succ m ih =>
    intro k L a w B p b d;have f:k<ops.size:=by omega
    have c:k∈Region.ready .any ops L:=by
      refine mem_ready.2 ⟨by rw[b k f];simp,av ops k,bN f,fun e H F=>?_⟩;have h1:=(i3.1 h) k (l4.2 f);have y:=(i1.1 h1) e H
      simp only[F,ov,Bool.false_or,decide_eq_true_eq] at y
      have u:=b e.on oM;rw[show decide (e.on<k)=true by simp[y]] at u
      have J:e.on<L.size:=by omega
      simp[e4,J] at u ⊢
      exact u
    rw[o2,wpOps_cons]
    unfold A at d
    rw[d6 c] at d
    refine wpOp_mono (fun D w' C=>?_) (d.2 k c);refine ih (k+1) (L.setIfInBounds k true) D w' oM (by simpa using p) ?_ C.2;intro j x
    by_cases e:k=j
    . subst e
      simp[e4,p,x]
    . rw[getD_set_ne true e,b j x]
      congr 1
      simp only[eq_iff_iff]
      omega
theorem iG (m:Nat):rem (pa m false)=m:=by unfold rem;simp
theorem lb {m j:Nat}(a:j<m):(pa m false).getD j true=false:=by simp[e4,a]
theorem CG.region {id:Nat}{ops:Array Oper}{d:Bool}(M:Ms)(k0:Nat)(AL:List Al)(y:P.follows .mixedOrders=true)(c:kv ops=true){h:Hp}(g:G w h)(e:∀ x∈AL,AlOk P ops k0 x)(hM:∀ b∈M.l,b<h.size)
    (H:EG M P n N R X ops k0 h AL (pa ops.size false) Γ w h):CG P n N R X (.region id ops d) Γ w:=by
  intro a o;have i:∀ w' f,Up w h w' f->A M P ops (iQ N R X) k0 (pa ops.size false) a w':=fun w' f u=>H e hM g (eb _) a o w' f u [] AL (List.Perm.refl _) (fun _ p=>by cases p) (by simp)
  cases d with
  | true =>
    refine wp_region_any y ?_;have h1:=i w.drew h (Up.drew (Up.refl g))
    unfold A at h1
    rw[iG] at h1
    exact lU _ _ _ _ _ _ _ _ _ h1
  | false =>
    refine wp_region ?_;rw[pc];exact oh c _ 0 _ a w oM (by simp) (fun j k=>by rw[lb k];simp) (i w h (Up.refl g))
theorem CG.seq {x y:Code}(H:CG P n (fun a w=>y.wp P (iQ N R X) a w) R X x Γ w):CG P n N R X (.seq x y) Γ w:=by
 intro a b;refine wp_seq (wp_mono (H a b) ?_);intro e a w c;cases e<;>exact c
theorem CG.cond {c:Operand}{x y:Code}(t:Bool)(d:gM Γ c=true)(hv:ev Γ c=.bool t)(f:t=true->CG P n N R X x Γ w)(hf:t=false->CG P n N R X y Γ w):CG P n N R X (.cond c x y) Γ w :=
 fun a b=>wp_cond_split (by rw[b.eval d];exact hv) (fun e=>f e a b) (fun e=>hf e a b)
theorem CG.condT {c:Operand}{x y:Code}(a:gM Γ c=true)(hv:ev Γ c=.bool true)(b:CG P n N R X x Γ w):CG P n N R X (.cond c x y) Γ w:=CG.cond true a hv (fun _=>b) (fun e=>by cases e)
theorem CG.condF {c:Operand}{x y:Code}(a:gM Γ c=true)(hv:ev Γ c=.bool false)(b:CG P n N R X y Γ w):CG P n N R X (.cond c x y) Γ w:=CG.cond false a hv (fun e=>by cases e) (fun _=>b)
theorem CG.skip (H:∀ a,Kn n a Γ->N a w):CG P n N R X .skip Γ w:=fun a b=>wp_skip (H a b)
theorem CG.skipN {y:Code}{N' R':Po}{X':Nat->Po}(H:CG P n N' R' X' y Γ w):CG P n (fun a w=>y.wp P (iQ N' R' X') a w) R X .skip Γ w:=fun a b=>wp_skip (H a b)
theorem CG.ret (H:∀ a,Kn n a Γ->R a w):CG P n N R X .ret Γ w:=fun a b=>wp_ret (H a b)
theorem CG.exit {id:Nat}(H:∀ a,Kn n a Γ->X id a w):CG P n N R X (.exit id) Γ w:=fun a b=>wp_exit (H a b)
theorem CG.block {id:Nat}{c:Code}(H:CG P n N R (fun i=>if i=id then N else X i) c Γ w):CG P n N R X (.block id c) Γ w:=by
 intro a f;refine wp_block (wp_mono (H a f) ?_);intro e a w d;cases e<;>try exact d
 rename_i i
 simp only[iQ] at d
 simp only[Exit.inBlock,iQ]
 split
 ·rename_i b;rw[if_pos b] at d;exact d
 ·rename_i b;rw[if_neg b] at d;exact d
theorem CG.to {c:Code}(Γ':ck)(b:jc Γ (Γ'.map (·.1))=Γ')(d:iC Γ'=iC Γ)(H:CG P n N R X c Γ' w):CG P n N R X c Γ w :=
 fun a e=>H a (e.mono (fun t v hv=>eT Γ (Γ'.map (·.1)) t v (by rw[b];exact hv)) d)
theorem Kn.to {a:Act}(k:Kn n a Γ)(Γ':ck)(b:jc Γ (Γ'.map (·.1))=Γ')(c:iC Γ'=iC Γ:=by kernel_rfl):Kn n a Γ' :=
 k.mono (fun t v hv=>eT Γ (Γ'.map (·.1)) t v (by rw[b];exact hv)) c
theorem CG.loop {c:Code}(I:Nat->ck->World->Prop)(m:Nat)(h0:I m Γ w)
    (p:∀ m Γ w,I m Γ w->CG P n (fun a w'=>∃ D j,D<m/\I D j w'/\Kn n a j) R X c Γ w):CG P n N R X (.loop c) Γ w:=by
  intro a H
  suffices key:∀ m a w Γ,I m Γ w->Kn n a Γ->∀ (b:Frame) (k:List Item) (cs:List Frame),∃ e C w',iQ N R X e C w'/\Arrives P (lone (b.at a (.code c::.inLoop c::k)) cs w) b k cs e C w' by
    intro b k cs;obtain ⟨e,C,w',o,d⟩:=key m a w Γ h0 H b k cs;exact ⟨e,C,w',o,.of_steps (.one step_loop) d⟩
  intro m
  induction m using g2 with
  | _ m ih =>
    intro a w Γ L H b k cs;obtain ⟨e,i,f,o,d⟩:=p m Γ w L a H b (.inLoop c::k) cs;cases e with
    | normal =>
      obtain ⟨D,j,K,J,F⟩:=o;obtain ⟨B,y,z,u,h⟩:=ih D K i f j J F b k cs;exact ⟨B,y,z,u,.of_steps (Steps.trans d (.one step_inLoop)) h⟩
    | exit id=>exact ⟨.exit id,i,f,o,.pass (x:=.inLoop c) rfl (fun _ _=>.inl (by simp)) d⟩
    | goto l=>exact o.elim
    | ret=>exact ⟨.ret,i,f,o,.pass (x:=.inLoop c) rfl (fun _ _=>.inl (by simp)) d⟩
    | panic ch=>exact o.elim
    | outgrown=>exact o.elim
def envOf (l:List Value):ck:=go 0 l
where go:Nat->List Value->ck
  | _,[]=>[]
  | k,v::l=>(k,v)::go (k+1) l
theorem o5:∀ (l:List Value) (k t:Nat) (v:Value),(envOf.go k l).lookup t=some v->k<=t/\l[t-k]?=some v
  | [],_,_,_,h=>by simp[envOf.go] at h
  | u :: l,k,t,v,h=>by
    rw[envOf.go,g4] at h
    by_cases e:t=k
    . subst e;simp at h;subst h;exact ⟨eb _,by simp⟩
    . have b:(t == k)=false:=by simp[e]
      rw[b] at h
      obtain ⟨h1,a⟩:=o5 l (k+1) t v h;refine ⟨by omega,?_⟩;obtain ⟨d,hd⟩:∃ d,t-k=d+1:=⟨t-k-1,by omega⟩;rw[hd];have:t-(k+1)=d:=by omega
      rw[this] at a
      simpa using a
theorem jf {l:List Value}{t:Nat}{v:Value}(h:(envOf l).lookup t=some v):l[t]?=some v:=by
 have:=o5 l 0 t v h
 simpa using this.2
def li (P:Program)(fn:Func)(Ro:Ending->World->Prop):Po:=fun a w=>a.defers=[]/\∃ v,(results fn a.tmps).run P w=.ok v w/\Ro (.returned v) w
theorem enter {f:FuncId}{d:Func}{c:Code}{args:Array Value}{j:Ending->World->Prop}(hf:P.funcs[f]?=some d)(p:d.body=some c)(u:d.ntmps=n)(x:args.size<=n)(k:n<=1000000)
    (Γ0:ck)(h:Γ0=envOf args.toList)(H:CG P n (li P d j) (li P d j) (fun _ _ _=>False) c Γ0 w):Calls P f args w j:=by
  refine calls_of_wp hf p (wp_mono (H _ ⟨?_,?_,k,?_⟩) ?_)
  . show []=iC Γ0
    unfold iC
    cases e:Γ0.lookup 1000000 with
    | none=>rfl
    | some v =>
      rw[h] at e
      have h1:=jf e;rw[pk (by simp;omega)] at h1
      cases h1
  . simp;omega
  . intro t v _ hv
    rw[h] at hv
    have h1:=jf hv
    have o:t<args.size:=by
      rcases co t args.size with hl|hl
      . exact hl
      . rw[pk (by simpa using hl)] at h1;cases h1
    rw[et o]
    simpa using h1
  . intro e a w b
    cases e with
    | normal=>exact b
    | ret=>exact b
    | exit i=>exact b.elim
    | goto l=>exact b.elim
    | panic ch=>exact b.elim
    | outgrown=>exact b.elim
def LG (P:Program)(n:Nat)(N R:Po)(X:Nat->Po)(ops:Array Oper)(k:Nat)(Γ:ck)(w:World):Prop :=
  ∀ a,Kn n a Γ->wpOps P ops (iQ N R X) (o1 k (ops.size-k)) a w
theorem CG.listed {id:Nat}{ops:Array Oper}(H:LG P n N R X ops 0 Γ w):CG P n N R X (.region id ops false) Γ w :=
 fun a b=>wp_region (by rw[pc];exact H a b)
section listed
variable {ops:Array Oper}{k:Nat}
def gl (ops:Array Oper)(Γ:ck)(k:Nat):Bool:=decide (k<ops.size) && Region.noSelect ops && ba Γ (av ops k)
theorem LG.op (b:gl ops Γ k=true)(e:bu ops Γ (av ops k)=some true){R':Value->World->Prop}
  (h:∀ a,Kn n a Γ->OpR P ops (av ops k) a w R')(d:∀ a v w',Kn n a Γ->R' v w'->wpOps P ops (iQ N R X) (o1 (k+1) (ops.size-(k+1))) (a.put (av ops k).dst v) w'):LG P n N R X ops k Γ w:=by
 unfold gl at b
 simp only[hN,decide_eq_true_eq] at b
 intro a c;obtain ⟨m,hm⟩:∃ m,ops.size-k=m+1:=⟨ops.size-k-1,by omega⟩;rw[hm,o2,wpOps_cons];refine OpR.wpOp (bN b.1.1) (h a c) (fun v w' hr=>?_);have:=d a v w' c hr;rw[show ops.size-(k+1)=m by omega] at this
 exact this
theorem LG.val (t:Nat)(v:Value)(w':World)(d:(gl ops Γ k && ((av ops k).dst == some t) && decide (t<n))=true)(e:bu ops Γ (av ops k)=some true)
  (hr:(execOp (ev Γ) (av ops k)).run P w=.ok (.value v) w')(H:LG P n N R X ops (k+1) ((t,v)::Γ) w'):LG P n N R X ops k Γ w:=by
 simp only[hN,decide_eq_true_eq,beq_iff_eq] at d
 obtain ⟨⟨h1,f⟩,h⟩:=d;have b:=h1
 unfold gl at b
 simp only[hN,decide_eq_true_eq] at b
 refine LG.op h1 e (R':=fun u w1=>u=v/\w1=w') (fun a c=>⟨c.want e,.inl ⟨v,w',?_,rfl,rfl⟩⟩) ?_
 ·rw[c.exec (Region.noSelect_spec b.1.2 k _ · · (bN b.1.1)) b.2];exact hr
 ·rintro a _ _ c ⟨rfl,rfl⟩
  rw[f];exact H _ (c.put h _)
theorem LG.out (t:Nat)(b:(decide (k<ops.size) && ((av ops k).dst == some t) && decide (t<n))=true)(d:bu ops Γ (av ops k)=some false)
  (H:LG P n N R X ops (k+1) ((t,undef)::Γ) w):LG P n N R X ops k Γ w:=by
 simp only[hN,decide_eq_true_eq,beq_iff_eq] at b
 obtain ⟨⟨h1,e⟩,f⟩:=b;intro a c;obtain ⟨m,hm⟩:∃ m,ops.size-k=m+1:=⟨ops.size-k-1,by omega⟩;rw[hm,o2,wpOps_cons]
 unfold wpOp
 simp only[bN h1,c.want d,n1,if_false]
 have:=H _ (c.put f undef);rw[show ops.size-(k+1)=m by omega] at this
 rw[e];exact this
theorem LG.store (w':World)(d:(gl ops Γ k && ((av ops k).dst == none))=true)(e:bu ops Γ (av ops k)=some true)
  (hr:(execOp (ev Γ) (av ops k)).run P w=.ok .skip w')(H:LG P n N R X ops (k+1) Γ w'):LG P n N R X ops k Γ w:=by
 simp only[hN,beq_iff_eq] at d
 obtain ⟨h1,f⟩:=d;have b:=h1
 unfold gl at b
 simp only[hN,decide_eq_true_eq] at b
 refine LG.op h1 e (R':=fun u w1=>w1=w') (fun a c=>⟨c.want e,.inr (.inl ⟨w',?_,rfl⟩)⟩) ?_
 ·rw[c.exec (Region.noSelect_spec b.1.2 k _ · · (bN b.1.1)) b.2];exact hr
 ·rintro a _ _ c rfl
  rw[f];exact H _ c
theorem LG.call (t f:Nat)(args:Array Value)(d:(gl ops Γ k && ((av ops k).dst == some t) && decide (t<n))=true)(i:bu ops Γ (av ops k)=some true)
  (hr:(execOp (ev Γ) (av ops k)).run P w=.ok (.enter f args) w)(H:Calls P f args w (fun e w'=>∃ v,e=.returned v/\LG P n N R X ops (k+1) ((t,v)::Γ) w')):LG P n N R X ops k Γ w:=by
 simp only[hN,decide_eq_true_eq,beq_iff_eq] at d
 obtain ⟨⟨h1,j⟩,l⟩:=d;have b:=h1
 unfold gl at b
 simp only[hN,decide_eq_true_eq] at b
 refine LG.op h1 i (R':=fun v w'=>LG P n N R X ops (k+1) ((t,v)::Γ) w') (fun a c=>⟨c.want i,.inr (.inr ⟨f,args,?_,H⟩)⟩) ?_
 ·rw[c.exec (Region.noSelect_spec b.1.2 k _ · · (bN b.1.1)) b.2];exact hr
 ·rintro a v w' c h
  rw[j];exact h _ (c.put l _)
theorem LG.done (b:(k == ops.size)=true)(H:∀ a,Kn n a Γ->N a w):LG P n N R X ops k Γ w:=by
 simp only[beq_iff_eq] at b
 subst b;intro a c;rw[pr];exact H a c
theorem LG.next {y:Code}{N' R':Po}{X':Nat->Po}(b:(k == ops.size)=true)(H:CG P n N' R' X' y Γ w):LG P n (fun a w=>y.wp P (iQ N' R' X') a w) R X ops k Γ w:=LG.done b H
end listed
theorem aw {ops:Array Oper}{k0:Nat}:∀ x∈([]:List Al),AlOk P ops k0 x:=fun _ h=>by cases h
theorem dZ {ops:Array Oper}{k0:Nat}{x:Al}{l:List Al}(h:AlOk P ops k0 x)(k:∀ y∈l,AlOk P ops k0 y):∀ y∈x::l,AlOk P ops k0 y:=fun y a=>by
 rcases gq.1 a with rfl|a
 ·exact h
 ·exact k y a
def Dc (ops:Array Oper)(k0:Nat)(x:Al):Bool:=decide (x.i<ops.size) && ((av ops x.i).dst == some x.t) && (av ops x.i).guard.isNone && (av ops x.i).after.isEmpty && decide (x.i<k0)
theorem kW {ops:Array Oper}{k0:Nat}{x:Al}(a:Dc ops k0 x=true)(hr:∀ (ρ:Operand->Value) (w:World),(execOp ρ (av ops x.i)).run P w=.ok (.value (.pointer (some ⟨w.heap.size,0,none⟩))) (w.alloc x.o)):AlOk P ops k0 x:=by
 unfold Dc at a
 simp only[hN,decide_eq_true_eq,beq_iff_eq,Option.isNone_iff_eq_none,Array.isEmpty_iff] at a
 exact ⟨⟨_,bN a.1.1.1.1,a.1.1.1.2,a.1.1.2,a.1.2,hr⟩,a.2⟩
end code
def bP {α:Type}(P:Program):Sem α->List Value->Option (α × List Addr)
  | .pure a,_=>some (a,[])
  | .load _ a k,v::vs=>(bP P (k v) vs).map fun r=>(r.1,a::r.2)
  | .program k,vs=>bP P (k P) vs
  | .mark _ k,vs=>bP P k vs
  | _,_=>none
theorem bH {α:Type}{P:Program}{w:World}:∀ (s:Sem α) (vs:List Value) (r:α) (l:List Addr),bP P s vs=some (r,l) ->
    (∀ (i:Nat) a v,l[i]?=some a->vs[i]?=some v->w.cell? a=some v)->s.run P w=.ok r w:=by
  intro s
  induction s with
  | pure a=>intro vs r l h _;simp[bP] at h;simp[Sem.run,h.1]
  | load m a k ih =>
    intro vs r l h b;cases vs with
    | nil=>simp[bP] at h
    | cons v vs =>
      simp only[bP,pt] at h
      obtain ⟨⟨f,e⟩,h1,d⟩:=h
      injection d with e1 e2
      subst e1;subst e2;have h0:=b 0 a v (by simp) (by simp)
      simp only[Sem.run,h0]
      exact ih v vs _ _ h1 (fun i c v' ha hv=>b (i+1) c v' (by simpa using ha) (by simpa using hv))
  | program k ih=>intro vs r l h b;exact ih P vs r l h b
  | mark m k ih=>intro vs r l h b;exact ih vs r l h b
  | _=>intro vs r l h _;simp[bP] at h
def dw {α:Type}(P:Program):Sem α->Option (α × List (Addr × Value))
  | .pure a=>some (a,[])
  | .store _ _ (.agg _) _=>none
  | .store _ _ (.tuple _) _=>none
  | .store _ a v k=>(dw P k).map fun r=>(r.1,(a,v)::r.2)
  | .program k=>dw P (k P)
  | .mark _ k=>dw P k
  | _=>none
structure Put (b:Nat) (w w':World):Prop where
  os:w'.os=w.os
  tape:w'.tape=w.tape
  output:w'.output=w.output
  size:w'.heap.size=w.heap.size
  blk:∀ c,c≠b->w'.heap[c]?=w.heap[c]?
theorem Put.tl {b:Nat}{w w':World}(p:Put b w w'){M:Ms}(hz:∀ K bs,M.z=some (K,bs)->K<=b\/b∈bs):Tl M w w':=fun K bs e=>⟨Nat.le_of_eq p.size.symm,fun c d a=>p.blk c (fun h=>by
 rcases hz K bs e with h1|h1
 ·omega
 ·exact a (h▸h1))⟩
theorem Put.refl (b:Nat)(w:World):Put b w w:=⟨rfl,rfl,rfl,rfl,fun _ _=>rfl⟩
theorem Put.trans {b:Nat}{w1 w2 w3:World}(p:Put b w1 w2)(q:Put b w2 w3):Put b w1 w3 :=
 ⟨q.os.trans p.os,q.tape.trans p.tape,q.output.trans p.output,q.size.trans p.size,fun c a=>(q.blk c a).trans (p.blk c a)⟩
theorem Put.set (w:World)(p:Addr)(v:Value):Put p.block w (w.setCell p v) :=
 ⟨rfl,rfl,rfl,by simp,fun c a=>Below.heap_setCell _ _ _ _ a⟩
def Own (w:World)(b:Nat)(t:TypeId)(vs:List Value):Prop:=w.heap[b]?=some (.cells vs.toArray t (0,0))
theorem Own.cell {w:World}{b:Nat}{t:TypeId}{vs:List Value}(h:Own w b t vs)(i:Nat):w.cell? ⟨b,i,none⟩=vs[i]?:=by
 unfold World.cell?;rw[show w.heap[b]?=_ from h];simp
theorem Own.frozen {w:World}{b:Nat}{t:TypeId}{vs:List Value}(h:Own w b t vs)(i:Nat):w.frozen? ⟨b,i,none⟩=false:=by
 unfold World.frozen?;rw[show w.heap[b]?=_ from h];simp
theorem Own.set {w:World}{b:Nat}{t:TypeId}{vs:List Value}(h:Own w b t vs)(i:Nat)(v:Value):Own (w.setCell ⟨b,i,none⟩ v) b t (vs.set i v):=by
 unfold Own World.setCell
 simp only[Array.getElem?_modify,if_true,show w.heap[b]?=_ from h,pv]
 simp
theorem Own.lt {w:World}{b:Nat}{t:TypeId}{vs:List Value}(h:Own w b t vs):b<w.heap.size:=by
 rcases co b w.heap.size with hl|hl
 ·exact hl
 ·unfold Own at h;rw[ea hl] at h;cases h
theorem Own.ext {w w':World}{b:Nat}{t:TypeId}{vs:List Value}(h:Own w b t vs)(x:Ext w w'):Own w' b t vs:=(Below.block x b h.lt).trans h
def cj (vs:List Value)(o:Nat):List Value->List Value
  | []=>vs
  | c::cs=>cj (vs.set o c) (o+1) cs
def ml (b o:Nat):List Value->List (Addr × Value)
  | []=>[]
  | c::cs=>(⟨b,o,none⟩,c)::ml b (o+1) cs
theorem fc {α:Type}{P:Program}{b:Nat}{t:TypeId}:∀ (s:Sem α) (r:α) (o:Nat) (cs vs:List Value) (w:World),dw P s=some (r,ml b o cs)->Own w b t vs->o+cs.length<=vs.length ->
    ∃ w',s.run P w=.ok r w'/\Put b w w'/\Own w' b t (cj vs o cs):=by
  intro s
  induction s with
  | pure a =>
    intro r o cs vs w h d _
    simp only[dw,Option.some.injEq,Prod.mk.injEq] at h
    obtain ⟨h1,f⟩:=h;cases cs with
    | nil=>exact ⟨w,by simp[Sem.run,h1],Put.refl _ _,d⟩
    | cons c cs=>simp[ml] at f
  | store m a v k ih =>
    intro r o cs vs w h d i
    have y:∃ e,dw P k=some e/\(e.1,(a,v)::e.2)=(r,ml b o cs)/\(∀ l,v≠.agg l)/\∀ l,v≠.tuple l:=by
      cases v<;>simp only[dw,pt] at h<;>first|(obtain ⟨e,h1,f⟩:=h;exact ⟨e,h1,f,by simp,by simp⟩)|cases h
    obtain ⟨⟨e,D⟩,h1,f,B,x⟩:=y
    injection f with e1 e2
    cases cs with
    | nil=>simp[ml] at e2
    | cons c cs =>
      simp only[ml,List.cons.injEq,Prod.mk.injEq] at e2
      obtain ⟨⟨u,ev⟩,z⟩:=e2;subst u;subst ev;subst z;subst e1
      simp only[List.length_cons] at i
      have p:w.cell? ⟨b,o,none⟩=some (vs[o]'oM):=by rw[d.cell,List.getElem?_eq_getElem]
      obtain ⟨w',hr,C,j⟩:=ih _ (o+1) cs (vs.set o v) (w.setCell ⟨b,o,none⟩ v) h1 (d.set o v) (by simp;omega);refine ⟨w',?_,(Put.set w ⟨b,o,none⟩ v).trans C,j⟩
      have:(Sem.store m ⟨b,o,none⟩ v k).run P w=k.run P (w.setCell ⟨b,o,none⟩ v):=by
        cases v<;>first|(simp only[Sem.run,p,d.frozen];rfl)|exact absurd rfl (B _)|exact absurd rfl (x _)
      rw[this];exact hr
  | program k ih=>intro r o cs vs w h d i;exact ih P r o cs vs w h d i
  | mark m k ih=>intro r o cs vs w h d i;exact ih r o cs vs w h d i
  | _=>intro r o cs vs w h _ _;simp[dw] at h
structure Bx where
  b:Nat
  t:TypeId
  vs:List Value
  deriving Inhabited
structure St (w0:World) (h0:Hp) (w:World) (h:Hp) (B:List Bx):Prop where
  up:Up w0 h0 w h
  own:∀ x∈B,Own w x.b x.t x.vs
  jk:∀ x∈B,h[x.b]?=some junk
  lo:∀ x∈B,h0.size<=x.b
  nd:(B.map (·.b)).Nodup
theorem aI {h:Hp}{b:Nat}{o:Obj}(e:h[b]?=some o):b<h.size:=by
 rcases co b h.size with hl|hl
 ·exact hl
 ·rw[ea hl] at e;cases e
section st
variable {w0:World}{h0:Hp}{w:World}{h:Hp}{B:List Bx}
theorem St.start (g:G w h):St w h w h []:=⟨Up.refl g,fun _ a=>(by cases a),fun _ a=>(by cases a),fun _ a=>(by cases a),by simp⟩
theorem St.step (s:St w0 h0 w h B){w':World}{b:Hp}(u:Up w h w' b):St w0 h0 w' b B :=
 ⟨s.up.trans u,fun x a=>(s.own x a).ext u.ext,fun x a=>(u.gr.blk _ (aI (s.jk x a))).trans (s.jk x a),s.lo,s.nd⟩
theorem St.g (s:St w0 h0 w h B):G w h:=s.up.g
theorem St.sz (s:St w0 h0 w h B):h0.size<=h.size:=s.up.gr.size
theorem St.new {wr:World}{hr:Hp}{B':List Bx}{x:Al}{b:Nat}(l:St w0 h0 wr hr B')(s:St w0 h0 w h B)(hB:∀ y∈B,y.b<hr.size\/y.b≠b)(k:Blk hr w h (x,b))(t:TypeId)(vs:List Value)(i:x.o=.cells vs.toArray t (0,0)) :
  St w0 h0 w h (⟨b,t,vs⟩::B):=by
 obtain ⟨e,k2,c⟩:=k;refine ⟨s.up,?_,?_,?_,?_⟩
 ·intro y a
  rcases gq.1 a with rfl|a
  ·show w.heap[b]?=_
   rw[<-i];exact e
  ·exact s.own y a
 ·intro y a
  rcases gq.1 a with rfl|a
  ·exact k2
  ·exact s.jk y a
 ·intro y a
  rcases gq.1 a with rfl|a
  ·exact ed l.sz c
  ·exact s.lo y a
 ·refine gs.2 ⟨fun p=>?_,s.nd⟩
  obtain ⟨y,a,d⟩:=ga.1 p
  rcases hB y a with hl|hl
  ·have j:y.b=b:=d
   have f:hr.size<=b:=c
   omega
  ·exact hl d
theorem St.new1 {wr:World}{hr:Hp}{x:Al}{b:Nat}(a:St w0 h0 wr hr B)(s:St w0 h0 w h B)(k:Blk hr w h (x,b))(t:TypeId)(vs:List Value)(c:x.o=.cells vs.toArray t (0,0)) :
 St w0 h0 w h (⟨b,t,vs⟩::B):=St.new a s (fun y d=>.inl (aI (a.jk y d))) k t vs c
theorem St.new2 {wr:World}{hr:Hp}{x y:Al}{b c:Nat}(i:St w0 h0 wr hr B)(s:St w0 h0 w h B)(k:Blk hr w h (x,b))(k2:Blk hr w h (y,c))(e:b≠c)(t:TypeId)(vs:List Value)(j:x.o=.cells vs.toArray t (0,0))(f:TypeId)(a:List Value)(d:y.o=.cells a.toArray f (0,0)) :
  St w0 h0 w h (⟨b,t,vs⟩::⟨c,f,a⟩::B) :=
 St.new i (St.new1 i s k2 f a d) (fun z hz=>by
  rcases gq.1 hz with rfl|hz
  ·exact .inr (Ne.symm e)
  ·exact .inl (aI (i.jk z hz))) k t vs j
def aD (B:List Bx)(j:Nat):Bx:=B.getD j default
def fU (B:List Bx)(j o:Nat)(cs:List Value):List Bx:=B.set j { aD B j with vs:=cj (aD B j).vs o cs }
theorem bC {j:Nat}(h:j<B.length):aD B j∈B:=by
 unfold aD
 have:B.getD j default=B[j]:=by simp[h]
 rw[this];exact e5 h
theorem Up.put {b:Nat}{w':World}(u:Up w0 h0 w h)(p:Put b w w')(a:h[b]?=some junk)(f:h0.size<=b)(d:w0.heap.size=h0.size):Up w0 h0 w' h:=by
 refine ⟨⟨p.os.trans u.ext.os,p.tape.trans u.ext.tape,p.output.trans u.ext.output,by rw[p.size];exact u.ext.size,fun c i=>?_⟩,u.gr,⟨by rw[p.size];exact u.g.size,fun c=>?_⟩⟩
 ·rw[p.blk c oM]
  exact Below.block u.ext c i
 ·by_cases e:c=b
  ·subst e;exact .inr a
  ·rw[p.blk c e];exact u.g.blk c
theorem St.put (s:St w0 h0 w h B)(F:G w0 h0){j o:Nat}{cs:List Value}{w':World}(d:j<B.length)(p:Put (aD B j).b w w')(H:Own w' (aD B j).b (aD B j).t (cj (aD B j).vs o cs)):St w0 h0 w' h (fU B j o cs):=by
  have D:=bC d
  have a:(fU B j o cs).map (·.b)=B.map (·.b):=by
    unfold fU
    rw[pw]
    apply pR
    intro i
    by_cases e:j=i
    . subst e
      rw[p0 (by simpa using d)]
      simp[aD,d]
    . rw[p1 e]
  refine ⟨s.up.put p (s.jk _ D) (s.lo _ D) F.size,?_,?_,?_,by rw[a];exact s.nd⟩
  . intro x k
    obtain ⟨i,hi,c⟩:=p2.1 k;have f:i<B.length:=by simpa [fU] using hi
    by_cases e:j=i
    . subst e
      have:x={ aD B j with vs:=cj (aD B j).vs o cs }:=by rw[<-c];simp[fU]
      subst this;exact H
    . have u:x=B[i]:=by rw[<-c];simp[fU,e]
      subst u
      have z:B[i].b≠(aD B j).b:=by
        intro l
        have h1:(B.map (·.b))[i]'(by simpa using f)=(B.map (·.b))[j]'(by simpa using d):=by
          simp only[ql]
          rw[l]
          simp[aD,d]
        exact e ((q0 s.nd).1 h1).symm
      show w'.heap[B[i].b]?=_
      rw[p.blk _ z];exact s.own _ (e5 f)
  . intro x k
    have:x.b∈(fU B j o cs).map (·.b):=ga.2 ⟨x,k,rfl⟩;rw[a] at this
    obtain ⟨y,C,c⟩:=ga.1 this;rw[<-c];exact s.jk y C
  . intro x k
    have:x.b∈(fU B j o cs).map (·.b):=ga.2 ⟨x,k,rfl⟩;rw[a] at this
    obtain ⟨y,C,c⟩:=ga.1 this;rw[<-c];exact s.lo y C
def kA (b o:Nat):Nat->List Addr
  | 0=>[]
  | n+1=>⟨b,o,none⟩::kA b (o+1) n
theorem d9 (b:Nat):∀ (n o i:Nat) (a:Addr),(kA b o n)[i]?=some a->a=⟨b,o+i,none⟩
  | 0,_,_,_,h=>by simp[kA] at h
  | n+1,o,0,a,h=>by simp[kA] at h;rw[<-h];rfl
  | n+1,o,i+1,a,h=>by
    have:=d9 b n (o+1) i a (by simpa [kA] using h);rw[this];congr 1;omega
def cf (B:List Bx):List (Nat × Nat × Nat)->List Value
  | []=>[]
  | p::ps=>((aD B p.1).vs.drop p.2.1).take p.2.2++cf B ps
def bO (B:List Bx):List (Nat × Nat × Nat)->List Addr
  | []=>[]
  | p::ps=>kA (aD B p.1).b p.2.1 p.2.2++bO B ps
def bR (B:List Bx)(ps:List (Nat × Nat × Nat)):Bool:=ps.all fun p=>decide (p.1<B.length) && decide (p.2.1+p.2.2<=(aD B p.1).vs.length)
theorem iw (b o n:Nat):(kA b o n).length=n:=by
 induction n generalizing o with
 | zero=>rfl
 | succ n ih=>simp[kA,ih]
theorem bQ (d:∀ x∈B,Own w x.b x.t x.vs):∀ (ps:List (Nat × Nat × Nat)),bR B ps=true->∀ (i:Nat) a v,(bO B ps)[i]?=some a->(cf B ps)[i]?=some v->w.cell? a=some v
  | [],_,i,a,v,h,_=>by simp[bO] at h
  | p :: ps,hok,i,a,v,ha,hv=>by
    unfold bR at hok
    rw[q8,hN] at hok
    obtain ⟨h1,e⟩:=hok
    simp only[hN,decide_eq_true_eq] at h1
    have c:(((aD B p.1).vs.drop p.2.1).take p.2.2).length=p.2.2:=by simp;omega
    unfold bO at ha
    unfold cf at hv
    rcases co i p.2.2 with hl|hl
    . rw[rc (by rw[iw];exact hl)] at ha
      rw[rc (by rw[c];exact hl)] at hv
      rw[d9 _ _ _ _ _ ha,(d _ (bC h1.1)).cell];rw[rh hl,ri] at hv
      exact hv
    . rw[rk (by rw[iw];exact hl),iw] at ha
      rw[rk (by rw[c];exact hl),c] at hv
      exact bQ d ps e _ a v ha hv
theorem Own.mo {w w':World}{b:Nat}{t:TypeId}{vs:List Value}{M:List Nat}(h:Own w b t vs)(x:Mo M w w')(a:b ∉ M):Own w' b t vs:=(x.blk b h.lt a).trans h
theorem eL {M:List Nat}{d:List (Nat × Nat × Nat)}(hM:∀ p∈d,(aD B p.1).b ∉ M)(e:∀ x∈B,x.b ∉ M->Own w x.b x.t x.vs):∀ (ps:List (Nat × Nat × Nat)),(∀ p∈ps,p∈d)->bR B ps=true->∀ (i:Nat) a v,(bO B ps)[i]?=some a->(cf B ps)[i]?=some v->w.cell? a=some v
  | [],_,_,i,a,v,h,_=>by simp[bO] at h
  | p :: ps,hsub,hok,i,a,v,ha,hv=>by
    unfold bR at hok
    rw[q8,hN] at hok
    obtain ⟨h1,j⟩:=hok
    simp only[hN,decide_eq_true_eq] at h1
    have c:(((aD B p.1).vs.drop p.2.1).take p.2.2).length=p.2.2:=by simp;omega
    unfold bO at ha
    unfold cf at hv
    rcases co i p.2.2 with hl|hl
    . rw[rc (by rw[iw];exact hl)] at ha
      rw[rc (by rw[c];exact hl)] at hv
      rw[d9 _ _ _ _ _ ha,(e _ (bC h1.1) (hM p (hsub p (by simp)))).cell];rw[rh hl,ri] at hv
      exact hv
    . rw[rk (by rw[iw];exact hl),iw] at ha
      rw[rk (by rw[c];exact hl),c] at hv
      exact eL hM e ps (fun q f=>hsub q (by simp[f])) j _ a v ha hv
end st
section own
variable {M:Ms}{P:Program}{n:Nat}{N R:Po}{X:Nat->Po}{ops:Array Oper}{k0:Nat}{hr:Hp}{AL:List Al}{L:Array Bool}{Γ:ck}{w:World}{h:Hp}{w0:World}{h0:Hp}{B:List Bx}
theorem Rg.own (i t:Nat)(ps:List (Nat × Nat × Nat))(v:Value)(s:St w0 h0 w h B)(d:(dl n ops k0 AL L i t && ba Γ (av ops i) && ii ops k0 i)=true)(e:bu ops Γ (av ops i)=some true)
  (hM:∀ p∈ps,(aD B p.1).b ∉ M.l)(c:bR B ps=true)(o:bP P (execOp (ev Γ) (av ops i)) (cf B ps)=some (.value v,bO B ps))
  (k:EG M P n N R X ops k0 hr AL (L.setIfInBounds i true) ((t,v)::Γ) w h):EG M P n N R X ops k0 hr AL L Γ w h :=
 Rg.load i t v d e (fun w' f=>bH _ _ _ _ o (eL hM (fun x j a=>(s.own x j).mo f a) ps (fun _ h=>h) c)) k
theorem T.put (i j o:Nat)(cs:List Value)(s:St w0 h0 w h B)(l:G w0 h0)(p:(gY ops k0 L i && ba Γ (av ops i) && ((av ops i).dst == none))=true)(u:bu ops Γ (av ops i)=some true)
  (f:(decide (j<B.length) && decide (o+cs.length<=(aD B j).vs.length))=true)(x:dw P (execOp (ev Γ) (av ops i))=some (.skip,ml (aD B j).b o cs))
  (k:∀ w',Put (aD B j).b w w'->St w0 h0 w' h (fU B j o cs)->AG M P n N R X ops k0 (L.setIfInBounds i true) Γ w')(hz:∀ K bs,M.z=some (K,bs)->K<=(aD B j).b\/(aD B j).b∈bs:=by intro _ _ e;cases e):AG M P n N R X ops k0 L Γ w:=by
 simp only[hN,decide_eq_true_eq] at f
 obtain ⟨w',c,a,d⟩:=fc _ _ _ _ _ w x (s.own _ (bC f.1)) f.2;exact T.store i w' p u c (a.tl hz) (k w' a (s.put l f.1 a d))
theorem LG.own {k:Nat}(t:Nat)(ps:List (Nat × Nat × Nat))(v:Value)(s:St w0 h0 w h B)(b:(gl ops Γ k && ((av ops k).dst == some t) && decide (t<n))=true)(c:bu ops Γ (av ops k)=some true)
  (a:bR B ps=true)(d:bP P (execOp (ev Γ) (av ops k)) (cf B ps)=some (.value v,bO B ps))
  (H:LG P n N R X ops (k+1) ((t,v)::Γ) w):LG P n N R X ops k Γ w :=
 LG.val t v w b c (bH _ _ _ _ d (bQ s.own ps a)) H
theorem LG.put {k:Nat}(j o:Nat)(cs:List Value)(s:St w0 h0 w h B)(f:G w0 h0)(i:(gl ops Γ k && ((av ops k).dst == none))=true)(l:bu ops Γ (av ops k)=some true)
  (e:(decide (j<B.length) && decide (o+cs.length<=(aD B j).vs.length))=true)(p:dw P (execOp (ev Γ) (av ops k))=some (.skip,ml (aD B j).b o cs))
  (H:∀ w',Put (aD B j).b w w'->St w0 h0 w' h (fU B j o cs)->LG P n N R X ops (k+1) Γ w'):LG P n N R X ops k Γ w:=by
 simp only[hN,decide_eq_true_eq] at e
 obtain ⟨w',c,a,d⟩:=fc _ _ _ _ _ w p (s.own _ (bC e.1)) e.2;exact LG.store w' i l c (H w' a (s.put f e.1 a d))
theorem LG.var {k:Nat}(t:Nat)(ty:TypeId)(vs:List Value)(s:St w0 h0 w h B)(a:(gl ops Γ k && ((av ops k).dst == some t) && decide (t<n))=true)(c:bu ops Γ (av ops k)=some true)
  (hr:(execOp (ev Γ) (av ops k)).run P w=.ok (.value (.pointer (some ⟨w.heap.size,0,none⟩))) (w.alloc (.cells vs.toArray ty (0,0))))
  (H:∀ b w' h',h.size<=b->Up w h w' h'->St w0 h0 w' h' (⟨b,ty,vs⟩::B)->LG P n N R X ops (k+1) ((t,.pointer (some ⟨b,0,none⟩))::Γ) w'):LG P n N R X ops k Γ w:=by
 have u:Up w h (w.alloc (.cells vs.toArray ty (0,0))) (h.push junk):=Up.allocAny s.g _ _ (.inr rfl);refine LG.val t _ _ a c hr (H _ _ _ (by rw[s.g.size];exact eb _) u (St.new1 (x:=⟨0,0,.cells vs.toArray ty (0,0)⟩) s (s.step u) ⟨?_,?_,?_⟩ ty vs rfl))
 ·rw[dq];exact e0
 ·rw[s.g.size];exact e0
 ·show h.size<=w.heap.size;rw[s.g.size];exact eb _
def me (fn:Func)(Γ:ck):Sem Value:=do
  let vs <-fn.results.mapM fun
    | .tmp t=>Pure.pure (ev Γ (.tmp t))
    | .cell a t=>do loadVar t (<-asAddr (ev Γ (.tmp a)))
  Pure.pure (if h:vs.size=1 then vs[0] else .tuple vs)
def GQ (fn:Func)(Γ:ck):Bool:=fn.results.all fun|.tmp t=>gM Γ (.tmp t)|.cell a _=>gM Γ (.tmp a)
def lE (fn:Func)(Γ:ck):Bool:=(iC Γ).isEmpty && GQ fn Γ
theorem kE {a:Func}{Γ:ck}(h:lE a Γ=true):iC Γ=[]:=by
 unfold lE at h;rw[hN] at h;exact List.isEmpty_iff.1 h.1
theorem py {α β:Type}(l:List α)(f g:α->Sem β)(h:∀ x∈l,f x=g x):l.mapM f=l.mapM g:=by
 induction l with
 | nil=>rfl
 | cons a l ih=>rw[rp,rp,h a (by simp),ih (fun x b=>h x (by simp[b]))]
theorem nw {b:Func}{a:Act}(c:Kn n a Γ)(f:GQ b Γ=true):results b a.tmps=me b Γ:=by
 unfold results me
 have e:∀ x∈b.results.toList,((match x with|.tmp t=>Pure.pure (a.tmps.getD t undef)|.cell ad t=>(do loadVar t (<-asAddr (a.tmps.getD ad undef)))):Sem Value)=((match x with|.tmp t=>Pure.pure (ev Γ (.tmp t))|.cell ad t=>(do loadVar t (<-asAddr (ev Γ (.tmp ad))))):Sem Value):=by
  intro x d;have h1:=(i1.1 f) x (by simpa using d);cases x with
  | tmp t=>have:=c.eval h1;simp only[Act.eval] at this;simp only[this]
  | cell ad t=>have:=c.eval h1;simp only[Act.eval] at this;simp only[this]
 rw[r9,r9]
 congr 2
 exact py _ _ _ e
theorem fI {b:Func}{a:Act}(d:Kn n a Γ)(c:lE b Γ=true):results b a.tmps=me b Γ :=
 nw d (by unfold lE at c;rw[hN] at c;exact c.2)
def Ret (w0:World)(h0:Hp)(Φ:Value->Hp->Prop):Ending->World->Prop:=fun e w'=>∃ v h',e=.returned v/\Up w0 h0 w' h'/\Φ v h'
theorem In {c:Func}{Φ:Value->Hp->Prop}(s:St w0 h0 w h B)(ps:List (Nat × Nat × Nat))(v:Value)(b:(lE c Γ && bR B ps)=true)(f:bP P (me c Γ) (cf B ps)=some (v,bO B ps))(d:Φ v h) :
  ∀ a,Kn n a Γ->li P c (Ret w0 h0 Φ) a w:=by
 intro a e;rw[hN] at b
 refine ⟨e.df.trans (kE b.1),v,?_,v,h,rfl,s.up,d⟩;rw[fI e b.1];exact bH _ _ _ _ f (bQ s.own ps b.2)
theorem Ret.of_ext {f:FuncId}{args:Array Value}{V:Value}{w:World}{h:Hp}(g:G w h)(c:Calls P f args w fun e w'=>e=.returned V/\Ext w w'):Calls P f args w (Ret w h fun v _=>v=V) :=
 c.mono fun e w' ⟨d,b⟩=>by
  obtain ⟨a,u⟩:=g.lift b;exact ⟨V,a,d,u,rfl⟩
end own
abbrev CV (f:FuncId)(a:Array Value)(w:World)(h:Hp)(x:Value):Prop:=Calls Tryz.prog f a w (Ret w h fun v _=>v=x)
abbrev CR (f:FuncId)(a:Array Value)(w:World)(h:Hp)(Φ:Value->Hp->Prop):Prop:=Calls Tryz.prog f a w (Ret w h Φ)
def fG (h:Hp)(b i:Nat):Option Value :=
  match h[b]? with
  | some (.cells c _ _)=>c[i]?
  | _=>none
structure Gw (h h':Hp):Prop where
  size:h.size<=h'.size
  blk:∀ b:Nat,b<h.size->h'[b]?=h[b]?\/h[b]?=some junk
theorem Gr.gw {h a:Hp}(u:Gr h a):Gw h a:=⟨u.size,fun b c=>.inl (u.blk b c)⟩
theorem uS {h a:Hp}(u:Gw h a){b i:Nat}{v:Value}(e:fG h b i=some v):fG a b i=some v:=by
  unfold fG at *
  cases c:h[b]? with
  | none=>rw[c] at e;cases e
  | some o =>
    rcases u.blk b (aI c) with h1|h1
    . rw[h1];exact e
    . rw[h1] at e;simp[junk] at e
theorem iX {w:World}{h:Hp}(g:G w h){b i:Nat}{v:Value}(e:fG h b i=some v):w.cell? ⟨b,i,none⟩=some v:=by
 unfold fG at e
 rcases g.blk b with h1|h1
 ·unfold World.cell?
  rw[<-h1];cases a:h[b]? with
  | none=>rw[a] at e;cases e
  | some o=>rw[a] at e;cases o<;>simp at e ⊢ <;> exact e
 ·rw[h1] at e;simp[junk] at e
def Seg (h:Hp)(b o:Nat)(cs:List Value):Prop:=∀ (i:Nat) (v:Value),cs[i]?=some v->fG h b (o+i)=some v
theorem Seg.gw {h a:Hp}{b o:Nat}{cs:List Value}(s:Seg h b o cs)(u:Gw h a):Seg a b o cs:=fun i v hv=>uS u (s i v hv)
theorem xr {M:List Nat}{w w':World}{h:Hp}(g:G w h)(x:Mo M w w')(hM:∀ b∈M,h[b]?=some junk){b i:Nat}{v:Value}(e:fG h b i=some v):w'.cell? ⟨b,i,none⟩=some v:=by
 have f:b ∉ M:=fun j=>by
  unfold fG at e
  rw[hM b j] at e
  simp[junk] at e
 have d:=iX g e
 have c:b<w.heap.size:=by
  rcases co b w.heap.size with c|c
  ·exact c
  ·unfold World.cell? at d;rw[ea c] at d;cases d
 rw[World.cell?_of_block (w:=w) (a:=⟨b,i,none⟩) (x.blk b c f)];exact d
theorem Seg.runM {α:Type}{M:List Nat}{P:Program}{w w':World}{h:Hp}{b o:Nat}{cs:List Value}{s:Sem α}{r:α}(d:Seg h b o cs)(g:G w h)(hM:∀ b∈M,h[b]?=some junk)(x:Mo M w w')(c:bP P s cs=some (r,kA b o cs.length)):s.run P w'=.ok r w' :=
 bH _ _ _ _ c (fun i a v ha hv=>by rw[d9 _ _ _ _ _ ha];exact xr g x hM (d i v hv))
theorem Seg.run {α:Type}{P:Program}{w w':World}{h:Hp}{b o:Nat}{cs:List Value}{s:Sem α}{r:α}(d:Seg h b o cs)(g:G w h)(x:Ext w w')(c:bP P s cs=some (r,kA b o cs.length)):s.run P w'=.ok r w' :=
 bH _ _ _ _ c (fun i a v ha hv=>by rw[d9 _ _ _ _ _ ha];exact x.some (iX g (d i v hv)))
theorem Seg.part {h:Hp}{b o:Nat}{cs:List Value}(s:Seg h b o cs)(j n:Nat):Seg h b (o+j) ((cs.drop j).take n):=fun i v hv=>by
 have hi:i<n:=by
  rcases co i n with hl|hl
  ·exact hl
  ·rw[pk (by simp;omega)] at hv;cases hv
 rw[rh hi,ri] at hv
 rw[sc];exact s (j+i) v hv
def aB (A:Z9):Nat:=match A with|some a=>a.block|none=>0
def aO (A:Z9):Nat:=match A with|some a=>a.off|none=>0
structure SlO {α:Type} (sz:Nat) (f:α->List Value) (d:α) (h:Hp) (A:Z9) (l:List α):Prop where
  ok:0<l.length->A=some ⟨aB A,aO A,none⟩
  el:∀ k,k<l.length->Seg h (aB A) (aO A+k*sz) (f (l.getD k d))
theorem SlO.gw {α:Type}{sz:Nat}{f:α->List Value}{d:α}{h a:Hp}{A:Z9}{l:List α}(s:SlO sz f d h A l)(u:Gw h a):SlO sz f d a A l:=⟨s.ok,fun k b=>(s.el k b).gw u⟩
theorem SlO.nil {α:Type}{sz:Nat}{f:α->List Value}{d:α}{h:Hp}{A:Z9}:SlO sz f d h A []:=⟨fun h=>by simp at h,fun k a=>by simp at a⟩
def Hz {α:Type}(sz:Nat)(f:α->List Value)(d:α)(h:Hp)(v:Value)(l:List α):Prop :=
  ∃ A cap,v=.slice A l.length cap/\l.length<=cap/\SlO sz f d h A l
theorem SlO.of_flat {α:Type}{sz:Nat}{f:α->List Value}{d:α}{h:Hp}{b o:Nat}{l:List α}(hf:∀ x,(f x).length=sz)(s:Seg h b o (l.flatMap f)):SlO sz f d h (some ⟨b,o,none⟩) l:=by
  refine ⟨fun _=>rfl,?_⟩
  induction l generalizing o with
  | nil=>intro k a;simp at a
  | cons x l ih =>
    intro k a;cases k with
    | zero =>
      have:=s.part 0 sz
      simp only[sr,sw,sy] at this
      rw[sA (by rw[hf];exact eb _),<-hf x,s1] at this
      simpa [aB,aO] using this
    | succ k =>
      have c:Seg h b (o+sz) (l.flatMap f):=fun i v hv=>by
        have:=s (sz+i) v (by rw[sr,rk (by rw[hf];omega),hf];simpa using hv)
        rwa [<-sc] at this
      have:=ih c k (by simpa using a)
      simp only[aB,aO,s3] at this ⊢
      rw[s4,s5 (k*sz) sz,<-sc];exact this
theorem Seg.new {h:Hp}(cs:List Value)(ty:TypeId):Seg (h.push (.cells cs.toArray ty (0,0))) h.size 0 cs:=fun i v hv=>by
 unfold fG
 rw[e0]
 simpa using hv
theorem da {α:Type}{f:α->List Value}{sz:Nat}(hf:∀ x,(f x).length=sz)(l:List α):(l.flatMap f).length=l.length*sz:=by
 induction l with
 | nil=>simp
 | cons x l ih=>simp only[sr,s6,ih,hf,List.length_cons,s4];omega
theorem eW {α:Type}{f:α->List Value}{sz:Nat}(hf:∀ x,(f x).length=sz)(d:α):∀ (l:List α) (k:Nat),k<l.length->((l.flatMap f).drop (k*sz)).take sz=f (l.getD k d)
  | [],k,h=>by simp at h
  | x::l,0,h=>by
    simp only[sr,s9,sy,List.getD_cons_zero]
    rw[sA (by rw[hf];exact eb _),<-hf x,s1]
  | x::l,k+1,h=>by
    simp only[sr,s3]
    rw[s4,List.drop_append,hf,show k*sz+sz-sz=k*sz by omega,List.drop_eq_nil_of_le (by rw[hf];omega),List.nil_append];exact eW hf d l k (by simpa using h)
theorem f8 (cs:List Value):∀ (a b:List Value) (o:Nat),cj (a++b) (a.length+o) cs=a++cj b o cs:=by
  induction cs with
  | nil=>intro a b o;rfl
  | cons c cs ih =>
    intro a b o
    show cj ((a++b).set (a.length+o) c) (a.length+o+1) cs=a++cj (b.set o c) (o+1) cs
    rw[List.set_append_right _ _ oM,show a.length+o-a.length=o by omega,sc];exact ih a (b.set o c) (o+1)
theorem j3:∀ (cs a b:List Value),a.length=cs.length->cj (a++b) 0 cs=cs++b:=by
  intro cs
  induction cs with
  | nil=>intro a b h;have:a=[]:=ta (by simpa using h);subst this;rfl
  | cons c cs ih =>
    intro a b h;cases a with
    | nil=>simp at h
    | cons y a =>
      show cj (c::(a++b)) (0+1) cs=c::(cs++b)
      have:=f8 cs [c] (a++b) 0
      simp only[List.length_singleton,List.singleton_append] at this
      rw[show 0+1=1+0 by omega,this,ih a b (by simpa using h)]
theorem iP {α:Type}{f:α->List Value}{sz:Nat}(hf:∀ x,(f x).length=sz):∀ (l:List α) (k:Nat) (x:α),k<l.length->cj (l.flatMap f) (k*sz) (f x)=(l.set k x).flatMap f
  | [],k,x,h=>by simp at h
  | y::l,0,x,h=>by
    simp only[sr,s9,List.set_cons_zero]
    exact j3 _ _ _ (by rw[hf,hf])
  | y::l,k+1,x,h=>by
    simp only[sr,tu]
    rw[s4,s5,<-hf y,f8,hf y,iP hf l k x (by simpa using h)]
section rows
variable {M:Ms}{P:Program}{n:Nat}{N R:Po}{X:Nat->Po}{ops:Array Oper}{k0:Nat}{hr:Hp}{AL:List Al}{L:Array Bool}{Γ:ck}{w:World}{h:Hp}
theorem LG.row {k:Nat}(t:Nat)(ty:TypeId)(m:Nat)(cs:List Value)(g:G w h)(c:(gl ops Γ k && ((av ops k).dst == some t) && decide (t<n))=true)(d:bu ops Γ (av ops k)=some true)
  (a:(execOp (ev Γ) (av ops k)).run P w=.ok (.value (.slice (some ⟨w.heap.size,0,none⟩) m m)) (w.alloc (.cells cs.toArray ty (0,0))))
  (H:∀ b w' h',Up w h w' h'->Seg h' b 0 cs->LG P n N R X ops (k+1) ((t,.slice (some ⟨b,0,none⟩) m m)::Γ) w'):LG P n N R X ops k Γ w :=
 LG.val t _ _ c d a (H _ _ _ (Up.allocAny g _ _ (.inl rfl)) (by rw[g.size];exact Seg.new cs ty))
theorem Rg.row (i t:Nat)(ty:TypeId)(m:Nat)(cs:List Value)(d:(kI n ops k0 AL L i t && ba Γ (av ops i))=true)(e:bu ops Γ (av ops i)=some true)
  (a:∀ w,(execOp (ev Γ) (av ops i)).run P w=.ok (.value (.slice (some ⟨w.heap.size,0,none⟩) m m)) (w.alloc (.cells cs.toArray ty (0,0))))
  (H:∀ b w' c,Up w h w' c->Seg c b 0 cs->EG M P n N R X ops k0 hr AL (L.setIfInBounds i true) ((t,.slice (some ⟨b,0,none⟩) m m)::Γ) w' c):EG M P n N R X ops k0 hr AL L Γ w h :=
 Rg.event i t d e (fun w' c u=>.inl ⟨_,_,_,a w',(Up.allocAny u.g _ _ (.inl rfl)).m M.l,H _ _ _ (u.trans (Up.allocAny u.g _ _ (.inl rfl))) (by rw[u.g.size];exact Seg.new cs ty)⟩)
theorem Rg.ownA {w0:World}{h0:Hp}{B:List Bx}{α:Type}(i t j:Nat)(l:List α)(f:α->List Value)(sz:Nat)(d:α)(e:Nat)(v:Value)(s:St w0 h0 w h B)(p:(dl n ops k0 AL L i t && ba Γ (av ops i) && ii ops k0 i)=true)(y:bu ops Γ (av ops i)=some true)
  (c:(aD B j).b ∉ M.l)(C:decide (j<B.length)=true)(hB:(aD B j).vs=l.flatMap f)(hf:∀ x,(f x).length=sz)(z:e<l.length)
  (D:bP P (execOp (ev Γ) (av ops i)) (f (l.getD e d))=some (.value v,kA (aD B j).b (0+e*sz) (f (l.getD e d)).length))
  (k:EG M P n N R X ops k0 hr AL (L.setIfInBounds i true) ((t,v)::Γ) w h):EG M P n N R X ops k0 hr AL L Γ w h :=
 Rg.load i t v p y (fun w' F=>bH _ _ _ _ D (fun q a u ha hu=>by
  rw[d9 _ _ _ _ _ ha,((s.own _ (bC (oT C))).mo F c).cell,hB];rw[<-eW hf d l e z] at hu
  have o:q<sz:=by
   rcases co q sz with hl|hl
   ·exact hl
   ·rw[pk (by simp;omega)] at hu;cases hu
  rw[rh o,ri] at hu
  rw[tv];exact hu)) k
theorem LG.ownA {w0:World}{h0:Hp}{B:List Bx}{α:Type}{k:Nat}(t j:Nat)(l:List α)(f:α->List Value)(sz:Nat)(d:α)(e:Nat)(v:Value)(s:St w0 h0 w h B)(i:(gl ops Γ k && ((av ops k).dst == some t) && decide (t<n))=true)(o:bu ops Γ (av ops k)=some true)
  (y:decide (j<B.length)=true)(hB:(aD B j).vs=l.flatMap f)(hf:∀ x,(f x).length=sz)(p:e<l.length)
  (z:bP P (execOp (ev Γ) (av ops k)) (f (l.getD e d))=some (.value v,kA (aD B j).b (0+e*sz) (f (l.getD e d)).length))
  (H:LG P n N R X ops (k+1) ((t,v)::Γ) w):LG P n N R X ops k Γ w :=
 LG.val t v w i o (bH _ _ _ _ z (fun q a u ha hu=>by
  rw[d9 _ _ _ _ _ ha,(s.own _ (bC (oT y))).cell,hB];rw[<-eW hf d l e p] at hu
  have c:q<sz:=by
   rcases co q sz with hl|hl
   ·exact hl
   ·rw[pk (by simp;omega)] at hu;cases hu
  rw[rh c,ri] at hu
  rw[tv];exact hu)) H
theorem LG.arr {w0:World}{h0:Hp}{B:List Bx}{k:Nat}(t:Nat)(ty:TypeId)(m:Nat)(vs:List Value)(s:St w0 h0 w h B)(c:(gl ops Γ k && ((av ops k).dst == some t) && decide (t<n))=true)(d:bu ops Γ (av ops k)=some true)
  (a:(execOp (ev Γ) (av ops k)).run P w=.ok (.value (.slice (some ⟨w.heap.size,0,none⟩) m m)) (w.alloc (.cells vs.toArray ty (0,0))))
  (H:∀ b w' h',h.size<=b->Up w h w' h'->St w0 h0 w' h' (⟨b,ty,vs⟩::B)->LG P n N R X ops (k+1) ((t,.slice (some ⟨b,0,none⟩) m m)::Γ) w'):LG P n N R X ops k Γ w:=by
 have u:Up w h (w.alloc (.cells vs.toArray ty (0,0))) (h.push junk):=Up.allocAny s.g _ _ (.inr rfl);refine LG.val t _ _ c d a (H _ _ _ (by rw[s.g.size];exact eb _) u (St.new1 (x:=⟨0,0,.cells vs.toArray ty (0,0)⟩) s (s.step u) ⟨?_,?_,?_⟩ ty vs rfl))
 ·rw[dq];exact e0
 ·rw[s.g.size];exact e0
 ·show h.size<=w.heap.size;rw[s.g.size];exact eb _
def gG (B:List Bx)(j:Nat)(vs:List Value):List Bx:=B.set j { aD B j with vs:=vs }
theorem LG.putA {w0:World}{h0:Hp}{B:List Bx}{α:Type}{k:Nat}(j:Nat)(l:List α)(f:α->List Value)(sz e:Nat)(x:α)(s:St w0 h0 w h B)(D:G w0 h0)(y:(gl ops Γ k && ((av ops k).dst == none))=true)(z:bu ops Γ (av ops k)=some true)
  (C:decide (j<B.length)=true)(hB:(aD B j).vs=l.flatMap f)(hf:∀ x,(f x).length=sz)(u:e<l.length)
  (F:dw P (execOp (ev Γ) (av ops k))=some (.skip,ml (aD B j).b (0+e*sz) (f x)))
  (H:∀ w',Put (aD B j).b w w'->St w0 h0 w' h (gG B j ((l.set e x).flatMap f))->LG P n N R X ops (k+1) Γ w'):LG P n N R X ops k Γ w:=by
 have d:=oT C
 have p:(0+e*sz)+(f x).length<=(aD B j).vs.length:=by
  rw[hB,da hf,hf,tv,<-s4];exact ua _ u
 obtain ⟨w',i,a,o⟩:=fc _ _ _ _ _ w F (s.own _ (bC d)) p;have c:=s.put D d a o;refine LG.store w' y z i (H w' a ?_)
 unfold fU at c
 rw[hB,tv,iP hf l e x u] at c
 exact c
theorem T.putA {w0:World}{h0:Hp}{B:List Bx}{α:Type}(i j:Nat)(l:List α)(f:α->List Value)(sz e:Nat)(x:α)(s:St w0 h0 w h B)(F:G w0 h0)(y:(gY ops k0 L i && ba Γ (av ops i) && ((av ops i).dst == none))=true)(C:bu ops Γ (av ops i)=some true)
  (D:decide (j<B.length)=true)(hB:(aD B j).vs=l.flatMap f)(hf:∀ x,(f x).length=sz)(u:e<l.length)
  (I:dw P (execOp (ev Γ) (av ops i))=some (.skip,ml (aD B j).b (0+e*sz) (f x)))
  (H:∀ w',Put (aD B j).b w w'->St w0 h0 w' h (gG B j ((l.set e x).flatMap f))->AG M P n N R X ops k0 (L.setIfInBounds i true) Γ w')(hz:∀ K bs,M.z=some (K,bs)->K<=(aD B j).b\/(aD B j).b∈bs:=by intro _ _ e;cases e):AG M P n N R X ops k0 L Γ w:=by
 have d:=oT D
 have p:(0+e*sz)+(f x).length<=(aD B j).vs.length:=by
  rw[hB,da hf,hf,tv,<-s4];exact ua _ u
 obtain ⟨w',k,a,o⟩:=fc _ _ _ _ _ w I (s.own _ (bC d)) p;have c:=s.put F d a o;refine T.store i w' y C k (a.tl hz) (H w' a ?_)
 unfold fU at c
 rw[hB,tv,iP hf l e x u] at c
 exact c
end rows
theorem gE {a b:Int}(h:a=b):(a == b)=true:=by simpa using h
theorem hC {a b:Int}(h:a≠b):(a == b)=false:=by simpa using h
theorem xN {a b:Int}(h:a≠b):(a != b)=true:=by simpa using h
theorem mj {a b:Int}(h:a=b):(a != b)=false:=by simpa using h
theorem St.drop {w0:World}{h0:Hp}{w:World}{h:Hp}{B:List Bx}(s:St w0 h0 w h B)(k:Nat):St w0 h0 w h (B.drop k) :=
 ⟨s.up,fun x a=>s.own x (ub a),fun x a=>s.jk x (ub a),fun x a=>s.lo x (ub a),s.nd.sublist ((ul k B).map (·.b))⟩
theorem az {a b:Int}(h:(a != b)=false):a=b:=by simpa using h
theorem a7 {a b:Int}(h:(a != b)=true):a≠b:=by simpa using h
theorem ao {a b:Int}(h:(a == b)=false):a≠b:=by simpa using h
theorem oX {α:Type}{f:α->List Value}{b:α}{sz:Nat}(hf:(f b).length=sz)(a:0<sz):∀ (m i:Nat),i<m*sz->((um m b).flatMap f)[i]?=(f b)[i%sz]?
  | 0,i,h=>by simp at h
  | m + 1,i,h=>by
    rw[un,sr]
    rcases co i sz with hl|hl
    . rw[rc oM,u9 hl]
    . rw[rk oM,hf,oX hf a m (i-sz) (by rw[s4] at h;omega)]
      congr 1
      rw[Nat.mod_eq_sub_mod hl]
theorem ti {α:Type}{f:α->List Value}{c:α}{z:Value}{sz m:Nat}(d:z.cells.toList=f c)(b:z.cells.size=sz)(a:0<sz):madeCells z.cells (m*sz)=((um m c).flatMap f).toArray:=by
 have hf:(f c).length=sz:=by rw[<-d];simpa using b
 apply Array.ext_getElem?
 intro i;rw[show ((um m c).flatMap f).toArray[i]?=((um m c).flatMap f)[i]? from by simp]
 rcases co i (m*sz) with hl|hl
 ·rw[oX hf a m i hl,<-d]
  have e:i%sz<z.cells.size:=by rw[b];exact va _ a
  simp only[madeCells,Array.getElem?_map,Array.getElem?_range,hl,if_true,pv,b,Array.getElem?_toList]
  rw[er e,getElem!_pos z.cells (i%sz) e]
 ·rw[ea (by rw[size_madeCells];exact hl),pk]
  have:∀ m,((um m c).flatMap f).length=m*sz:=by
   intro m
   induction m with
   | zero=>simp
   | succ m ih=>rw[un,sr,s6,ih,hf,s4];omega
  rw[this];exact hl
section ops
variable {P:Program}{Γ:ck}{o:Oper}
theorem Es {t e:TypeId}{x ix:Operand}{A:Z9}{len cap sz:Nat}{i:Int}(k:Nat)(p:o.op=.indexAddr t x ix)(l:ev Γ x=.slice A len cap)(hi:ev Γ ix=.int .i64 i)
    (hu:P.underlying t=some (.slice e))(c:(P.info? e).map (·.size)=some sz)(f:A=some ⟨aB A,aO A,none⟩)(d:i=k)(u:k<len)(w:World) :
    (execOp (ev Γ) o).run P w=.ok (.value (.pointer (some ⟨aB A,aO A+k*sz,none⟩))) w:=by
  subst d
  unfold execOp
  simp only[p]
  rw[l,hi];have b:P.elem t=e:=by unfold Program.elem;rw[hu]
  have h1:=run_indexAt_slice (P:=P) w t ⟨aB A,aO A,none⟩ len cap .i64 (k:Int) (by rw[b];exact hu);rw[if_pos ⟨by omega,by omega⟩,b] at h1
  have h:(sizeOf e).run P w=.ok sz w:=by
    cases a:P.info? e with
    | none=>rw[a] at c;cases c
    | some i =>
      rw[a] at c
      simp at c
      simp[sizeOf,typeInfo,a,c]
  rw[h] at h1
  have j:((⟨aB A,aO A,none⟩:Addr).add ((k:Int).toNat*sz))=⟨aB A,aO A+k*sz,none⟩:=by
    unfold Addr.add
    simp only[vb]
    split
    . rename_i h0;rw[h0];rfl
    . rfl
  simp only[Result.andThen] at h1
  rw[j] at h1
  rw[<-f] at h1
  rw[Sem.run_bind,h1]
  rfl
theorem H6 {t e:TypeId}{x y:Operand}{z:Value}{m sz d:Nat}{α:Type}{f:α->List Value}{j:α}(D:o.op=.makeSlice t x y)(B:ev Γ x=.int .i64 (m:Int))(l:ev Γ y=.int .i64 (m:Int))
    (hu:P.underlying t=some (.slice e))(hi:(P.info? e).map (fun i=>(i.zero,i.size,i.bytes))=some (some z,sz,d))(c:z.cells.toList=f j)(h:z.cells.size=sz)(b:0<sz)(F:d*m<=140737488355328)(k:m<9223372036854775808)(w:World) :
    (execOp (ev Γ) o).run P w=.ok (.value (.slice (some ⟨w.heap.size,0,none⟩) m m)) (w.alloc (.cells ((um m j).flatMap f).toArray e (0,0))):=by
  cases a:P.info? e with
  | none=>rw[a] at hi;cases hi
  | some inf =>
    rw[a] at hi
    simp only[pv,Option.some.injEq,Prod.mk.injEq] at hi
    obtain ⟨h1,u,C⟩:=hi
    unfold execOp
    simp only[D]
    have p:(inf.bytes:Int)*(m:Int)<=281474976710656:=by
      rw[C];have:((d*m:Nat):Int)<=281474976710656:=by omega
      simpa using this
    rw[B,l,Sem.run_bind,run_make (P:=P) w t e inf z hu a h1 .i64 .i64 (m:Int) (m:Int) oM oM p oM]
    simp only[Result.andThen,vb,u]
    rw[ti c h b]
    rfl
theorem HE {t e:TypeId}{x hi:Operand}{A:Z9}{len cap:Nat}{i:Int}(k:Nat)(p:o.op=.slice t x none (some hi) none)(l:ev Γ x=.slice A len cap)(d:ev Γ hi=.int .i64 i)
  (hu:P.underlying t=some (.slice e))(u:(P.info? e).isSome=true)(j:i=k)(f:k<=cap)(w:World) :
  (execOp (ev Γ) o).run P w=.ok (.value (.slice A k cap)) w:=by
 subst j;obtain ⟨c,b⟩:=hO.1 u
 unfold execOp
 simp only[p,vl,pv]
 rw[l,d];have h:∀ a:Addr,a.add 0=a:=fun a=>by unfold Addr.add;simp
 have y:A.map (fun a=>a.add (0*c.size))=A:=by cases A<;>simp[h]
 simp[Instr.sliceAt,Instr.slice,Instr.sliceBounds,Instr.sliceBound,run_underlying hu,asIntOf,sizeOf,typeInfo,b,Result.andThen,f]
 intro _;cases A<;>simp[h]
theorem Ej {t e:TypeId}{x b:Operand}{A:Z9}{len cap sz:Nat}{i:Int}(k:Nat)(l:o.op=.slice t x (some b) none none)(j:ev Γ x=.slice A len cap)(d:ev Γ b=.int .i64 i)
    (hu:P.underlying t=some (.slice e))(c:(P.info? e).map (·.size)=some sz)(h:i=k)(f:k<=len)(w:World) :
    (execOp (ev Γ) o).run P w=.ok (.value (.slice (if cap=k then A else A.map (·.add (k*sz))) (len-k) (cap-k))) w:=by
  subst h;cases a:P.info? e with
  | none=>rw[a] at c;cases c
  | some inf =>
    rw[a] at c
    simp at c
    unfold execOp
    simp only[l,vl,pv]
    rw[j,d]
    simp[Instr.sliceAt,Instr.slice,Instr.sliceBounds,Instr.sliceBound,run_underlying hu,asIntOf,sizeOf,typeInfo,a,Result.andThen,f,c]
end ops
structure Gro (h0:Hp) (B:List Nat) (w:World) (h:Hp) (ty:TypeId) (sz:Nat) (v:Value) (n:Nat) (cs:List Value):Prop where
  own:w.ownsRow h0.size ty sz v n cs
  jk:∀ b,v.ownBlock=some b->h[b]?=some junk
  ap:∀ b,v.ownBlock=some b->b ∉ B
section gro
variable {h0:Hp}{B:List Nat}{w:World}{h:Hp}{ty:TypeId}{sz:Nat}{v:Value}{n:Nat}{cs:List Value}
theorem Gro.nil:Gro h0 B w h ty sz (.slice none 0 0) 0 []:=⟨World.ownsRow_nil _ _ _ _,fun b a=>by simp[Value.ownBlock] at a,fun b a=>by simp[Value.ownBlock] at a⟩
theorem e7 {a:Nat}(o:w.ownsRow a ty sz v n cs){w':World}(c:∀ b,v.ownBlock=some b->w'.heap[b]?=w.heap[b]?):w'.ownsRow a ty sz v n cs:=by
 rcases o with ⟨h1,h2|⟨g,cap,cur,hv,hb',hg,hn,hm,hs,ht⟩⟩
 ·exact ⟨h1,.inl h2⟩
 ·exact ⟨h1,.inr ⟨g,cap,cur,hv,hb',(c g (by rw[hv];rfl)).trans hg,hn,hm,hs,ht⟩⟩
theorem Gro.lt (r:Gro h0 B w h ty sz v n cs){b:Nat}(a:v.ownBlock=some b):b<h.size:=aI (r.jk b a)
theorem j0 {a:Nat}(o:w.ownsRow a ty sz v n cs){b:Nat}(c:v.ownBlock=some b):b<w.heap.size:=by
 rcases o with ⟨_,⟨rfl,_⟩|⟨g,cap,cur,rfl,_,hg,_⟩⟩
 ·simp[Value.ownBlock] at c
 ·simp[Value.ownBlock] at c
  subst c
  rcases co g w.heap.size with hl|hl
  ·exact hl
  ·rw[ea hl] at hg;cases hg
theorem Gro.up (r:Gro h0 B w h ty sz v n cs){w':World}{c:Hp}(u:Up w h w' c):Gro h0 B w' c ty sz v n cs :=
 ⟨e7 r.own (fun b a=>Below.block u.ext b (j0 r.own a)),fun b a=>(u.gr.blk b (r.lt a)).trans (r.jk b a),r.ap⟩
theorem Gro.put (r:Gro h0 B w h ty sz v n cs){w':World}{b:Nat}(p:Put b w w')(d:b∈B):Gro h0 B w' h ty sz v n cs :=
 ⟨e7 r.own (fun c a=>p.blk c (fun e=>r.ap c a (e▸d))),r.jk,r.ap⟩
theorem Gro.new (r:Gro h0 B w h ty sz v n cs)(b:Nat)(f:∀ c,v.ownBlock=some c->c≠b):Gro h0 (b::B) w h ty sz v n cs :=
 ⟨r.own,r.jk,fun c a d=>by
  rcases gq.1 d with e|e
  ·exact f c a e
  ·exact r.ap c a e⟩
theorem Gro.sub (r:Gro h0 B w h ty sz v n cs)(B':List Nat)(a:∀ b∈B',b∈B):Gro h0 B' w h ty sz v n cs:=⟨r.own,r.jk,fun b d c=>r.ap b d (a b c)⟩
theorem Gro.out (r:Gro h0 B w h ty sz v n cs){a:Hp}{b:Nat}(i:b∈B)(f:∀ c,c≠b->a[c]?=h[c]?):Gro h0 B w a ty sz v n cs :=
 ⟨r.own,fun c d=>(f c (fun e=>r.ap c d (e▸i))).trans (r.jk c d),r.ap⟩
theorem Gro.app (r:Gro h0 B w h ty sz v n cs){w':World}{d:Hp}{row:Option Nat}(f:w.grownBy w' row)(i:Gr h d)(c:∀ b,v.ownBlock=some b->row≠some b):Gro h0 B w' d ty sz v n cs :=
 ⟨e7 r.own (fun b a=>f.block b (j0 r.own a) (fun e=>c b a e.symm)),fun b a=>(i.blk b (r.lt a)).trans (r.jk b a),r.ap⟩
theorem pF {w0:World}{B':List Bx}{w':World}(s:St w0 h0 w h B')(o:G w0 h0)(r:Gro h0 (B'.map (·.b)) w h ty sz v n cs)(c:w.grownBy w' v.ownBlock):∃ j,Gr h j/\St w0 h0 w' j B'/\∀ b,h.size<=b->b<w'.heap.size->j[b]?=some junk:=by
  have i:∀ b,v.ownBlock=some b->h0.size<=b:=by
    intro b a
    rcases r.own with ⟨_,⟨rfl,_⟩|⟨g,cap,cur,rfl,hbb,_⟩⟩
    . simp[Value.ownBlock] at a
    . simp[Value.ownBlock] at a;omega
  have p:=s.g.size;have k:=c.size;have d:Gr h (h++pa (w'.heap.size-h.size) junk):=⟨by simp,fun b a=>et a⟩;refine ⟨h++pa (w'.heap.size-h.size) junk,d,⟨⟨⟨c.os.trans s.up.ext.os,c.tape.trans s.up.ext.tape,c.output.trans s.up.ext.output,ed s.up.ext.size k,fun b a=>?_⟩,s.up.gr.trans d,⟨by simp;omega,fun b=>?_⟩⟩,?_,?_,s.lo,s.nd⟩,?_⟩
  . rw[c.block b (ep a s.up.ext.size) (fun e=>by have:=i b e.symm;rw[o.size] at a;omega)]
    exact Below.block s.up.ext b a
  . rcases co b h.size with a|a
    . rw[et a]
      by_cases e:v.ownBlock=some b
      . exact .inr (r.jk b e)
      . rw[c.block b oM (fun l=>e l.symm)];exact s.g.blk b
    . by_cases hl:b<w'.heap.size
      . right
        rw[ey a,wl,if_pos oM]
      . left
        rw[ea (by simp;omega),ea oM]
  . intro x f
    show w'.heap[x.b]?=_
    rw[c.block x.b (s.own x f).lt (fun e=>r.ap x.b e.symm (ga.2 ⟨x,f,rfl⟩))];exact s.own x f
  . intro x f
    rw[d.blk _ (aI (s.jk x f))];exact s.jk x f
  . intro b h1 u
    rw[ey h1,wl,if_pos oM]
def Apart (v u:Value):Prop:=∀ b,v.ownBlock=some b->u.ownBlock≠some b
theorem Apart.symm {v u:Value}(h:Apart v u):Apart u v:=fun b a hv=>h b hv a
theorem Apart.grown {v v' u:Value}(h:Apart v u)(c:v'.ownBlock=v.ownBlock\/v'.ownBlock=some w.heap.size)(hu:∀ b,u.ownBlock=some b->b<w.heap.size):Apart v' u:=fun b hv a=>by
 rcases c with e|e
 ·exact h b (e▸hv) a
 ·rw[e] at hv
  injection hv with hv
  have:=hu b a
  omega
theorem Apart.nil {u:Value}:Apart (.slice none 0 0) u:=fun b a=>by simp[Value.ownBlock] at a
end gro
section app
variable {P:Program}{n:Nat}{N R:Po}{X:Nat->Po}{ops:Array Oper}{k0:Nat}{hr:Hp}{AL:List Al}{L:Array Bool}{Γ:ck}{w:World}{h:Hp}{w0:World}{h0:Hp}{B:List Bx}
theorem rx {o:Oper}{x y:Operand}{t e:TypeId}{z:Value}{sz p m m2 c:Nat}{v:Value}{cs news:List Value}{a:Addr}(M:o.op=.call { callee:=.builtin .append,args:=#[x,y],argTypes:=#[t,t] })
    (K:ev Γ x=v)(H:ev Γ y=.slice (some a) m2 c)(hu:P.underlying t=some (.slice e))(hi:(P.info? e).map (fun i=>(i.zero,i.size,i.bytes))=some (some z,sz,p))(C:z.cells.size=sz)(k:0<sz)
    (s:St w0 h0 w h B)(r:Gro h0 (B.map (·.b)) w h e sz v m cs)(S:news.length=m2*sz)(f:∀ j u,news[j]?=some u->w.cell? (a.add j)=some u)(h1:∀ u∈news,u.oneCell'=true)
    (U:m+m2<=1099511627776)(I:(m+m2)*p<=140737488355328) :
    ∃ v' w',(execOp (ev Γ) o).run P w=.ok (.value v') w'/\w'.ownsRow h0.size e sz v' (m+m2) (cs++news)/\w.grownBy w' v.ownBlock/\(v'.ownBlock=v.ownBlock\/v'.ownBlock=some w.heap.size):=by
  cases d:P.info? e with
  | none=>rw[d] at hi;cases hi
  | some inf =>
    rw[d] at hi
    simp only[pv,Option.some.injEq,Prod.mk.injEq] at hi
    obtain ⟨D,Q,F⟩:=hi;obtain ⟨v',w',l,J,L,V,O⟩:=run_append_own_at (P:=P) w h0.size t o.type e inf z sz p hu d D Q F C k v m cs r.own a m2 c news S f h1 (by unfold maxLen;omega) I (by rw[s.g.size];exact s.sz);refine ⟨v',w',?_,J,L,O⟩
    unfold execOp
    simp only[M,resolve,invoke,builtin,Sem.run_bind,Sem.run_pure,Result.andThen_ok,List.map_toArray,yh,List.map_nil,K,H,l]
theorem Gro.grown {ty:TypeId}{sz m m2:Nat}{v v':Value}{cs news:List Value}{w':World}{c:Hp}(s:St w0 h0 w h B)(r:Gro h0 (B.map (·.b)) w h ty sz v m cs)(i:w'.ownsRow h0.size ty sz v' (m+m2) (cs++news))(f:v'.ownBlock=v.ownBlock\/v'.ownBlock=some w.heap.size)(l:Gr h c)(k:∀ b,h.size<=b->b<w'.heap.size->c[b]?=some junk) :
  Gro h0 (B.map (·.b)) w' c ty sz v' (m+m2) (cs++news):=by
 have d:∀ b,v'.ownBlock=some b->b<w'.heap.size:=by
  intro b a
  rcases i with ⟨_,⟨rfl,_⟩|⟨g,cap,cur,rfl,_,hg,_⟩⟩
  ·simp[Value.ownBlock] at a
  ·simp[Value.ownBlock] at a
   subst a
   rcases co g w'.heap.size with hl|hl
   ·exact hl
   ·rw[ea hl] at hg;cases hg
 refine ⟨i,fun b a=>?_,fun b a=>?_⟩
 ·rcases f with e|e
  ·rw[e] at a;rw[l.blk b (r.lt a)];exact r.jk b a
  ·have:b=w.heap.size:=by rw[e] at a;injection a with a;exact a.symm
   exact k b (by rw[this,s.g.size];exact eb _) (d b a)
 ·rcases f with e|e
  ·rw[e] at a;exact r.ap b a
  ·have:b=w.heap.size:=by rw[e] at a;injection a with a;exact a.symm
   intro j;obtain ⟨x,p,o⟩:=ga.1 j;have:=(s.own x p).lt;have u:x.b=b:=o
   omega
theorem ma {b:Nat}{news:List Value}(g:G w h)(a:Seg h b 0 news):∀ j u,news[j]?=some u->w.cell? ((⟨b,0,none⟩:Addr).add j)=some u:=by
 intro j u hu;have:=iX g (a j u hu)
 unfold Addr.add
 split
 ·rename_i h0;subst h0;exact this
 ·exact this
end app
theorem UpM.weak {M c:List Nat}{w w':World}{h a:Hp}(u:UpM M w h w' a)(s:∀ b∈M,b∈c):UpM c w h w' a :=
 ⟨⟨u.mo.os,u.mo.tape,u.mo.output,u.mo.size,fun b f d=>u.mo.blk b f (fun e=>d (s b e))⟩,u.gr,u.g⟩
theorem UpM.put {M:List Nat}{w0 w w':World}{h0 h:Hp}{b:Nat}(u:UpM M w0 h0 w h)(p:Put b w w')(f:b∈M)(g:G w' h):UpM M w0 h0 w' h :=
 ⟨⟨p.os.trans u.mo.os,p.tape.trans u.mo.tape,p.output.trans u.mo.output,by rw[p.size];exact u.mo.size,fun c d a=>(p.blk c (fun e=>a (e▸f))).trans (u.mo.blk c d a)⟩,u.gr,g⟩
theorem St.at_ {w:World}{h:Hp}{rb:Nat}{t:TypeId}{vs:List Value}(g:G w h)(o:Own w rb t vs)(j:h[rb]?=some junk):∃ w0 h0,G w0 h0/\St w0 h0 w h [⟨rb,t,vs⟩]:=by
 have f:=aI j;have e:=g.size;refine ⟨{ w with heap:=w.heap.extract 0 rb },h.extract 0 rb,⟨by simp;omega,fun b=>?_⟩,⟨⟨⟨rfl,rfl,rfl,by simp;omega,fun b c=>?_⟩,⟨by simp;omega,fun b c=>?_⟩,g⟩,?_,?_,?_,by simp⟩⟩
 ·show (h.extract 0 rb)[b]?=(w.heap.extract 0 rb)[b]?\/_
  rw[ez,ez]
  by_cases c:b<rb
  ·rw[if_pos oM,if_pos oM];simpa using g.blk b
  ·rw[if_neg oM,if_neg oM];exact .inl rfl
 ·have d:b<rb:=by have:b<(w.heap.extract 0 rb).size:=c;simp at this;omega
  show w.heap[b]?=(w.heap.extract 0 rb)[b]?
  rw[ez,if_pos oM];simp
 ·have d:b<rb:=by simp at c;omega
  rw[ez,if_pos oM];simp
 ·intro x a;rw[o0] at a;subst a;exact o
 ·intro x a;rw[o0] at a;subst a;exact j
 ·intro x a;rw[o0] at a;subst a;simp;omega
def bV (rb:Nat)(w0:World)(h0:Hp)(Φ:Value->World->Hp->Prop):Ending->World->Prop:=fun e w'=>∃ v h',e=.returned v/\UpM [rb] w0 h0 w' h'/\Φ v w' h'
section
variable {P:Program}{n:Nat}{Γ:ck}{w:World}{h:Hp}{w0 wz:World}{h0 hz:Hp}{B:List Bx}
theorem retM {c:Func}{rb:Nat}{Φ:Value->World->Hp->Prop}(s:St wz hz w h B)(f:UpM [rb] w0 h0 w h)(ps:List (Nat × Nat × Nat))(v:Value)(b:(lE c Γ && bR B ps)=true)(i:bP P (me c Γ) (cf B ps)=some (v,bO B ps))(d:Φ v w h) :
  ∀ a,Kn n a Γ->li P c (bV rb w0 h0 Φ) a w:=by
 intro a e;rw[hN] at b
 refine ⟨e.df.trans (kE b.1),v,?_,v,h,rfl,f,d⟩;rw[fI e b.1];exact bH _ _ _ _ i (bQ s.own ps b.2)
theorem St.stepM (s:St w0 h0 w h B)(L:G w0 h0){j:Nat}{vs:List Value}{w':World}{D:Hp}(o:j<B.length)(u:UpM [(aD B j).b] w h w' D)(M:Own w' (aD B j).b (aD B j).t vs):St w0 h0 w' D (gG B j vs):=by
  have l:=bC o;have K:=s.lo _ l
  have k:(gG B j vs).map (·.b)=B.map (·.b):=by
    unfold gG
    rw[pw]
    apply pR
    intro i
    by_cases e:j=i
    . subst e
      rw[p0 (by simpa using o)]
      simp[aD,o]
    . rw[p1 e]
  have F:Up w0 h0 w' D:=by
    refine ⟨⟨u.mo.os.trans s.up.ext.os,u.mo.tape.trans s.up.ext.tape,u.mo.output.trans s.up.ext.output,ed s.up.ext.size u.mo.size,fun c z=>?_⟩,s.up.gr.trans u.gr,u.g⟩;rw[u.mo.blk c (ep z s.up.ext.size) (fun l=>by rw[o0] at l;rw[L.size] at z;omega)];exact Below.block s.up.ext c z
  have back:∀ x∈gG B j vs,∃ y∈B,y.b=x.b:=by
    intro x d;have:x.b∈(gG B j vs).map (·.b):=ga.2 ⟨x,d,rfl⟩;rw[k] at this
    obtain ⟨y,f,a⟩:=ga.1 this;exact ⟨y,f,a⟩
  refine ⟨F,?_,?_,?_,by rw[k];exact s.nd⟩
  . intro x d
    obtain ⟨i,hi,a⟩:=p2.1 d;have p:i<B.length:=by simpa [gG] using hi
    by_cases e:j=i
    . subst e
      have:x={ aD B j with vs:=vs }:=by rw[<-a];simp[gG]
      subst this;exact M
    . have H:x=B[i]:=by rw[<-a];simp[gG,e]
      subst H
      have I:B[i].b≠(aD B j).b:=by
        intro C
        have h1:(B.map (·.b))[i]'(by simpa using p)=(B.map (·.b))[j]'(by simpa using o):=by
          simp only[ql]
          rw[C]
          simp[aD,o]
        exact e ((q0 s.nd).1 h1).symm
      have J:=s.own _ (e5 p)
      show w'.heap[B[i].b]?=_
      rw[u.mo.blk _ J.lt (fun l=>I (o0.1 l))];exact J
  . intro x d
    obtain ⟨y,f,a⟩:=back x d;rw[<-a,u.gr.blk _ (aI (s.jk y f))];exact s.jk y f
  . intro x d
    obtain ⟨y,f,a⟩:=back x d;rw[<-a];exact s.lo y f
theorem Gro.upM {i:Hp}{d:List Nat}{ty:TypeId}{sz:Nat}{v:Value}{m:Nat}{cs:List Value}(r:Gro i d w h ty sz v m cs){w':World}{f:Hp}{b:Nat}(u:UpM [b] w h w' f)(j:b∈d):Gro i d w' f ty sz v m cs :=
 ⟨e7 r.own (fun c a=>u.mo.blk c (j0 r.own a) (fun e=>by rw[o0] at e;exact r.ap c a (e▸j))),fun c a=>(u.gr.blk c (r.lt a)).trans (r.jk c a),r.ap⟩
theorem cB (s:St w0 h0 w h B){i j:Nat}(hi:decide (i<B.length)=true)(f:decide (j<B.length)=true)(e:(i == j)=false):(aD B i).b≠(aD B j).b:=by
 have a:=oT hi;have c:=oT f;intro d
 have h1:(B.map (·.b))[i]'(by simpa using a)=(B.map (·.b))[j]'(by simpa using c):=by
  simp only[ql]
  simpa [aD,a,c] using d
 have:=(q0 s.nd).1 h1;subst this
 simp at e
end
section pub
variable {h0:Hp}{B:List Nat}{w:World}{h:Hp}{ty:TypeId}{sz:Nat}{v:Value}{n:Nat}{cs:List Value}
theorem Gro.pub3 {w0:World}{B':List Bx}{A:Z9}{a cap:Nat}(s:St w0 h0 w h B')(r:Gro h0 (B'.map (·.b)) w h ty sz (.slice A a cap) n cs):∃ k,St w0 h0 w k B'/\Gw h k/\(∀ c,(Value.slice A a cap).ownBlock≠some c->k[c]?=h[c]?)/\a=n/\n<=cap/\(0<n->A=some ⟨aB A,0,none⟩/\aO A=0)/\Seg k (aB A) 0 cs:=by
  rcases r.own with ⟨h1,⟨e,rfl⟩|⟨b,cap',cur,e,hbb,hg,hn,hm,hs,ht⟩⟩
  . injection e with e1 e2 e3
    subst e1 e2 e3;have:cs=[]:=ta (by simpa using h1);subst this;exact ⟨h,s,⟨eb _,fun _ _=>.inl rfl⟩,fun _ _=>rfl,rfl,eb _,fun h=>by omega,fun i v hv=>by simp at hv⟩
  . injection e with e1 e2 e3
    subst e1 e2 e3;have d:=r.jk b rfl;have f:=aI d;have o:∀ x∈B',x.b≠b:=fun x l e=>r.ap b rfl (ga.2 ⟨x,l,e⟩)
    refine ⟨h.setIfInBounds b (.cells cur ty),⟨⟨s.up.ext,⟨by simp;exact s.up.gr.size,fun c j=>?_⟩,⟨by simp;exact s.up.g.size,fun c=>?_⟩⟩,s.own,?_,s.lo,s.nd⟩,⟨by simp,fun c j=>?_⟩,fun c j=>?_,rfl,hn,fun _=>⟨rfl,rfl⟩,?_⟩
    . rw[g6 oM];exact s.up.gr.blk c j
    . by_cases e:b=c
      . subst e;left;rw[yy f];exact hg.symm
      . rw[g6 e];exact s.up.g.blk c
    . intro x l
      rw[g6 (Ne.symm (o x l))];exact s.jk x l
    . by_cases e:b=c
      . subst e;exact .inr d
      . left;rw[g6 e]
    . rw[g6 (fun e=>j (by rw[<-e];rfl))]
    . intro i u hu
      unfold fG
      show (match (h.setIfInBounds b (.cells cur ty))[b]? with|some (.cells c _ _)=>c[0+i]?|_=>none)=some u
      rw[yy f];rw[<-ht] at hu
      have hi:i<a*sz:=by
        rcases co i (a*sz) with hl|hl
        . exact hl
        . rw[pk (by simp;omega)] at hu;cases hu
      rw[rh hi] at hu
      simpa using hu
theorem Gro.pubo (r:Gro h0 B w h ty sz v n cs){a:Hp}{u:Value}(e:∀ c,u.ownBlock≠some c->a[c]?=h[c]?)(f:Apart v u):Gro h0 B w a ty sz v n cs:=⟨r.own,fun b d=>(e b (f b d)).trans (r.jk b d),r.ap⟩
theorem SlO.of_pub {α:Type}{f:α->List Value}{d:α}{l:List α}{A:Z9}(hf:∀ x,(f x).length=sz)(a:0<l.length->A=some ⟨aB A,0,none⟩/\aO A=0)(c:Seg h (aB A) 0 (l.flatMap f)):SlO sz f d h A l:=by
 rcases yz l.length with h0'|h0'
 ·have:l=[]:=ta h0'
  subst this;exact SlO.nil
 ·obtain ⟨b,e⟩:=a h0'
  have:=SlO.of_flat (d:=d) hf c;rw[<-b] at this
  exact this
end pub
theorem St.pubX {w0:World}{h0:Hp}{w:World}{h:Hp}{B:List Bx}(s:St w0 h0 w h B)(j:Nat)(k:j<B.length):∃ f,St w0 h0 w f (B.eraseIdx j)/\Gw h f/\Seg f (aD B j).b 0 (aD B j).vs/\f[(aD B j).b]?=some (.cells (aD B j).vs.toArray (aD B j).t (0,0))/\∀ c,c≠(aD B j).b->f[c]?=h[c]?:=by
 have y:=bC k;have H:=s.own _ y;have p:=s.jk _ y;have d:=aI p
 have z:∀ x∈B.eraseIdx j,x.b≠(aD B j).b:=by
  intro x a;obtain ⟨i,hi,u⟩:=p2.1 a;rw[yY] at u
  intro o;have l:=s.nd;have D:(aD B j)=B[j]:=by unfold aD;simp[k]
  split at u
  ·rename_i I
   have:(B.map (·.b))[i]'(by simp;omega)=(B.map (·.b))[j]'(by simpa using k):=by simp only[ql];rw[u,o,D]
   have:=(q0 l).1 this
   omega
  ·rename_i I
   have C:i+1<B.length:=by rw[yZ k] at hi;omega
   have:(B.map (·.b))[i+1]'(by simpa using C)=(B.map (·.b))[j]'(by simpa using k):=by simp only[ql];rw[u,o,D]
   have:=(q0 l).1 this
   omega
 refine ⟨h.setIfInBounds (aD B j).b (.cells (aD B j).vs.toArray (aD B j).t (0,0)),⟨⟨s.up.ext,⟨by simp;exact s.up.gr.size,fun b o=>?_⟩,⟨by simp;exact s.up.g.size,fun b=>?_⟩⟩,?_,?_,?_,?_⟩,⟨by simp,fun b o=>?_⟩,?_,yy d,fun c F=>g6 (Ne.symm F)⟩
 ·have:=s.lo _ y
  rw[g6 oM];exact s.up.gr.blk b o
 ·by_cases e:(aD B j).b=b
  ·subst e
   left
   rw[yy d];exact H.symm
  ·rw[g6 e];exact s.up.g.blk b
 ·exact fun x a=>s.own x (y3 a)
 ·intro x a
  rw[g6 (Ne.symm (z x a))];exact s.jk x (y3 a)
 ·exact fun x a=>s.lo x (y3 a)
 ·exact s.nd.sublist ((y4 B j).map (·.b))
 ·by_cases e:(aD B j).b=b
  ·subst e;exact .inr p
  ·left;rw[g6 e]
 ·intro i v hv
  unfold fG
  rw[yy d]
  simpa using hv
structure Rw where
  ty:TypeId
  sz:Nat
  A:Z9
  c:Nat
  n:Nat
  cs:List Value
  deriving Inhabited
def Rw.v (r:Rw):Value:=.slice r.A r.n r.c
def AllF:List (Hp->Prop)->Hp->Prop
  | [],_=>True
  | p::l,h=>p h/\AllF l h
theorem AllF.q {a b c d:Hp->Prop}{F:List (Hp->Prop)}{h:Hp}(x:AllF (a::b::c::d::F) h):AllF F h:=x.2.2.2.2
theorem AllF.r {a b:Hp->Prop}{F:List (Hp->Prop)}{h:Hp}(x:AllF (a::b::F) h):AllF F h:=x.2.2
theorem AllF.gw:∀ {F:List (Hp->Prop)} {h a:Hp},(∀ p∈F,∀ h a,Gw h a->p h->p a)->Gw h a->AllF F h->AllF F a
 | [],_,_,_,_,_=>trivial
 | p::_,_,_,m,u,x=>⟨m p (by simp) _ _ u x.1,AllF.gw (fun q b=>m q (by simp[b])) u x.2⟩
structure SS (w0:World) (h0:Hp) (w:World) (h:Hp) (B:List Bx) (R:List Rw) (F:List (Hp->Prop)):Prop where
  g0:G w0 h0
  st:St w0 h0 w h B
  ro:∀ r∈R,Gro h0 (B.map (·.b)) w h r.ty r.sz r.v r.n r.cs
  ap:R.Pairwise (fun r s=>Apart r.v s.v)
  mo:∀ p∈F,∀ h h',Gw h h'->p h->p h'
  f:AllF F h
section ss
variable {w0:World}{h0:Hp}{w:World}{h:Hp}{B:List Bx}{R:List Rw}{F:List (Hp->Prop)}
theorem SS.start (g:G w h):SS w h w h [] [] []:=⟨g,St.start g,fun _ a=>(by cases a),.nil,fun _ a=>(by cases a),trivial⟩
theorem SS.g (s:SS w0 h0 w h B R F):G w h:=s.st.g
theorem SS.step (s:SS w0 h0 w h B R F){w':World}{a:Hp}(u:Up w h w' a):SS w0 h0 w' a B R F :=
 ⟨s.g0,s.st.step u,fun r hr=>(s.ro r hr).up u,s.ap,s.mo,s.f.gw s.mo u.gr.gw⟩
theorem SS.add (s:SS w0 h0 w h B R F){K:Hp->Prop}(x:K h)(m:∀ h h',Gw h h'->K h->K h':=by intro _ _ u x;exact x.gw u):SS w0 h0 w h B R (K::F) :=
 ⟨s.g0,s.st,s.ro,s.ap,fun p a=>by
  rcases gq.1 a with rfl|a
  ·exact m
  ·exact s.mo p a,x,s.f⟩
theorem SS.a_SlO {α:Type}{sz:Nat}{f:α->List Value}{d:α}{A:Z9}{l:List α}(s:SS w0 h0 w h B R F)(x:SlO sz f d h A l):SS w0 h0 w h B R ((fun h=>SlO sz f d h A l)::F):=s.add (K:=fun h=>SlO sz f d h A l) x
theorem SS.a_Seg {b o:Nat}{cs:List Value}(s:SS w0 h0 w h B R F)(x:Seg h b o cs):SS w0 h0 w h B R ((fun h=>Seg h b o cs)::F):=s.add (K:=fun h=>Seg h b o cs) x
theorem SS.tl {K:Hp->Prop}(s:SS w0 h0 w h B R (K::F)):SS w0 h0 w h B R F:=⟨s.g0,s.st,s.ro,s.ap,fun p a=>s.mo p (List.mem_cons_of_mem _ a),s.f.2⟩
theorem SS.nil (s:SS w0 h0 w h B R F)(ty:TypeId)(sz:Nat):SS w0 h0 w h B (⟨ty,sz,none,0,0,[]⟩::R) F :=
 ⟨s.g0,s.st,fun r hr=>by
  rcases gq.1 hr with rfl|hr
  ·exact Gro.nil
  ·exact s.ro r hr,List.pairwise_cons.2 ⟨fun _ _=>Apart.nil,s.ap⟩,s.mo,s.f⟩
theorem SS.to (s:SS w0 h0 w h B R F)(B':List Bx)(R':List Rw)(e:B=B':=by kernel_rfl)(a:R=R':=by kernel_rfl):SS w0 h0 w h B' R' F:=e▸a▸s
theorem kY {j o:Nat}{cs:List Value}(a:j<B.length):(fU B j o cs).map (·.b)=B.map (·.b):=by
 unfold fU
 rw[pw]
 apply pR
 intro i
 by_cases e:j=i
 ·subst e
  rw[p0 (by simpa using a)]
  simp[aD,a]
 ·rw[p1 e]
theorem jy {j:Nat}{vs:List Value}(a:j<B.length):(gG B j vs).map (·.b)=B.map (·.b):=by
 unfold gG
 rw[pw]
 apply pR
 intro i
 by_cases e:j=i
 ·subst e
  rw[p0 (by simpa using a)]
  simp[aD,a]
 ·rw[p1 e]
theorem SS.put0 (s:SS w0 h0 w h B R F){j:Nat}{B':List Bx}{w':World}(a:j<B.length)(p:Put (aD B j).b w w')(c:St w0 h0 w' h B')(e:B'.map (·.b)=B.map (·.b)):SS w0 h0 w' h B' R F :=
 ⟨s.g0,c,fun r hr=>by rw[e];exact (s.ro r hr).put p (ga.2 ⟨_,bC a,rfl⟩),s.ap,s.mo,s.f⟩
theorem SS.new (s:SS w0 h0 w h B R F){w':World}{a:Hp}(u:Up w h w' a){b:Nat}{ty:TypeId}{vs:List Value}(j:h.size<=b)(i:St w0 h0 w' a (⟨b,ty,vs⟩::B)):SS w0 h0 w' a (⟨b,ty,vs⟩::B) R F :=
 ⟨s.g0,i,fun r hr=>((s.ro r hr).up u).new b (fun c d e=>by have:=(s.ro r hr).lt d;omega),s.ap,s.mo,s.f.gw s.mo u.gr.gw⟩
theorem SS.stepM (s:SS w0 h0 w h B R F)(j:Nat){rb:Nat}{vs:List Value}{w':World}{c:Hp}(u:UpM [rb] w h w' c)(i:Own w' rb (aD B j).t vs)(d:decide (j<B.length)=true:=by kernel_rfl)(e:(aD B j).b=rb:=by kernel_rfl):SS w0 h0 w' c (gG B j vs) R F:=by
 subst e;have a:=oT d;exact ⟨s.g0,s.st.stepM s.g0 a u i,fun r hr=>by rw[jy a];exact (s.ro r hr).upM u (ga.2 ⟨_,bC a,rfl⟩),s.ap,s.mo,s.f.gw s.mo u.gr.gw⟩
theorem SS.drop (s:SS w0 h0 w h B R F)(k m:Nat):SS w0 h0 w h (B.drop k) (R.drop m) F :=
 ⟨s.g0,s.st.drop k,fun r hr=>(s.ro r (ub hr)).sub _ (fun b c=>by
  obtain ⟨x,a,e⟩:=ga.1 c;exact ga.2 ⟨x,ub a,e⟩),s.ap.sublist (ul _ _),s.mo,s.f⟩
theorem SS.own (s:SS w0 h0 w h B R F)(j:Nat)(a:decide (j<B.length)=true:=by kernel_rfl):Own w (aD B j).b (aD B j).t (aD B j).vs:=s.st.own _ (bC (oT a))
theorem SS.jk (s:SS w0 h0 w h B R F)(j:Nat)(a:decide (j<B.length)=true:=by kernel_rfl):h[(aD B j).b]?=some junk:=s.st.jk _ (bC (oT a))
theorem SS.pub (s:SS w0 h0 w h B R F)(j:Nat)(i:decide (j<B.length)=true:=by kernel_rfl):∃ a,SS w0 h0 w a (B.eraseIdx j) R F/\Seg a (aD B j).b 0 (aD B j).vs/\h0.size<=(aD B j).b/\a[(aD B j).b]?=some (.cells (aD B j).vs.toArray (aD B j).t (0,0)):=by
 have c:=oT i;obtain ⟨a,l,gw,u,k,oth⟩:=s.st.pubX j c;have d:=bC c;refine ⟨a,⟨s.g0,l,fun r hr=>((s.ro r hr).out (ga.2 ⟨_,d,rfl⟩) oth).sub _ (fun b p=>?_),s.ap,s.mo,s.f.gw s.mo gw⟩,u,s.st.lo _ d,k⟩;obtain ⟨x,o,e⟩:=ga.1 p;exact ga.2 ⟨x,y3 o,e⟩
theorem SS.take (s:SS w0 h0 w h B R F){w':World}{f:Hp}(u:Up w h w' f){b:Nat}{ty:TypeId}{vs:List Value}(p:h.size<=b)(d:f[b]?=some (.cells vs.toArray ty (0,0)))(k:(ty == 0)=false:=by kernel_rfl) :
  ∃ i,SS w0 h0 w' i (⟨b,ty,vs⟩::B) R F/\(∀ c,c≠b->i[c]?=f[c]?)/\Gr h i:=by
 have l:=aI d;have o:Gr h (f.setIfInBounds b junk):=⟨by simp;exact u.gr.size,fun c j=>by rw[g6 oM];exact u.gr.blk c j⟩
 have D:G w' (f.setIfInBounds b junk):=⟨by simp;exact u.g.size,fun c=>by
  by_cases e:b=c
  ·subst e;right;rw[yy l]
  ·rw[g6 e];exact u.g.blk c⟩
 have z:Up w h w' (f.setIfInBounds b junk):=⟨u.ext,o,D⟩
 have J:Own w' b ty vs:=by
  rcases u.g.blk b with e|e
  ·exact e.symm.trans d
  ·rw[e] at d
   injection d with d
   unfold junk at d
   injection d with h1 h2 h3
   rw[<-h2] at k
   cases k
 refine ⟨f.setIfInBounds b junk,s.new z p ⟨s.st.up.trans z,?_,?_,?_,?_⟩,fun c j=>g6 (Ne.symm j),o⟩
 ·intro x a
  rcases gq.1 a with rfl|a
  ·exact J
  ·exact (s.st.own x a).ext u.ext
 ·intro x a
  rcases gq.1 a with rfl|a
  ·exact yy l
  ·rw[o.blk _ (aI (s.st.jk x a))];exact s.st.jk x a
 ·intro x a
  rcases gq.1 a with rfl|a
  ·exact ed s.st.sz p
  ·exact s.st.lo x a
 ·refine gs.2 ⟨fun C=>?_,s.st.nd⟩
  obtain ⟨y,H,I⟩:=ga.1 C;have:=aI (s.st.jk y H);have K:y.b=b:=I
  omega
theorem SS.pubr (s:SS w0 h0 w h B R F)(j:Nat){ty:TypeId}{sz c:Nat}{A:Z9}{α:Type}{f:α->List Value}{l:List α}(d:α)(hf:∀ x,(f x).length=sz)(hr:R.getD j default=⟨ty,sz,A,c,l.length,l.flatMap f⟩:=by kernel_rfl)(I:decide (j<R.length)=true:=by kernel_rfl) :
  ∃ k,SS w0 h0 w k B (R.eraseIdx j) ((fun h=>SlO sz f d h A l)::F)/\l.length<=c:=by
 have a:=oT I;have z:R[j]=⟨ty,sz,A,c,l.length,l.flatMap f⟩:=by rw[<-hr];simp[a]
 have M:R[j]∈R:=e5 a;have C:=s.ro _ M;rw[z] at C
 obtain ⟨k,L,gw,J,_,H,hz,K⟩:=Gro.pub3 s.st C
 have o:∀ r∈R.eraseIdx j,Apart r.v R[j].v:=by
  intro r hr;obtain ⟨i,hi,e⟩:=p2.1 hr;rw[yY] at e
  have b:=y5.1 s.ap
  split at e
  ·rename_i D;rw[<-e];exact b i j oM a D
  ·rename_i D
   rw[<-e];have y:i+1<R.length:=by rw[yZ a] at hi;omega
   exact (b j (i+1) a y oM).symm
 refine ⟨k,⟨s.g0,L,fun r hr=>(s.ro r (y3 hr)).pubo J (by have:=o r hr;rw[z] at this;exact this),s.ap.sublist (y4 R j),fun p b=>by
  rcases gq.1 b with rfl|b
  ·exact fun _ _ u x=>x.gw u
  ·exact s.mo p b,SlO.of_pub hf hz K,s.f.gw s.mo gw⟩,H⟩
theorem SS.grown (s:SS w0 h0 w h B R F){j:Nat}(H:j<R.length){w':World}{v':Value}{m2:Nat}{news:List Value}(Q:w'.ownsRow h0.size R[j].ty R[j].sz v' (R[j].n+m2) (R[j].cs++news))(O:w.grownBy w' R[j].v.ownBlock)(M:v'.ownBlock=R[j].v.ownBlock\/v'.ownBlock=some w.heap.size) :
    ∃ y A c,v'=.slice A (R[j].n+m2) c/\Gr h y/\SS w0 h0 w' y B (R.set j ⟨R[j].ty,R[j].sz,A,c,R[j].n+m2,R[j].cs++news⟩) F:=by
  have X:R[j]∈R:=e5 H;have r:=s.ro _ X;obtain ⟨y,z,U,I⟩:=pF s.st s.g0 r O;have W:=r.grown s.st Q M z I
  have L:∃ A c,v'=.slice A (R[j].n+m2) c:=by
    rcases Q with ⟨_,⟨e,e2⟩|⟨g,cap,cur,e,_⟩⟩
    . exact ⟨none,0,by rw[e,e2]⟩
    . exact ⟨_,_,e⟩
  obtain ⟨A,c,e⟩:=L;subst e;have K:=y5.1 s.ap
  have l:∀ i (hi:i<R.length),i≠j->Apart R[j].v R[i].v:=fun i hi p=>by
    rcases Nat.lt_or_gt_of_ne p with hl|hl
    . exact (K i j hi H hl).symm
    . exact K j i H hi hl
  have d:∀ i (hi:i<R.length),i≠j->Apart (.slice A (R[j].n+m2) c) R[i].v:=fun i hi p =>
    Apart.grown (w:=w) (l i hi p) M (fun b o=>j0 (s.ro _ (e5 hi)).own o)
  refine ⟨y,A,c,rfl,z,⟨s.g0,U,?_,?_,s.mo,s.f.gw s.mo z.gw⟩⟩
  . intro x V
    obtain ⟨i,hi,C⟩:=p2.1 V;have a:i<R.length:=by simpa using hi
    by_cases e:j=i
    . subst e
      simp at C
      rw[<-C];exact W
    . rw[y6 e] at C
      rw[<-C];exact (s.ro _ (e5 a)).app O z (fun b o J=>l i a (Ne.symm e) b J o)
  . refine y5.2 (fun i k hi S D=>?_)
    have a:i<R.length:=by simpa using hi
    have u:k<R.length:=by simpa using S
    by_cases e:j=i
    . subst e
      rw[y7,y6 oM];exact d k u oM
    . by_cases e2:j=k
      . subst e2
        rw[y7,y6 oM];exact (d i a oM).symm
      . rw[y6 e,y6 e2]
        exact K i k a u D
end ss
theorem SS.aS {α:Type}{sz:Nat}{f:α->List Value}{x:α}{A:Z9}{l:List α}{w0 w:World}{h0 h:Hp}{B:List Bx}{R:List Rw}{F:List (Hp->Prop)}(s:SS w0 h0 w h B R F)(p:SlO sz f x h A l):SS w0 h0 w h B R ((fun h=>SlO sz f x h A l)::F):=s.a_SlO p
theorem SS.aP {α β:Type}{sz a:Nat}{f:α->List Value}{x:α}{A:Z9}{l:List α}{g:β->List Value}{y:β}{D:Z9}{m:List β}{w0 w:World}{h0 h:Hp}{B:List Bx}{R:List Rw}{F:List (Hp->Prop)}(s:SS w0 h0 w h B R F)(p:SlO sz f x h A l)(q:SlO a g y h D m):SS w0 h0 w h B R ((fun h=>SlO a g y h D m)::(fun h=>SlO sz f x h A l)::F):=(s.a_SlO p).a_SlO q
section
variable {P:Program}{n:Nat}{N R:Po}{X:Nat->Po}{Γ:ck}{w:World}{h:Hp}
theorem cQ {x y:Code}(H:CG P n (fun a w=>y.wp P (iQ N R X) a w) R X x Γ w):CG P n N R X (.seq x y) Γ w:=CG.seq H
theorem cK {y:Code}{N' R':Po}{X':Nat->Po}(H:CG P n N' R' X' y Γ w):CG P n (fun a w=>y.wp P (iQ N' R' X') a w) R X .skip Γ w:=CG.skipN H
theorem kQ {id:Nat}{ops:Array Oper}(H:LG P n N R X ops 0 Γ w):CG P n N R X (.region id ops false) Γ w:=CG.listed H
theorem kZ {id:Nat}{c:Code}(H:CG P n N R (fun i=>if i=id then N else X i) c Γ w):CG P n N R X (.block id c) Γ w:=CG.block H
theorem kX (H:∀ a,Kn n a Γ->R a w):CG P n N R X .ret Γ w:=CG.ret H
theorem sS (g:G w h):SS w h w h [] [] []:=SS.start g
end
theorem nR (n:Nat):n<=n:=eb n
theorem dQ {n:Int}(h0 : -9223372036854775808<=n)(h1:n<=9223372036854775807):IntKind.wrap .i64 n=n:=by rw[IntKind.wrap_i64];omega
def CB (P:Program)(ρ:Operand->Value)(o:Oper):Option (Value × Value × Nat) :=
  match o.op with
  | .indexAddr t x ix=>match P.underlying t with
    | some (.slice e)=>(P.info? e).map fun i=>(ρ x,ρ ix,i.size)
    | _=>none
  | _=>none
theorem gi {P:Program}{Γ:ck}{o:Oper}{A:Z9}{len cap sz:Nat}{i:Int}{k:Nat}(h:CB P (ev Γ) o=some (.slice A len cap,.int .i64 i,sz))(c:A=some ⟨aB A,aO A,none⟩)(b:i=k)(a:k<len)(w:World) :
    (execOp (ev Γ) o).run P w=.ok (.value (.pointer (some ⟨aB A,aO A+k*sz,none⟩))) w:=by
  unfold CB at h
  split at h
  . rename_i t x ix d
    split at h
    . rename_i e hu
      cases hi:P.info? e with
      | none=>rw[hi] at h;cases h
      | some inf =>
        rw[hi] at h
        simp only[pv,Option.some.injEq,Prod.mk.injEq] at h
        exact Es (P:=P) k d h.1 h.2.1 hu (by rw[hi];simp[h.2.2]) c b a w
    . cases h
  . cases h
def EV (P:Program)(ρ:Operand->Value)(o:Oper):Option (Value × Option Value × Option Value × Nat) :=
  match o.op with
  | .slice t x lo' hi' none=>match P.underlying t with
    | some (.slice e)=>(P.info? e).map fun i=>(ρ x,lo'.map ρ,hi'.map ρ,i.size)
    | _=>none
  | _=>none
theorem Fb {P:Program}{Γ:ck}{o:Oper}{A:Z9}{len cap sz:Nat}{i:Int}(k:Nat)(h:EV P (ev Γ) o=some (.slice A len cap,none,some (.int .i64 i),sz))(b:i=k)(a:k<=cap)(w:World) :
    (execOp (ev Γ) o).run P w=.ok (.value (.slice A k cap)) w:=by
  unfold EV at h
  split at h
  . rename_i t x l r d
    split at h
    . rename_i e hu
      cases hi:P.info? e with
      | none=>rw[hi] at h;cases h
      | some inf =>
        rw[hi] at h
        simp only[pv,Option.some.injEq,Prod.mk.injEq,y8,pt] at h
        obtain ⟨h1,rfl,⟨y,rfl,c⟩,f⟩:=h;exact HE (P:=P) k d h1 c hu (by rw[hi];rfl) b a w
    . cases h
  . cases h
theorem pJ {P:Program}{Γ:ck}{o:Oper}{A:Z9}{len cap sz:Nat}{i:Int}(k:Nat)(h:EV P (ev Γ) o=some (.slice A len cap,some (.int .i64 i),none,sz))(b:i=k)(a:k<=len)(w:World) :
    (execOp (ev Γ) o).run P w=.ok (.value (.slice (if cap=k then A else A.map (·.add (k*sz))) (len-k) (cap-k))) w:=by
  unfold EV at h
  split at h
  . rename_i t x l r f
    split at h
    . rename_i e hu
      cases hi:P.info? e with
      | none=>rw[hi] at h;cases h
      | some inf =>
        rw[hi] at h
        simp only[pv,Option.some.injEq,Prod.mk.injEq,y8,pt] at h
        obtain ⟨h1,⟨y,rfl,d⟩,rfl,c⟩:=h;exact Ej (P:=P) k f h1 d hu (by rw[hi];simp[c]) b a w
    . cases h
  . cases h
def mkE (P:Program)(ρ:Operand->Value)(o:Oper):Option (Value × Value × TypeId × Value × Nat × Nat) :=
  match o.op with
  | .makeSlice t x y=>match P.underlying t with
    | some (.slice e)=>match P.info? e with
      | some i=>i.zero.map fun z=>(ρ x,ρ y,e,z,i.size,i.bytes)
      | _=>none
    | _=>none
  | _=>none
theorem AT {P:Program}{Γ:ck}{o:Oper}{e:TypeId}{z:Value}{m sz i:Nat}{α:Type}{f:α->List Value}{j:α}(h:mkE P (ev Γ) o=some (.int .i64 (m:Int),.int .i64 (m:Int),e,z,sz,i))(b:z.cells.toList=f j)(d:z.cells.size=sz)(a:0<sz)(l:i*m<=140737488355328)(c:m<9223372036854775808)(w:World) :
    (execOp (ev Γ) o).run P w=.ok (.value (.slice (some ⟨w.heap.size,0,none⟩) m m)) (w.alloc (.cells ((um m j).flatMap f).toArray e (0,0))):=by
  unfold mkE at h
  split at h
  . rename_i t x y C
    split at h
    . rename_i D hu
      split at h
      . rename_i k hi
        simp only[pt,Prod.mk.injEq] at h
        obtain ⟨F,hz,h1,u,rfl,rfl,B,p⟩:=h;exact H6 (P:=P) C h1 u hu (by rw[hi];simp[hz,B,p]) b d a l c w
      . cases h
    . cases h
  . cases h
def Ae (P:Program)(ρ:Operand->Value)(o:Oper):Option (Value × Value × TypeId × Value × Nat × Nat) :=
  match o.op with
  | .call { callee:=.builtin .append,args:=⟨[x,y]⟩,argTypes:=⟨[t,u]⟩ }=>if t=u then match P.underlying t with
    | some (.slice e)=>match P.info? e with
      | some i=>i.zero.map fun z=>(ρ x,ρ y,e,z,i.size,i.bytes)
      | _=>none
    | _=>none else none
  | _=>none
theorem nK {P:Program}{ρ:Operand->Value}{o:Oper}{r:Value × Value × TypeId × Value × Nat × Nat}(h:Ae P ρ o=some r):∃ x y t,o.op=.call { callee:=.builtin .append,args:=#[x,y],argTypes:=#[t,t] }/\ρ x=r.1/\ρ y=r.2.1/\P.underlying t=some (.slice r.2.2.1)/\(P.info? r.2.2.1).map (fun i=>(i.zero,i.size,i.bytes))=some (some r.2.2.2.1,r.2.2.2.2.1,r.2.2.2.2.2):=by
  unfold Ae at h
  split at h
  . rename_i x y t u b
    split at h
    . rename_i a
      subst a
      split at h
      . rename_i e hu
        split at h
        . rename_i c hi
          simp only[pt] at h
          obtain ⟨z,hz,rfl⟩:=h;exact ⟨x,y,t,b,rfl,rfl,hu,by rw[hi];simp[hz]⟩
        . cases h
      . cases h
    . cases h
  . cases h
section listed
variable {P:Program}{n:Nat}{N R:Po}{X:Nat->Po}{ops:Array Oper}{k:Nat}{Γ:ck}{w:World}{h:Hp}{w0:World}{h0:Hp}{B:List Bx}{Rs:List Rw}{F:List (Hp->Prop)}
def cL (ops:Array Oper)(Γ:ck)(k t n:Nat):Bool:=gl ops Γ k && ((av ops k).dst == some t) && decide (t<n) && (bu ops Γ (av ops k) == some true)
def cS (ops:Array Oper)(Γ:ck)(k:Nat):Bool:=gl ops Γ k && ((av ops k).dst == none) && (bu ops Γ (av ops k) == some true)
theorem bS {t:Nat}(h:cL ops Γ k t n=true):(gl ops Γ k && ((av ops k).dst == some t) && decide (t<n))=true/\bu ops Γ (av ops k)=some true:=by
 unfold cL at h
 rw[hN] at h
 exact ⟨h.1,by simpa using h.2⟩
theorem kj (h:cS ops Γ k=true):(gl ops Γ k && ((av ops k).dst == none))=true/\bu ops Γ (av ops k)=some true:=by
 unfold cS at h
 rw[hN] at h
 exact ⟨h.1,by simpa using h.2⟩
theorem lV (t:Nat)(v:Value)(H:LG P n N R X ops (k+1) ((t,v)::Γ) w)(a:cL ops Γ k t n=true:=by kernel_rfl)(hr:(execOp (ev Γ) (av ops k)).run P w=.ok (.value v) w:=by kernel_rfl):LG P n N R X ops k Γ w :=
 LG.val t v w (bS a).1 (bS a).2 hr H
theorem lB (t:Nat){e b:Bool}(c:e=b)(H:LG P n N R X ops (k+1) ((t,.bool b)::Γ) w)(a:cL ops Γ k t n=true:=by kernel_rfl)(hr:(execOp (ev Γ) (av ops k)).run P w=.ok (.value (.bool e)) w:=by kernel_rfl):LG P n N R X ops k Γ w :=
 LG.val t _ w (bS a).1 (bS a).2 (c▸hr) H
theorem lI (t:Nat)(m:Int)(H:LG P n N R X ops (k+1) ((t,.int .i64 m)::Γ) w)(a:cL ops Γ k t n=true:=by kernel_rfl)(hr:(execOp (ev Γ) (av ops k)).run P w=.ok (.value (.int .i64 (IntKind.wrap .i64 m))) w:=by kernel_rfl)(h0 : -9223372036854775808<=m:=by omega)(h1:m<=9223372036854775807:=by omega):LG P n N R X ops k Γ w :=
 LG.val t _ w (bS a).1 (bS a).2 (by rw[dQ h0 h1] at hr;exact hr) H
theorem bg (t:Nat)(m:Int)(j:Nat)(H:LG P n N R X ops (k+1) ((t,.int .i64 (j:Int))::Γ) w)(a:cL ops Γ k t n=true:=by kernel_rfl)(hr:(execOp (ev Γ) (av ops k)).run P w=.ok (.value (.int .i64 (IntKind.wrap .i64 m))) w:=by kernel_rfl)(b:m=j:=by omega)(h1:m<=9223372036854775807:=by omega):LG P n N R X ops k Γ w :=
 LG.val t _ w (bS a).1 (bS a).2 (by rw[dQ oM h1,b] at hr;exact hr) H
theorem lO (t:Nat)(ps:List (Nat × Nat × Nat))(v:Value)(s:SS w0 h0 w h B Rs F)(H:LG P n N R X ops (k+1) ((t,v)::Γ) w)(a:cL ops Γ k t n=true:=by kernel_rfl)(b:bR B ps=true:=by kernel_rfl)(c:bP P (execOp (ev Γ) (av ops k)) (cf B ps)=some (.value v,bO B ps):=by kernel_rfl):LG P n N R X ops k Γ w :=
 LG.own t ps v s.st (bS a).1 (bS a).2 b c H
def GC (P:Program)(ops:Array Oper)(B:List Bx):ck->Nat->List (Nat × Value × List (Nat × Nat × Nat))->List (Option (Next × List Addr))
  | _,_,[]=>[]
  | Γ,k,x::l=>bP P (execOp (ev Γ) (av ops k)) (cf B x.2.2)::GC P ops B ((x.1,x.2.1)::Γ) (k+1) l
def F3 (n:Nat)(ops:Array Oper)(B:List Bx):ck->Nat->List (Nat × Value × List (Nat × Nat × Nat))->Bool
  | _,_,[]=>true
  | Γ,k,x::l=>cL ops Γ k x.1 n && bR B x.2.2 && F3 n ops B ((x.1,x.2.1)::Γ) (k+1) l
def rv (Γ:ck):List (Nat × Value × List (Nat × Nat × Nat))->ck
  | []=>Γ
  | x::l=>rv ((x.1,x.2.1)::Γ) l
theorem lS (s:SS w0 h0 w h B Rs F)(l:List (Nat × Value × List (Nat × Nat × Nat)))(H:LG P n N R X ops (k+l.length) (rv Γ l) w)(a:F3 n ops B Γ k l=true:=by kernel_rfl)(b:GC P ops B Γ k l=l.map (fun x=>some (.value x.2.1,bO B x.2.2)):=by kernel_rfl):LG P n N R X ops k Γ w:=by
  induction l generalizing Γ k with
  | nil=>exact H
  | cons x l ih =>
    unfold F3 at a
    simp only[hN] at a
    unfold GC at b
    rw[yh] at b
    injection b with e1 e2
    refine lO x.1 x.2.2 x.2.1 s (ih ?_ a.2 e2) a.1.1 a.1.2 e1;have:k+1+l.length=k+(x::l).length:=by simp;omega
    rw[this];exact H
inductive It where
  | c
  | v (x:Value)
  | o (x:Value) (j a n:Nat)
def nT (ops:Array Oper)(k:Nat):Nat:=(av ops k).dst.getD 0
def nX (ops:Array Oper)(k:Nat)(Γ:ck):Value:=match (av ops k).op with
  | .move x=>ev Γ x
  | .assign x=>ev Γ x
  | _=>.tuple #[]
def It.to (ops:Array Oper)(k:Nat)(Γ:ck):It->Nat × Value × List (Nat × Nat × Nat)
  | .c=>(nT ops k,nX ops k Γ,[])
  | .v x=>(nT ops k,x,[])
  | .o x j a n=>(nT ops k,x,[(j,a,n)])
def ux (ops:Array Oper):Nat->ck->List It->List (Nat × Value × List (Nat × Nat × Nat))
  | _,_,[]=>[]
  | k,Γ,x::l=>x.to ops k Γ::ux ops (k+1) (((x.to ops k Γ).1,(x.to ops k Γ).2.1)::Γ) l
theorem CA (ops:Array Oper)(k:Nat)(Γ:ck)(l:List It):(ux ops k Γ l).length=l.length:=by
 induction l generalizing k Γ with
 | nil=>rfl
 | cons x l ih=>show (ux _ _ _ l).length+1=_;rw[ih];rfl
abbrev ac:List It:=[.c]
abbrev aF:List It:=[.c,.c]
abbrev dx:List It:=[.c,.c,.c]
abbrev m4:List It:=[.c,.c,.c,.c]
abbrev m5:List It:=[.c,.c,.c,.c,.c]
abbrev m6:List It:=[.c,.c,.c,.c,.c,.c]
theorem lL (s:SS w0 h0 w h B Rs F)(l:List It)(H:LG P n N R X ops (k+l.length) (rv Γ (ux ops k Γ l)) w)(a:F3 n ops B Γ k (ux ops k Γ l)=true:=by kernel_rfl)(b:GC P ops B Γ k (ux ops k Γ l)=(ux ops k Γ l).map (fun x=>some (.value x.2.1,bO B x.2.2)):=by kernel_rfl):LG P n N R X ops k Γ w :=
 lS s (ux ops k Γ l) (by rw[CA];exact H) a b
theorem lP (j o:Nat)(cs:List Value)(s:SS w0 h0 w h B Rs F)(H:∀ w',SS w0 h0 w' h (fU B j o cs) Rs F->LG P n N R X ops (k+1) Γ w')(c:cS ops Γ k=true:=by kernel_rfl)
  (a:(decide (j<B.length) && decide (o+cs.length<=(aD B j).vs.length))=true:=by kernel_rfl)(e:dw P (execOp (ev Γ) (av ops k))=some (.skip,ml (aD B j).b o cs):=by kernel_rfl):LG P n N R X ops k Γ w :=
 LG.put j o cs s.st s.g0 (kj c).1 (kj c).2 a e (fun w' p d=>H w' (s.put0 (oT (hN _ _▸a).1) p d (kY (oT (hN _ _▸a).1))))
theorem lA (t:Nat)(ty:TypeId)(vs:List Value)(s:SS w0 h0 w h B Rs F)(H:∀ b w' a,SS w0 h0 w' a (⟨b,ty,vs⟩::B) Rs F->LG P n N R X ops (k+1) ((t,.pointer (some ⟨b,0,none⟩))::Γ) w')(c:cL ops Γ k t n=true:=by kernel_rfl)
  (hr:(execOp (ev Γ) (av ops k)).run P w=.ok (.value (.pointer (some ⟨w.heap.size,0,none⟩))) (w.alloc (.cells vs.toArray ty (0,0))):=by kernel_rfl):LG P n N R X ops k Γ w :=
 LG.var t ty vs s.st (bS c).1 (bS c).2 hr (fun b w' a e u d=>H b w' a (s.new u e d))
theorem lC (t:Nat){f:FuncId}{args:Array Value}{Φ:Value->Hp->Prop}(s:SS w0 h0 w h B Rs F)(c:Calls P f args w (Ret w h Φ))(H:∀ v w' a,SS w0 h0 w' a B Rs F->Φ v a->LG P n N R X ops (k+1) ((t,v)::Γ) w')(d:cL ops Γ k t n=true:=by kernel_rfl)(hr:(execOp (ev Γ) (av ops k)).run P w=.ok (.enter f args) w:=by kernel_rfl):LG P n N R X ops k Γ w :=
 LG.call t f args (bS d).1 (bS d).2 hr (c.mono fun e w' ⟨v,a,i,u,b⟩=>⟨v,i,H v w' a (s.step u) b⟩)
theorem ec (t:Nat){f:FuncId}{args:Array Value}{Φ:Value->Hp->Prop}(c:Calls P f args w (Ret w h Φ))(H:∀ v w' a,Up w h w' a->Φ v a->LG P n N R X ops (k+1) ((t,v)::Γ) w')(d:cL ops Γ k t n=true:=by kernel_rfl)(hr:(execOp (ev Γ) (av ops k)).run P w=.ok (.enter f args) w:=by kernel_rfl):LG P n N R X ops k Γ w :=
 LG.call t f args (bS d).1 (bS d).2 hr (c.mono fun e w' ⟨v,a,i,u,b⟩=>⟨v,i,H v w' a u b⟩)
theorem bn (t:Nat){f:FuncId}{args:Array Value}{rb:Nat}{Φ:Value->World->Hp->Prop}(c:Calls P f args w (bV rb w h Φ))(H:∀ v w' a,UpM [rb] w h w' a->Φ v w' a->LG P n N R X ops (k+1) ((t,v)::Γ) w')(d:cL ops Γ k t n=true:=by kernel_rfl)(hr:(execOp (ev Γ) (av ops k)).run P w=.ok (.enter f args) w:=by kernel_rfl):LG P n N R X ops k Γ w :=
 LG.call t f args (bS d).1 (bS d).2 hr (c.mono fun e w' ⟨v,a,i,u,b⟩=>⟨v,i,H v w' a u b⟩)
theorem lH (t:Nat)(v:Value){b o:Nat}{cs:List Value}(s:SS w0 h0 w h B Rs F)(d:Seg h b o cs)(H:LG P n N R X ops (k+1) ((t,v)::Γ) w)(a:cL ops Γ k t n=true:=by kernel_rfl)(c:bP P (execOp (ev Γ) (av ops k)) cs=some (.value v,kA b o cs.length):=by kernel_rfl):LG P n N R X ops k Γ w :=
 LG.val t v w (bS a).1 (bS a).2 (Seg.run d s.g (Ext.refl _) c) H
theorem II (t:Nat)(v:Value){u:Value}{b o:Nat}{cs:List Value}(s:SS w0 h0 w h B Rs F)(d:Seg h b o cs)(e:v=u)(H:LG P n N R X ops (k+1) ((t,u)::Γ) w)(a:cL ops Γ k t n=true:=by kernel_rfl)(c:bP P (execOp (ev Γ) (av ops k)) cs=some (.value v,kA b o cs.length):=by kernel_rfl):LG P n N R X ops k Γ w :=
 LG.val t u w (bS a).1 (bS a).2 (e▸Seg.run d s.g (Ext.refl _) c) H
theorem lX (t:Nat)(A:Z9)(len cap sz:Nat)(i:Int)(j:Nat)(c:A=some ⟨aB A,aO A,none⟩)(H:LG P n N R X ops (k+1) ((t,.pointer (some ⟨aB A,aO A+j*sz,none⟩))::Γ) w)(b:cL ops Γ k t n=true:=by kernel_rfl)(e:CB P (ev Γ) (av ops k)=some (.slice A len cap,.int .i64 i,sz):=by kernel_rfl)(d:i=j:=by omega)(a:j<len:=by omega):LG P n N R X ops k Γ w :=
 LG.val t _ w (bS b).1 (bS b).2 (gi e c d a w) H
theorem lT (t:Nat)(A:Z9)(len cap sz:Nat)(i:Int)(j:Nat)(H:LG P n N R X ops (k+1) ((t,.slice A j cap)::Γ) w)(b:cL ops Γ k t n=true:=by kernel_rfl)(d:EV P (ev Γ) (av ops k)=some (.slice A len cap,none,some (.int .i64 i),sz):=by kernel_rfl)(c:i=j:=by omega)(a:j<=cap:=by omega):LG P n N R X ops k Γ w :=
 LG.val t _ w (bS b).1 (bS b).2 (Fb j d c a w) H
theorem lF (t:Nat)(A:Z9)(len cap sz:Nat)(i:Int)(j:Nat)(H:LG P n N R X ops (k+1) ((t,.slice (if cap=j then A else A.map (·.add (j*sz))) (len-j) (cap-j))::Γ) w)(b:cL ops Γ k t n=true:=by kernel_rfl)(d:EV P (ev Γ) (av ops k)=some (.slice A len cap,some (.int .i64 i),none,sz):=by kernel_rfl)(c:i=j:=by omega)(a:j<=len:=by omega):LG P n N R X ops k Γ w :=
 LG.val t _ w (bS b).1 (bS b).2 (pJ j d c a w) H
theorem lR (t:Nat)(ty:TypeId)(m:Nat)(cs:List Value)(s:SS w0 h0 w h B Rs F)(H:∀ b w' a,SS w0 h0 w' a B Rs ((fun h=>Seg h b 0 cs)::F)->LG P n N R X ops (k+1) ((t,.slice (some ⟨b,0,none⟩) m m)::Γ) w')(c:cL ops Γ k t n=true:=by kernel_rfl)
  (hr:(execOp (ev Γ) (av ops k)).run P w=.ok (.value (.slice (some ⟨w.heap.size,0,none⟩) m m)) (w.alloc (.cells cs.toArray ty (0,0))):=by kernel_rfl):LG P n N R X ops k Γ w :=
 LG.row t ty m cs s.g (bS c).1 (bS c).2 hr (fun b w' a u d=>H b w' a ((s.step u).a_Seg d))
theorem lK {α:Type}(t:Nat)(ty:TypeId)(m sz l:Nat)(z:Value)(f:α->List Value)(o:α)(s:SS w0 h0 w h B Rs F)(H:∀ b w' c,SS w0 h0 w' c (⟨b,ty,(um m o).flatMap f⟩::B) Rs F->LG P n N R X ops (k+1) ((t,.slice (some ⟨b,0,none⟩) m m)::Γ) w')(j:cL ops Γ k t n=true:=by kernel_rfl)
  (y:mkE P (ev Γ) (av ops k)=some (.int .i64 (m:Int),.int .i64 (m:Int),ty,z,sz,l):=by kernel_rfl)(i:z.cells.toList=f o:=by kernel_rfl)(e:z.cells.size=sz:=by kernel_rfl)(a:0<sz:=by decide)(p:l*m<=140737488355328:=by omega)(d:m<9223372036854775808:=by omega):LG P n N R X ops k Γ w :=
 LG.arr t ty m _ s.st (bS j).1 (bS j).2 (AT y i e a p d w) (fun b w' c x u C=>H b w' c (s.new u x C))
theorem lQ {α:Type}(t j:Nat)(l:List α)(f:α->List Value)(sz:Nat)(d:α)(e:Nat)(v:Value)(s:SS w0 h0 w h B Rs F)(i:e<l.length)(H:LG P n N R X ops (k+1) ((t,v)::Γ) w)(a:cL ops Γ k t n=true:=by kernel_rfl)
  (c:decide (j<B.length)=true:=by kernel_rfl)(hB:(aD B j).vs=l.flatMap f:=by kernel_rfl)(hf:∀ x,(f x).length=sz:=by intro _;rfl)
  (o:bP P (execOp (ev Γ) (av ops k)) (f (l.getD e d))=some (.value v,kA (aD B j).b (0+e*sz) (f (l.getD e d)).length):=by kernel_rfl):LG P n N R X ops k Γ w :=
 LG.ownA t j l f sz d e v s.st (bS a).1 (bS a).2 c hB hf i o H
theorem lW {α:Type}(j:Nat)(l:List α)(f:α->List Value)(sz e:Nat)(x:α)(s:SS w0 h0 w h B Rs F)(i:e<l.length)(H:∀ w',SS w0 h0 w' h (gG B j ((l.set e x).flatMap f)) Rs F->LG P n N R X ops (k+1) Γ w')(c:cS ops Γ k=true:=by kernel_rfl)
  (a:decide (j<B.length)=true:=by kernel_rfl)(hB:(aD B j).vs=l.flatMap f:=by kernel_rfl)(hf:∀ x,(f x).length=sz:=by intro _;rfl)
  (o:dw P (execOp (ev Γ) (av ops k))=some (.skip,ml (aD B j).b (0+e*sz) (f x)):=by kernel_rfl):LG P n N R X ops k Γ w :=
 LG.putA j l f sz e x s.st s.g0 (kj c).1 (kj c).2 a hB hf i o (fun w' p d=>H w' (s.put0 (oT a) p d (jy (oT a))))
theorem gB {R:List Rw}{j:Nat}{r:Rw}(hr:R.getD j default=r)(a:j<R.length):R[j]=r:=by rw[<-hr];simp[a]
theorem Ie (t j:Nat){ty:TypeId}{sz c m:Nat}{A:Z9}{cs:List Value}{J m2 c2:Nat}{z:Value}{a:Addr}(news:List Value)(s:SS w0 h0 w h B Rs F)(b:∀ i u,news[i]?=some u->w.cell? (a.add i)=some u)(Y:news.length=m2*sz)(h1:∀ u∈news,u.oneCell'=true)(D:j<Rs.length)(hr:Rs[j]=⟨ty,sz,A,c,m,cs⟩)
  (C:cL ops Γ k t n=true)(O:Ae P (ev Γ) (av ops k)=some (.slice A m c,.slice (some a) m2 c2,ty,z,sz,J))(p:z.cells.size=sz)(d:0<sz)(Z:m+m2<=1099511627776)(M:(m+m2)*J<=140737488355328)
  (H:∀ l c' w' o,SS w0 h0 w' o B (Rs.set j ⟨ty,sz,l,c',m+m2,cs++news⟩) F->LG P n N R X ops (k+1) ((t,.slice l (m+m2) c')::Γ) w'):LG P n N R X ops k Γ w:=by
 obtain ⟨x,y,K,V,U,L,hu,hi⟩:=nK O;have r:=s.ro _ (e5 D);rw[hr] at r
 obtain ⟨v',w',e,W,Q,f⟩:=rx (P:=P) V U L hu hi p d s.st r Y b h1 Z M;have I:=s.grown (j:=j) D (w':=w') (v':=v') (m2:=m2) (news:=news) (by rw[hr];exact W) (by rw[hr];exact Q) (by rw[hr];exact f);rw[hr] at I
 obtain ⟨o,l,c',rfl,_,S⟩:=I;exact LG.val t _ w' (bS C).1 (bS C).2 e (H l c' w' o S)
theorem pV {α:Type}{f:α->List Value}{l:List α}{x:α}:l.flatMap f++f x=(l++[x]).flatMap f:=by simp
theorem lY {α:Type}(t j:Nat)(ty:TypeId)(sz c:Nat)(A:Z9)(l:List α)(f:α->List Value)(x:α)(C b:Nat)(z:Value)(s:SS w0 h0 w h B Rs F)(L:Seg h b 0 (f x))
  (H:∀ e c' w' i,SS w0 h0 w' i B (Rs.set j ⟨ty,sz,e,c',(l++[x]).length,(l++[x]).flatMap f⟩) F->LG P n N R X ops (k+1) ((t,.slice e (l++[x]).length c')::Γ) w')
  (D:cL ops Γ k t n=true:=by kernel_rfl)(K:Ae P (ev Γ) (av ops k)=some (.slice A l.length c,.slice (some ⟨b,0,none⟩) 1 1,ty,z,sz,C):=by kernel_rfl)(o:z.cells.size=sz:=by kernel_rfl)(a:0<sz:=by decide)
  (hr:Rs.getD j default=⟨ty,sz,A,c,l.length,l.flatMap f⟩:=by kernel_rfl)(I:decide (j<Rs.length)=true:=by kernel_rfl)(h1:(f x).all (·.oneCell')=true:=by kernel_rfl)(M:(f x).length=1*sz:=by kernel_rfl)(O:l.length+1<=1099511627776:=by omega)(J:(l.length+1)*C<=140737488355328:=by omega):LG P n N R X ops k Γ w:=by
 have d:=oT I;refine Ie t j (f x) s (ma s.g L) M (fun u hu=>(i3.1 h1) u hu) d (gB hr d) D K o a O J (fun e c' w' i y=>?_);have p:l.length+1=(l++[x]).length:=by simp
 rw[pV,p] at y
 rw[p];exact H e c' w' i y
end listed
section code
variable {P:Program}{n:Nat}{N R:Po}{X:Nat->Po}{Γ:ck}{w:World}
theorem aG {id:Nat}{ops:Array Oper}{y:Code}(H:LG P n (fun a w=>y.wp P (iQ N R X) a w) R X ops 0 Γ w):CG P n N R X (.seq (.region id ops false) y) Γ w:=CG.seq (CG.listed H)
theorem ci {c:Operand}{x y:Code}(b:CG P n N R X x Γ w)(a:gM Γ c=true:=by kernel_rfl)(hv:ev Γ c=.bool true:=by kernel_rfl):CG P n N R X (.cond c x y) Γ w:=CG.condT a hv b
theorem cV {c:Operand}{x y:Code}(b:CG P n N R X y Γ w)(a:gM Γ c=true:=by kernel_rfl)(hv:ev Γ c=.bool false:=by kernel_rfl):CG P n N R X (.cond c x y) Γ w:=CG.condF a hv b
theorem bG {c:Code}(Γ':ck)(H:CG P n N R X c Γ' w)(a:jc Γ (Γ'.map (·.1))=Γ':=by kernel_rfl)(b:iC Γ'=iC Γ:=by kernel_rfl):CG P n N R X c Γ w:=CG.to Γ' a b H
theorem lN {ops:Array Oper}{k:Nat}{y:Code}{N' R':Po}{X':Nat->Po}(H:CG P n N' R' X' y Γ w)(b:(k == ops.size)=true:=by kernel_rfl):LG P n (fun a w=>y.wp P (iQ N' R' X') a w) R X ops k Γ w:=LG.next b H
theorem aE {ops:Array Oper}{k:Nat}{id:Nat}{b:Array Oper}{y:Code}{N' R':Po}{X':Nat->Po}(H:LG P n (fun a w=>y.wp P (iQ N' R' X') a w) R' X' b 0 Γ w)(c:(k == ops.size)=true:=by kernel_rfl):LG P n (fun a w=>(Code.seq (.region id b false) y).wp P (iQ N' R' X') a w) R X ops k Γ w:=lN (aG H) c
theorem lD {ops:Array Oper}{k:Nat}(H:∀ a,Kn n a Γ->N a w)(b:(k == ops.size)=true:=by kernel_rfl):LG P n N R X ops k Γ w:=LG.done b H
theorem lG {ops:Array Oper}{k:Nat}(t:Nat)(H:LG P n N R X ops (k+1) ((t,undef)::Γ) w)(a:(decide (k<ops.size) && ((av ops k).dst == some t) && decide (t<n))=true:=by kernel_rfl)(b:bu ops Γ (av ops k)=some false:=by kernel_rfl):LG P n N R X ops k Γ w:=LG.out t a b H
theorem SS.ret {b:Func}{Φ:Value->Hp->Prop}{w0:World}{h0:Hp}{h:Hp}{B:List Bx}{Rs:List Rw}{F:List (Hp->Prop)}(s:SS w0 h0 w h B Rs F)(ps:List (Nat × Nat × Nat))(v:Value)(c:Φ v h)(d:(lE b Γ && bR B ps)=true:=by kernel_rfl)(e:bP P (me b Γ) (cf B ps)=some (v,bO B ps):=by kernel_rfl):∀ a,Kn n a Γ->li P b (Ret w0 h0 Φ) a w:=In s.st ps v d e c
theorem SS.retM {b:Func}{rb:Nat}{Φ:Value->World->Hp->Prop}{w0 wz:World}{h0 hz:Hp}{h:Hp}{B:List Bx}{Rs:List Rw}{F:List (Hp->Prop)}(s:SS wz hz w h B Rs F)(d:UpM [rb] w0 h0 w h)(ps:List (Nat × Nat × Nat))(v:Value)(c:Φ v w h)(e:(lE b Γ && bR B ps)=true:=by kernel_rfl)(f:bP P (me b Γ) (cf B ps)=some (v,bO B ps):=by kernel_rfl):∀ a,Kn n a Γ->li P b (bV rb w0 h0 Φ) a w:=Go.Proofs.YtbbhdbhkaacnnaaGreatDoor.retM s.st d ps v e f c
theorem go {f:FuncId}{a:Func}{c:Code}{args:Array Value}{b:Ending->World->Prop}(hf:P.funcs[f]?=some a)(Γ0:ck)(i:a.body=some c)(H:CG P a.ntmps (li P a b) (li P a b) (fun _ _ _=>False) c Γ0 w)(h:Nat.ble args.size a.ntmps=true:=by kernel_rfl)(d:Γ0=envOf args.toList:=by kernel_rfl)(e:Nat.ble a.ntmps 1000000=true:=by kernel_rfl):Calls P f args w b :=
 enter hf i rfl (y9 h) (y9 e) Γ0 d H
end code
section
variable {P:Program}{n:Nat}{N R N' R' R2:Po}{X X' X2:Nat->Po}{Γ:ck}{w w0:World}{h h0:Hp}{B:List Bx}{Rs:List Rw}{F:List (Hp->Prop)}{ops:Array Oper}{k:Nat}
theorem aq (t:Nat){f:FuncId}{args:Array Value}{x:Value}(s:SS w0 h0 w h B Rs F)(c:Calls P f args w (Ret w h fun v _=>v=x))(H:∀ w1 h1,SS w0 h0 w1 h1 B Rs F->LG P n N R X ops (k+1) ((t,x)::Γ) w1)(a:cL ops Γ k t n=true:=by kernel_rfl)(hr:(execOp (ev Γ) (av ops k)).run P w=.ok (.enter f args) w:=by kernel_rfl):LG P n N R X ops k Γ w:=lC t s c (fun v w1 h1 b e=>by subst e;exact H w1 h1 b) a hr
theorem aa {id:Nat}{y:Code}(s:SS w0 h0 w h B Rs F)(l:List It)(H:LG P n (fun a w=>y.wp P (iQ N R X) a w) R X ops (0+l.length) (rv Γ (ux ops 0 Γ l)) w)(b:F3 n ops B Γ 0 (ux ops 0 Γ l)=true:=by kernel_rfl)(c:GC P ops B Γ 0 (ux ops 0 Γ l)=(ux ops 0 Γ l).map (fun x=>some (.value x.2.1,bO B x.2.2)):=by kernel_rfl):CG P n N R X (.seq (.region id ops false) y) Γ w:=aG (lL s l H b c)
theorem ai {x y:Code}(H:CG P n (fun a w=>y.wp P (iQ N' R' X') a w) R' X' x Γ w)(b:(k==ops.size)=true:=by kernel_rfl):LG P n (fun a w=>(Code.seq x y).wp P (iQ N' R' X') a w) R X ops k Γ w:=lN (CG.seq H) b
theorem bx {id:Nat}{c:Code}(H:CG P n N' R' (fun i=>if i=id then N' else X' i) c Γ w)(b:(k==ops.size)=true:=by kernel_rfl):LG P n (fun a w=>(Code.block id c).wp P (iQ N' R' X') a w) R X ops k Γ w:=lN (CG.block H) b
theorem ah {c:Operand}{x y:Code}(H:CG P n N' R' X' y Γ w)(b:(k==ops.size)=true:=by kernel_rfl)(hi:gM Γ c=true:=by kernel_rfl)(hv:ev Γ c=.bool false:=by kernel_rfl):LG P n (fun a w=>(Code.cond c x y).wp P (iQ N' R' X') a w) R X ops k Γ w:=lN (cV H hi hv) b
theorem ak {c:Operand}{x y:Code}(H:CG P n N' R' X' x Γ w)(b:(k==ops.size)=true:=by kernel_rfl)(hi:gM Γ c=true:=by kernel_rfl)(hv:ev Γ c=.bool true:=by kernel_rfl):LG P n (fun a w=>(Code.cond c x y).wp P (iQ N' R' X') a w) R X ops k Γ w:=lN (ci H hi hv) b
theorem af {b:Func}{Φ:Value->Hp->Prop}(s:SS w0 h0 w h B Rs F)(ps:List (Nat×Nat×Nat))(v:Value)(c:Φ v h)(d:(k==ops.size)=true:=by kernel_rfl)(e:(lE b Γ&&bR B ps)=true:=by kernel_rfl)(f:bP P (me b Γ) (cf B ps)=some (v,bO B ps):=by kernel_rfl):LG P n (fun a w=>Code.ret.wp P (iQ N' (li P b (Ret w0 h0 Φ)) X') a w) R X ops k Γ w:=lN (CG.ret (s.ret ps v c e f)) d
end
section drawn
variable {M:Ms}{P:Program}{n:Nat}{N R:Po}{X:Nat->Po}{ops:Array Oper}{k0:Nat}{hr:Hp}{AL:List Al}{L:Array Bool}{Γ:ck}{w:World}{h:Hp}{w0:World}{h0:Hp}{B:List Bx}{Rs:List Rw}{F:List (Hp->Prop)}
def cE (n:Nat)(ops:Array Oper)(k0:Nat)(AL:List Al)(L:Array Bool)(Γ:ck)(i t:Nat):Bool:=dl n ops k0 AL L i t && ba Γ (av ops i) && (bu ops Γ (av ops i) == some true)
def Ap (n:Nat)(ops:Array Oper)(k0:Nat)(AL:List Al)(L:Array Bool)(Γ:ck)(i t:Nat):Bool:=dl n ops k0 AL L i t && ba Γ (av ops i) && ii ops k0 i && (bu ops Γ (av ops i) == some true)
def Av (n:Nat)(ops:Array Oper)(k0:Nat)(AL:List Al)(L:Array Bool)(Γ:ck)(i t:Nat):Bool:=kI n ops k0 AL L i t && ba Γ (av ops i) && (bu ops Γ (av ops i) == some true)
theorem jY {i t:Nat}(h:cE n ops k0 AL L Γ i t=true):(dl n ops k0 AL L i t && ba Γ (av ops i))=true/\bu ops Γ (av ops i)=some true:=by
 unfold cE at h;rw[hN] at h;exact ⟨h.1,by simpa using h.2⟩
theorem gy {i t:Nat}(h:Ap n ops k0 AL L Γ i t=true):(dl n ops k0 AL L i t && ba Γ (av ops i) && ii ops k0 i)=true/\bu ops Γ (av ops i)=some true:=by
 unfold Ap at h;rw[hN] at h;exact ⟨h.1,by simpa using h.2⟩
theorem fw {i t:Nat}(h:Av n ops k0 AL L Γ i t=true):(kI n ops k0 AL L i t && ba Γ (av ops i))=true/\bu ops Γ (av ops i)=some true:=by
 unfold Av at h;rw[hN] at h;exact ⟨h.1,by simpa using h.2⟩
theorem eV (i t:Nat)(v:Value)(H:EG M P n N R X ops k0 hr AL (L.setIfInBounds i true) ((t,v)::Γ) w h)(a:cE n ops k0 AL L Γ i t=true:=by kernel_rfl)(hv:∀ w,(execOp (ev Γ) (av ops i)).run P w=.ok (.value v) w:=by intro _;kernel_rfl):EG M P n N R X ops k0 hr AL L Γ w h :=
 Rg.pure i t v (jY a).1 (jY a).2 hv H
theorem eB (i t:Nat){e b:Bool}(c:e=b)(H:EG M P n N R X ops k0 hr AL (L.setIfInBounds i true) ((t,.bool b)::Γ) w h)(a:cE n ops k0 AL L Γ i t=true:=by kernel_rfl)(hv:∀ w,(execOp (ev Γ) (av ops i)).run P w=.ok (.value (.bool e)) w:=by intro _;kernel_rfl):EG M P n N R X ops k0 hr AL L Γ w h :=
 Rg.pure i t _ (jY a).1 (jY a).2 (fun w=>c▸hv w) H
theorem eI (i t:Nat)(m:Int)(H:EG M P n N R X ops k0 hr AL (L.setIfInBounds i true) ((t,.int .i64 m)::Γ) w h)(a:cE n ops k0 AL L Γ i t=true:=by kernel_rfl)(hv:∀ w,(execOp (ev Γ) (av ops i)).run P w=.ok (.value (.int .i64 (IntKind.wrap .i64 m))) w:=by intro _;kernel_rfl)(h0 : -9223372036854775808<=m:=by omega)(h1:m<=9223372036854775807:=by omega):EG M P n N R X ops k0 hr AL L Γ w h :=
 Rg.pure i t _ (jY a).1 (jY a).2 (fun w=>by have:=hv w;rw[dQ h0 h1] at this;exact this) H
theorem iR (i t:Nat)(m:Int)(j:Nat)(H:EG M P n N R X ops k0 hr AL (L.setIfInBounds i true) ((t,.int .i64 (j:Int))::Γ) w h)(a:cE n ops k0 AL L Γ i t=true:=by kernel_rfl)(hv:∀ w,(execOp (ev Γ) (av ops i)).run P w=.ok (.value (.int .i64 (IntKind.wrap .i64 m))) w:=by intro _;kernel_rfl)(b:m=j:=by omega)(h1:m<=9223372036854775807:=by omega):EG M P n N R X ops k0 hr AL L Γ w h :=
 Rg.pure i t _ (jY a).1 (jY a).2 (fun w=>by have:=hv w;rw[dQ oM h1,b] at this;exact this) H
theorem eG (i t:Nat)(H:EG M P n N R X ops k0 hr AL (L.setIfInBounds i true) ((t,undef)::Γ) w h)(a:dl n ops k0 AL L i t=true:=by kernel_rfl)(b:bu ops Γ (av ops i)=some false:=by kernel_rfl):EG M P n N R X ops k0 hr AL L Γ w h:=Rg.skip i t a b H
theorem eO (i t:Nat)(ps:List (Nat × Nat × Nat))(v:Value)(s:SS w0 h0 w h B Rs F)(H:EG M P n N R X ops k0 hr AL (L.setIfInBounds i true) ((t,v)::Γ) w h)(hM:∀ p∈ps,(aD B p.1).b ∉ M.l:=by intro _ _;exact List.not_mem_nil)(a:Ap n ops k0 AL L Γ i t=true:=by kernel_rfl)(c:bR B ps=true:=by kernel_rfl)(d:bP P (execOp (ev Γ) (av ops i)) (cf B ps)=some (.value v,bO B ps):=by kernel_rfl):EG M P n N R X ops k0 hr AL L Γ w h :=
 Rg.own i t ps v s.st (gy a).1 (gy a).2 hM c d H
theorem eH (i t:Nat)(v:Value){b o:Nat}{cs:List Value}(s:SS w0 h0 w h B Rs F)(e:Seg h b o cs)(H:EG M P n N R X ops k0 hr AL (L.setIfInBounds i true) ((t,v)::Γ) w h)(hM:∀ b∈M.l,h[b]?=some junk:=by intro _ hb;cases hb)(a:Ap n ops k0 AL L Γ i t=true:=by kernel_rfl)(d:bP P (execOp (ev Γ) (av ops i)) cs=some (.value v,kA b o cs.length):=by kernel_rfl):EG M P n N R X ops k0 hr AL L Γ w h :=
 Rg.load i t v (gy a).1 (gy a).2 (fun _ c=>Seg.runM e s.g hM c d) H
theorem IP (i t:Nat)(v:Value){u:Value}{b o:Nat}{cs:List Value}(s:SS w0 h0 w h B Rs F)(f:Seg h b o cs)(e:v=u)(H:EG M P n N R X ops k0 hr AL (L.setIfInBounds i true) ((t,u)::Γ) w h)(hM:∀ b∈M.l,h[b]?=some junk:=by intro _ hb;cases hb)(a:Ap n ops k0 AL L Γ i t=true:=by kernel_rfl)(d:bP P (execOp (ev Γ) (av ops i)) cs=some (.value v,kA b o cs.length):=by kernel_rfl):EG M P n N R X ops k0 hr AL L Γ w h :=
 Rg.load i t u (gy a).1 (gy a).2 (fun _ c=>e▸Seg.runM f s.g hM c d) H
theorem eX (i t:Nat)(A:Z9)(len cap sz:Nat)(x:Int)(j:Nat)(c:A=some ⟨aB A,aO A,none⟩)(H:EG M P n N R X ops k0 hr AL (L.setIfInBounds i true) ((t,.pointer (some ⟨aB A,aO A+j*sz,none⟩))::Γ) w h)(b:cE n ops k0 AL L Γ i t=true:=by kernel_rfl)(e:CB P (ev Γ) (av ops i)=some (.slice A len cap,.int .i64 x,sz):=by kernel_rfl)(d:x=j:=by omega)(a:j<len:=by omega):EG M P n N R X ops k0 hr AL L Γ w h :=
 Rg.pure i t _ (jY b).1 (jY b).2 (gi e c d a) H
theorem eQ {α:Type}(i t j:Nat)(l:List α)(f:α->List Value)(sz:Nat)(d:α)(e:Nat)(v:Value)(s:SS w0 h0 w h B Rs F)(c:e<l.length)(H:EG M P n N R X ops k0 hr AL (L.setIfInBounds i true) ((t,v)::Γ) w h)(hM:(aD B j).b ∉ M.l:=by exact List.not_mem_nil)(a:Ap n ops k0 AL L Γ i t=true:=by kernel_rfl)
  (k:decide (j<B.length)=true:=by kernel_rfl)(hB:(aD B j).vs=l.flatMap f:=by kernel_rfl)(hf:∀ x,(f x).length=sz:=by intro _;rfl)
  (o:bP P (execOp (ev Γ) (av ops i)) (f (l.getD e d))=some (.value v,kA (aD B j).b (0+e*sz) (f (l.getD e d)).length):=by kernel_rfl):EG M P n N R X ops k0 hr AL L Γ w h :=
 Rg.ownA i t j l f sz d e v s.st (gy a).1 (gy a).2 hM k hB hf c o H
theorem eC (i t:Nat){f:FuncId}{args:Array Value}{Φ:World->Hp->Value->Hp->Prop}(s:SS w0 h0 w h B Rs F)(c:∀ w1 h1,SS w0 h0 w1 h1 B Rs F->Calls P f args w1 (Ret w1 h1 (Φ w1 h1)))(H:∀ w1 h1 v w' a,SS w0 h0 w' a B Rs F->Φ w1 h1 v a->EG M P n N R X ops k0 hr AL (L.setIfInBounds i true) ((t,v)::Γ) w' a)(d:Av n ops k0 AL L Γ i t=true:=by kernel_rfl)(hv:∀ w,(execOp (ev Γ) (av ops i)).run P w=.ok (.enter f args) w:=by intro _;kernel_rfl):EG M P n N R X ops k0 hr AL L Γ w h :=
 Rg.call i t f args (fw d).1 (fw d).2 hv (fun w1 h1 u=>(c w1 h1 (s.step u)).mono fun e w' ⟨v,a,k,j,b⟩=>⟨v,a,k,j.m M.l,H w1 h1 v w' a ((s.step u).step j) b⟩)
theorem eR (i t:Nat)(ty:TypeId)(m:Nat)(cs:List Value)(s:SS w0 h0 w h B Rs F)(H:∀ b w' a,SS w0 h0 w' a B Rs ((fun h=>Seg h b 0 cs)::F)->EG M P n N R X ops k0 hr AL (L.setIfInBounds i true) ((t,.slice (some ⟨b,0,none⟩) m m)::Γ) w' a)(c:Av n ops k0 AL L Γ i t=true:=by kernel_rfl)
  (hv:∀ w,(execOp (ev Γ) (av ops i)).run P w=.ok (.value (.slice (some ⟨w.heap.size,0,none⟩) m m)) (w.alloc (.cells cs.toArray ty (0,0))):=by intro _;kernel_rfl):EG M P n N R X ops k0 hr AL L Γ w h :=
 Rg.row i t ty m cs (fw c).1 (fw c).2 hv (fun b w' a u d=>H b w' a ((s.step u).a_Seg d))
theorem eY {α:Type}(i t j:Nat)(ty:TypeId)(sz c:Nat)(A:Z9)(l:List α)(f:α->List Value)(x:α)(Y b:Nat)(z:Value)(s:SS w0 h0 w h B Rs F)(sg:∀ h,AllF F h->Seg h b 0 (f x))(Q:∀ b,(Value.slice A l.length c).ownBlock=some b->b∈M.l)
  (H:∀ K c' w' C,SS w0 h0 w' C B (Rs.set j ⟨ty,sz,K,c',(l++[x]).length,(l++[x]).flatMap f⟩) F->EG M P n N R X ops k0 hr AL (L.setIfInBounds i true) ((t,.slice K (l++[x]).length c')::Γ) w' C)
  (J:Av n ops k0 AL L Γ i t=true:=by kernel_rfl)(he:Ae P (ev Γ) (av ops i)=some (.slice A l.length c,.slice (some ⟨b,0,none⟩) 1 1,ty,z,sz,Y):=by kernel_rfl)(U:z.cells.size=sz:=by kernel_rfl)(o:0<sz:=by decide)
  (S:Rs.getD j default=⟨ty,sz,A,c,l.length,l.flatMap f⟩:=by kernel_rfl)(hj:decide (j<Rs.length)=true:=by kernel_rfl)(h1:(f x).all (·.oneCell')=true:=by kernel_rfl)(hl:(f x).length=1*sz:=by kernel_rfl)(hm:l.length+1<=1099511627776:=by omega)(hb:(l.length+1)*Y<=140737488355328:=by omega):EG M P n N R X ops k0 hr AL L Γ w h:=by
 have d:=oT hj;refine Rg.event i t (fw J).1 (fw J).2 (fun w1 Z u=>?_);have I:=s.step u;obtain ⟨x',y,ty',ho,hx,hy,hu,hi⟩:=nK he;have r:=I.ro _ (e5 d);have p:=gB S d;rw[p] at r
 obtain ⟨v',w',a,ow,k,D⟩:=rx (P:=P) ho hx hy hu hi U o I.st r hl (ma I.g (sg _ I.f)) (fun u hu=>(i3.1 h1) u hu) hm hb;have W:=I.grown (j:=j) d (w':=w') (v':=v') (m2:=1) (news:=f x) (by rw[p];exact ow) (by rw[p];exact k) (by rw[p];exact D);rw[p] at W
 obtain ⟨C,K,c',rfl,e2,O⟩:=W;have V:l.length+1=(l++[x]).length:=by simp
 simp only[] at O
 rw[pV,V] at O
 rw[V] at a
 exact .inl ⟨_,w',C,a,⟨⟨k.os,k.tape,k.output,k.size,fun c J hn=>k.block c J (fun e=>hn (Q c e.symm))⟩,e2,O.g⟩,H K c' w' C O⟩
theorem cG (s:SS w0 h0 w h B Rs F)(H:∀ w' a,SS w0 h0 w' a B Rs F->AG M P n N R X ops k0 L Γ w')(b:fq ops [] L=true:=by kernel_rfl):EG M P n N R X ops k0 hr [] L Γ w h:=Rg.fin0 b (fun w' a u=>H w' a (s.step u))
def cT (n:Nat)(ops:Array Oper)(k0:Nat)(L:Array Bool)(Γ:ck)(i t:Nat):Bool:=gY ops k0 L i && ba Γ (av ops i) && ((av ops i).dst == some t) && decide (t<n) && (bu ops Γ (av ops i) == some true)
def FI (ops:Array Oper)(k0:Nat)(L:Array Bool)(Γ:ck)(i:Nat):Bool:=gY ops k0 L i && ba Γ (av ops i) && ((av ops i).dst == none) && (bu ops Γ (av ops i) == some true)
theorem oH {i t:Nat}(h:cT n ops k0 L Γ i t=true):(gY ops k0 L i && ba Γ (av ops i) && ((av ops i).dst == some t) && decide (t<n))=true/\bu ops Γ (av ops i)=some true:=by
 unfold cT at h;rw[hN] at h;exact ⟨h.1,by simpa using h.2⟩
theorem j4 {i:Nat}(h:FI ops k0 L Γ i=true):(gY ops k0 L i && ba Γ (av ops i) && ((av ops i).dst == none))=true/\bu ops Γ (av ops i)=some true:=by
 unfold FI at h;rw[hN] at h;exact ⟨h.1,by simpa using h.2⟩
theorem tV (i t:Nat)(v:Value)(H:AG M P n N R X ops k0 (L.setIfInBounds i true) ((t,v)::Γ) w)(a:cT n ops k0 L Γ i t=true:=by kernel_rfl)(hv:(execOp (ev Γ) (av ops i)).run P w=.ok (.value v) w:=by kernel_rfl):AG M P n N R X ops k0 L Γ w:=T.val i t v w (oH a).1 (oH a).2 hv H
theorem tP (i j o:Nat)(cs:List Value)(s:SS w0 h0 w h B Rs F)(H:∀ w',SS w0 h0 w' h (fU B j o cs) Rs F->AG M P n N R X ops k0 (L.setIfInBounds i true) Γ w')(c:FI ops k0 L Γ i=true:=by kernel_rfl)
  (a:(decide (j<B.length) && decide (o+cs.length<=(aD B j).vs.length))=true:=by kernel_rfl)(f:dw P (execOp (ev Γ) (av ops i))=some (.skip,ml (aD B j).b o cs):=by kernel_rfl)(hz:∀ K bs,M.z=some (K,bs)->K<=(aD B j).b\/(aD B j).b∈bs:=by intro _ _ e;cases e):AG M P n N R X ops k0 L Γ w :=
 T.put i j o cs s.st s.g0 (j4 c).1 (j4 c).2 a f (fun w' p d=>H w' (s.put0 (oT (hN _ _▸a).1) p d (kY (oT (hN _ _▸a).1)))) hz
theorem tW {α:Type}(i j:Nat)(l:List α)(f:α->List Value)(sz e:Nat)(x:α)(s:SS w0 h0 w h B Rs F)(d:e<l.length)(H:∀ w',SS w0 h0 w' h (gG B j ((l.set e x).flatMap f)) Rs F->AG M P n N R X ops k0 (L.setIfInBounds i true) Γ w')(c:FI ops k0 L Γ i=true:=by kernel_rfl)
  (a:decide (j<B.length)=true:=by kernel_rfl)(hB:(aD B j).vs=l.flatMap f:=by kernel_rfl)(hf:∀ x,(f x).length=sz:=by intro _;rfl)
  (k:dw P (execOp (ev Γ) (av ops i))=some (.skip,ml (aD B j).b (0+e*sz) (f x)):=by kernel_rfl)(hz:∀ K bs,M.z=some (K,bs)->K<=(aD B j).b\/(aD B j).b∈bs:=by intro _ _ e;cases e):AG M P n N R X ops k0 L Γ w :=
 T.putA i j l f sz e x s.st s.g0 (j4 c).1 (j4 c).2 a hB hf d k (fun w' p o=>H w' (s.put0 (oT a) p o (jy (oT a)))) hz
theorem tN {y:Code}{N' R':Po}{X':Nat->Po}(H:CG P n N' R' X' y Γ w)(b:(Region.ready .any ops L).isEmpty=true:=by kernel_rfl):AG M P n (fun a w=>y.wp P (iQ N' R' X') a w) R X ops k0 L Γ w:=T.next b H
theorem As {id:Nat}{b:Array Oper}{y:Code}{N' R':Po}{X':Nat->Po}(H:LG P n (fun a w=>y.wp P (iQ N' R' X') a w) R' X' b 0 Γ w)(c:(Region.ready .any ops L).isEmpty=true:=by kernel_rfl):AG M P n (fun a w=>(Code.seq (.region id b false) y).wp P (iQ N' R' X') a w) R X ops k0 L Γ w:=tN (aG H) c
theorem tD (H:∀ a,Kn n a Γ->N a w)(b:(Region.ready .any ops L).isEmpty=true:=by kernel_rfl):AG M P n N R X ops k0 L Γ w:=T.done b H
theorem cR {id:Nat}{d:Bool}(k0:Nat)(AL:List Al)(c:P.follows .mixedOrders=true)(s:SS w0 h0 w h B Rs F)(b:∀ x∈AL,AlOk P ops k0 x)(H:EG ⟨[],none⟩ P n N R X ops k0 h AL (pa ops.size false) Γ w h)(a:kv ops=true:=by kernel_rfl):CG P n N R X (.region id ops d) Γ w :=
 CG.region ⟨[],none⟩ k0 AL c a s.g b (fun _ e=>by cases e) H
end drawn
theorem aK {M:Ms}{P:Program}{n:Nat}{N R:Po}{X:Nat->Po}{ops:Array Oper}{k0:Nat}{hr:Hp}{AL:List Al}{L:Array Bool}{Γ:ck}{w w0:World}{h h0:Hp}{B:List Bx}{Rs:List Rw}{F:List (Hp->Prop)}(i t:Nat){f:FuncId}{args:Array Value}{x:Value}(s:SS w0 h0 w h B Rs F)(c:∀ w1 h1,SS w0 h0 w1 h1 B Rs F->Calls P f args w1 (Ret w1 h1 fun v _=>v=x))(H:∀ w1 h1,SS w0 h0 w1 h1 B Rs F->EG M P n N R X ops k0 hr AL (L.setIfInBounds i true) ((t,x)::Γ) w1 h1)(a:Av n ops k0 AL L Γ i t=true:=by kernel_rfl)(hv:∀ w,(execOp (ev Γ) (av ops i)).run P w=.ok (.enter f args) w:=by intro _;kernel_rfl):EG M P n N R X ops k0 hr AL L Γ w h:=eC i t s c (fun _ _ v w1 h1 b e=>by subst e;exact H w1 h1 b) a hv
theorem Bv {w:World}{h:Hp}(g:G w h){b:Nat}{ty:TypeId}{vs:List Value}(f:h[b]?=some junk)(o:Own w b ty vs):∃ d,G w d/\Gw h d/\Seg d b 0 vs/\∀ c,c≠b->d[c]?=h[c]?:=by
 have a:=aI f;refine ⟨h.setIfInBounds b (.cells vs.toArray ty (0,0)),⟨by simp;exact g.size,fun c=>?_⟩,⟨by simp,fun c j=>?_⟩,fun i v hv=>?_,fun c j=>g6 (Ne.symm j)⟩
 ·by_cases e:b=c
  ·subst e;left;rw[yy a];exact o.symm
  ·rw[g6 e];exact g.blk c
 ·by_cases e:b=c
  ·subst e;exact .inr f
  ·left;rw[g6 e]
 ·unfold fG
  rw[yy a]
  simpa using hv
theorem qM {w w':World}{h f d:Hp}{b:Nat}(k:h[b]?=some junk)(l:∀ c,c≠b->f[c]?=h[c]?)(j:f.size=h.size)(u:Up w f w' d):∃ i,Up w h w' i:=by
 have o:=aI k;have a:b<d.size:=ep oM u.gr.size;refine ⟨d.setIfInBounds b junk,u.ext,⟨by simp;rw[<-j];exact u.gr.size,fun c p=>?_⟩,⟨by simp;exact u.g.size,fun c=>?_⟩⟩
 ·by_cases e:b=c
  ·subst e;rw[yy a,k]
  ·rw[g6 e,u.gr.blk c oM,l c (Ne.symm e)]
 ·by_cases e:b=c
  ·subst e;right;rw[yy a]
  ·rw[g6 e];exact u.g.blk c
theorem G.sz {w:World}{h a:Hp}(g:G w h)(b:G w a):a.size=h.size:=by rw[<-g.size,<-b.size]
section lent
variable {M:Ms}{P:Program}{n:Nat}{N R:Po}{X:Nat->Po}{ops:Array Oper}{k k0:Nat}{hr:Hp}{AL:List Al}{L:Array Bool}{Γ:ck}{w:World}{h:Hp}{w0:World}{h0:Hp}{B:List Bx}{Rs:List Rw}{F:List (Hp->Prop)}
theorem SS.lends (s:SS w0 h0 w h B Rs F){j:Nat}(l:j<B.length){f:FuncId}{args:Array Value}{Φ:Value->Prop}(c:∀ a,G w a->AllF F a->Seg a (aD B j).b 0 (aD B j).vs->Calls P f args w (Ret w a (fun v _=>Φ v))):Calls P f args w (Ret w h (fun v _=>Φ v)):=by
 have k:=bC l;obtain ⟨a,g,gw,p,x⟩:=Bv s.g (s.st.jk _ k) (s.st.own _ k);refine (c a g (s.f.gw s.mo gw) p).mono ?_;rintro e w' ⟨v,z,o,u,d⟩;obtain ⟨i,y⟩:=qM (s.st.jk _ k) x (s.g.sz g) u;exact ⟨v,i,o,y,d⟩
theorem H5 (t j:Nat){f:FuncId}{args:Array Value}{Φ:Value->Prop}(s:SS w0 h0 w h B Rs F)(c:∀ hp,G w hp->AllF F hp->Seg hp (aD B j).b 0 (aD B j).vs->Calls P f args w (Ret w hp (fun v _=>Φ v)))(H:∀ v w' h',SS w0 h0 w' h' B Rs F->Φ v->LG P n N R X ops (k+1) ((t,v)::Γ) w')(a:decide (j<B.length)=true:=by kernel_rfl)(d:cL ops Γ k t n=true:=by kernel_rfl)(hr:(execOp (ev Γ) (av ops k)).run P w=.ok (.enter f args) w:=by kernel_rfl):LG P n N R X ops k Γ w :=
 lC t s (s.lends (oT a) c) H d hr
end lent
section unroll
variable {P:Program}{n:Nat}{N R:Po}{X:Nat->Po}{Γ:ck}{w:World}
def ID (P:Program)(N R:Po)(X:Nat->Po)(c:Code)(a:Act)(w:World):Prop:=∀ (b:Frame) (k:List Item) (cs:List Frame),∃ e a' w',iQ N R X e a' w'/\Arrives P (lone (b.at a (.code c::.inLoop c::k)) cs w) b k cs e a' w'
def CL (P:Program)(n:Nat)(N R:Po)(X:Nat->Po)(c:Code)(Γ:ck)(w:World):Prop:=∀ a,Kn n a Γ->ID P N R X c a w
theorem cU {c:Code}(H:CL P n N R X c Γ w):CG P n N R X (.loop c) Γ w:=fun a i b k cs=>by
 obtain ⟨e,f,w',h,d⟩:=H a i b k cs;exact ⟨e,f,w',h,.of_steps (.one step_loop) d⟩
theorem cN {c:Code}(H:CG P n (ID P N R X c) R X c Γ w):CL P n N R X c Γ w:=fun a z b k cs=>by
  obtain ⟨e,i,h,o,d⟩:=H a z b (.inLoop c::k) cs;cases e with
  | normal =>
    obtain ⟨u,p,y,j,f⟩:=o b k cs;exact ⟨u,p,y,j,.of_steps (Steps.trans d (.one step_inLoop)) f⟩
  | exit id=>exact ⟨.exit id,i,h,o,.pass (x:=.inLoop c) rfl (fun _ _=>.inl (by simp)) d⟩
  | goto l=>exact o.elim
  | ret=>exact ⟨.ret,i,h,o,.pass (x:=.inLoop c) rfl (fun _ _=>.inl (by simp)) d⟩
  | panic ch=>exact o.elim
  | outgrown=>exact o.elim
theorem CL.to {c:Code}(Γ':ck)(H:CL P n N R X c Γ' w)(e:jc Γ (Γ'.map (·.1))=Γ':=by kernel_rfl)(b:iC Γ'=iC Γ:=by kernel_rfl):CL P n N R X c Γ w:=fun a d=>H a (d.to Γ' e b)
end unroll
theorem mixed:Tryz.prog.follows .mixedOrders=true:=by kernel_rfl
theorem rb {s:Result Next}{e b:Bool}{w:World}(h:s=.ok (.value (.bool e)) w)(a:e=b):s=.ok (.value (.bool b)) w:=a▸h
theorem aN {s:Result Next}{k:IntKind}{n m:Int}{w:World}(h:s=.ok (.value (.int k n)) w)(e:n=m):s=.ok (.value (.int k m)) w:=e▸h
theorem rU {s:Result Next}{m:Int}{w:World}(x:Int)(h:s=.ok (.value (.int .u64 (IntKind.wrap .u64 x))) w)(e:IntKind.wrap .u64 x=m):s=.ok (.value (.int .u64 m)) w:=aN (n:=IntKind.wrap .u64 x) h e
theorem rS {s:Result Next}{m:Int}{w:World}(x:Int)(h:s=.ok (.value (.int .i64 (IntKind.wrap .i64 x))) w)(e:IntKind.wrap .i64 x=m):s=.ok (.value (.int .i64 m)) w:=aN (n:=IntKind.wrap .i64 x) h e
theorem rT {s:Result Next}{m:Int}{w:World}(x:Int)(h:s=.ok (.value (.int .u32 (IntKind.wrap .u32 x))) w)(e:IntKind.wrap .u32 x=m):s=.ok (.value (.int .u32 m)) w:=aN (n:=IntKind.wrap .u32 x) h e
theorem wR (n:Nat):IntKind.wrap .u8 (n:Int)=((n%256:Nat):Int):=by rw[IntKind.wrap_u8];omega
theorem fY (n:Nat):IntKind.wrap .u32 (n:Int)=((n%4294967296:Nat):Int):=by rw[IntKind.wrap_u32];omega
theorem xy (n:Nat):IntKind.wrap .u64 (n:Int)=((n%18446744073709551616:Nat):Int):=by rw[IntKind.wrap_u64];omega
theorem G2 {n:Int}(h0:0<=n)(h:n<256):IntKind.wrap .u8 n=n:=by rw[IntKind.wrap_u8];omega
theorem m8 {n:Int}(h0:0<=n)(h:n<4294967296):IntKind.wrap .u32 n=n:=by rw[IntKind.wrap_u32];omega
theorem ay {n:Int}(h0:0<=n)(h:n<18446744073709551616):IntKind.wrap .u64 n=n:=by rw[IntKind.wrap_u64];omega
theorem jF {n:Int}(h0 : -9223372036854775808<=n)(h:n<9223372036854775808):IntKind.wrap .i64 n=n:=by rw[IntKind.wrap_i64];omega
theorem CQ {n:Nat}(h:n<4294967296):IntKind.wrap .u32 (n:Int)=(n:Int):=by rw[IntKind.wrap_u32];omega
theorem FQ {n:Nat}(h:n<18446744073709551616):IntKind.wrap .u64 (n:Int)=(n:Int):=by rw[IntKind.wrap_u64];omega
theorem GT {n:Nat}(h:n<9223372036854775808):IntKind.wrap .i64 (n:Int)=(n:Int):=by rw[IntKind.wrap_i64];omega
theorem dI (a b:Nat):Int.fdiv (a:Int) (b:Int)=((a/b:Nat):Int):=by rw[zh _ oM];simp
theorem nM (a b:Nat):zy (a:Int) (b:Int)=((a/b:Nat):Int):=rfl
theorem cM (a b:Nat):Int.tmod (a:Int) (b:Int)=((a%b:Nat):Int):=rfl
theorem wG (a b:Nat)(h:a<4294967296):IntKind.wrap .u32 (zy (a:Int) (b:Int))=((a/b:Nat):Int):=by rw[nM];exact CQ (zz (zF _ _) h)
theorem jD (a b:Nat)(h:a<18446744073709551616):IntKind.wrap .u64 (zy (a:Int) (b:Int))=((a/b:Nat):Int):=by rw[nM];exact FQ (zz (zF _ _) h)
theorem de (a b:Nat)(h:a<9223372036854775808):IntKind.wrap .i64 (zy (a:Int) (b:Int))=((a/b:Nat):Int):=by rw[nM];exact GT (zz (zF _ _) h)
section div
variable {P:Program}{Γ:ck}{o:Oper}
theorem db {t u:TypeId}{x y:Operand}{k:IntKind}{a b:Int}(d:o.op=.binOp .quo t x y u)(c:ev Γ x=.int k a)(e:ev Γ y=.int k b)(f:b≠0)(w:World) :
  (execOp (ev Γ) o).run P w=.ok (.value (.int k (k.wrap (a.tdiv b)))) w:=by
 unfold execOp;simp only[d];rw[c,e]
 simp[binOp,eqGuard,Op.intDiv,f,Result.andThen]
theorem d4 {t u:TypeId}{x y:Operand}{k:IntKind}{a b:Int}(d:o.op=.binOp .rem t x y u)(c:ev Γ x=.int k a)(e:ev Γ y=.int k b)(f:b≠0)(w:World) :
  (execOp (ev Γ) o).run P w=.ok (.value (.int k (a.tmod b))) w:=by
 unfold execOp;simp only[d];rw[c,e]
 simp[binOp,eqGuard,Op.intDiv,f,Result.andThen]
theorem Hd {t u:TypeId}{x y:Operand}{k ky:IntKind}{a:Int}{n:Nat}(c:o.op=.binOp .shl t x y u)(b:ev Γ x=.int k a)(d:ev Γ y=.int ky (n:Int))(f:n<=k.bits)(w:World) :
  (execOp (ev Γ) o).run P w=.ok (.value (.int k (k.wrap (a*2^n)))) w:=by
 unfold execOp;simp only[c];rw[b,d]
 have e:min n k.bits=n:=by omega
 have hz:¬((n:Int)<0):=by omega
 simp[binOp,eqGuard,Op.shift,Result.andThen,e,hz]
theorem gc {t u:TypeId}{x y:Operand}{a b:Nat}(d:o.op=.binOp .or t x y u)(c:ev Γ x=.int .u64 (a:Int))(f:ev Γ y=.int .u64 (b:Int))(ha:a<18446744073709551616)(h:b<18446744073709551616)(w:World) :
  (execOp (ev Γ) o).run P w=.ok (.value (.int .u64 ((a ||| b:Nat):Int))) w:=by
 unfold execOp;simp only[d];rw[c,f]
 have e:bits .or .u64 (a:Int) (b:Int)=((a ||| b:Nat):Int):=by
  unfold bits
  have h1:(BitVec.ofInt 64 (a:Int) ||| BitVec.ofInt 64 (b:Int)).toNat=a ||| b:=by
   rw[BitVec.toNat_or]
   congr 1<;>(simp[BitVec.toNat_ofInt];omega)
  show IntKind.wrap .u64 (((BitVec.ofInt 64 (a:Int) ||| BitVec.ofInt 64 (b:Int)).toNat:Nat):Int)=_
  rw[h1];have:=zT (n:=64) ha h;exact ay oM oM
 simp[binOp,eqGuard,Result.andThen,intBits_or,e]
theorem Ey {t u:TypeId}{x y:Operand}{a b:Nat}(d:o.op=.binOp .or t x y u)(c:ev Γ x=.int .u32 (a:Int))(f:ev Γ y=.int .u32 (b:Int))(ha:a<4294967296)(h:b<4294967296)(w:World) :
  (execOp (ev Γ) o).run P w=.ok (.value (.int .u32 ((a ||| b:Nat):Int))) w:=by
 unfold execOp;simp only[d];rw[c,f]
 have e:bits .or .u32 (a:Int) (b:Int)=((a ||| b:Nat):Int):=by
  unfold bits
  have h1:(BitVec.ofInt 32 (a:Int) ||| BitVec.ofInt 32 (b:Int)).toNat=a ||| b:=by
   rw[BitVec.toNat_or]
   congr 1<;>(simp[BitVec.toNat_ofInt];omega)
  show IntKind.wrap .u32 (((BitVec.ofInt 32 (a:Int) ||| BitVec.ofInt 32 (b:Int)).toNat:Nat):Int)=_
  rw[h1];have:=zT (n:=32) ha h;exact m8 oM oM
 simp[binOp,eqGuard,Result.andThen,intBits_or,e]
end div
def lo (n:Nat):Int:=((n%18446744073709551616:Nat):Int)
def wb:Nat->Nat->List UInt8
  | 0,_=>[]
  | f+1,m=>if m=0 then [] else (la 8).map (fun k=>UInt8.ofNat (m/256^k))++wb f (m/18446744073709551616)
def hi (n:Nat):ByteArray:=⟨(wb n (n/18446744073709551616)).toArray⟩
abbrev uX (r k:Rat)(s b t:Int)(d:Nat):Value:=.agg #[.bool (au r.num),uV (lo (ab r.num)),.string (hi (ab r.num)),uV (lo (qd r)),.string (hi (qd r)),.bool (au k.num),uV (lo (ab k.num)),.string (hi (ab k.num)),uV (lo (qd k)),.string (hi (qd k)),iV s,iV b,iV t,mV d]
abbrev uC (r k:Rat)(s b t:Int)(d:Nat):List Value:=[.bool (au r.num),uV (lo (ab r.num)),.string (hi (ab r.num)),uV (lo (qd r)),.string (hi (qd r)),.bool (au k.num),uV (lo (ab k.num)),.string (hi (ab k.num)),uV (lo (qd k)),.string (hi (qd k)),iV s,iV b,iV t,mV d]
abbrev qX (q:Rat):Value:=.agg #[.bool (au q.num),uV (lo (ab q.num)),.string (hi (ab q.num)),uV (lo (qd q)),.string (hi (qd q))]
abbrev qC (q:Rat):List Value:=[.bool (au q.num),uV (lo (ab q.num)),.string (hi (ab q.num)),uV (lo (qd q)),.string (hi (qd q))]
abbrev qY (q:Rat)(A:Z9)(m c:Nat):Value:=.agg #[.bool (au q.num),uV (lo (ab q.num)),.string (hi (ab q.num)),uV (lo (qd q)),.string (hi (qd q)),.slice A m c]
abbrev qZ (q:Rat)(A:Z9)(m c:Nat):List Value:=[.bool (au q.num),uV (lo (ab q.num)),.string (hi (ab q.num)),uV (lo (qd q)),.string (hi (qd q)),.slice A m c]
abbrev wX (b:Value)(m:Nat):Value:=.agg #[b,uV (lo m),.string (hi m)]
abbrev wC (b:Value)(m:Nat):List Value:=[b,uV (lo m),.string (hi m)]
def nc (n:Nat):List Value:=[.int .u64 (lo n),.string (hi n)]
def nv (n:Nat):Value:=.agg #[.int .u64 (lo n),.string (hi n)]
def ic (z:Int):List Value:=[.bool (au z),.int .u64 (lo (ab z)),.string (hi (ab z))]
def iv (z:Int):Value:=.agg #[.bool (au z),.int .u64 (lo (ab z)),.string (hi (ab z))]
def qc (q:Rat):List Value:=[.bool (au q.num),.int .u64 (lo (ab q.num)),.string (hi (ab q.num)),.int .u64 (lo (qd q)),.string (hi (qd q))]
abbrev Sq (A:Z9)(l:List Rat):Hp->Prop:=fun h_=>SlO 5 qc 0 h_ A l
def qv (q:Rat):Value:=.agg #[.bool (au q.num),.int .u64 (lo (ab q.num)),.string (hi (ab q.num)),.int .u64 (lo (qd q)),.string (hi (qd q))]
theorem gZ {n:Nat}(h:n<18446744073709551616):lo n=(n:Int):=by unfold lo;rw[u9 h]
theorem lh {n:Nat}(h:n<18446744073709551616):hi n=⟨#[]⟩:=by
 unfold hi;rw[zY h];cases n<;>rfl
def dR:List Nat->Nat
  | []=>0
  | x::l=>x+4294967296*dR l
def oV:Nat->Nat->List Nat
  | 0,_=>[]
  | f+1,n=>if n=0 then [] else n%4294967296::oV f (n/4294967296)
def lim (n:Nat):List Nat:=oV n n
abbrev gF (q:Rat)(A:Z9)(c:Nat)(D:Z9)(d:Nat):List Value:=[.bool (au q.num),.slice A (lim (ab q.num)).length c,.slice D (lim q.den).length d]
abbrev rG (q:Rat)(A:Z9)(c:Nat)(D:Z9)(d:Nat):Value:=.agg #[.bool (au q.num),.slice A (lim (ab q.num)).length c,.slice D (lim q.den).length d]
theorem rK:∀ (f g n:Nat),n<=f->n<=g->oV f n=oV g n
  | 0,g,n,hf,hg=>by
    have:n=0:=by omega
    subst this;cases g<;>rfl
  | f+1,0,n,hf,hg=>by
    have:n=0:=by omega
    subst this
    rfl
  | f+1,g+1,n,hf,hg=>by
    unfold oV
    split
    . rfl
    . rw[rK f g (n/4294967296) oM oM]
theorem fT:lim 0=[]:=rfl
theorem eh {n:Nat}(h:0<n):lim n=n%4294967296::lim (n/4294967296):=by
 unfold lim
 obtain ⟨m,rfl⟩:∃ m,n=m+1:=⟨n-1,by omega⟩;rw[oV,if_neg oM];rw[rK m _ _ oM (eb _)]
theorem AF {n:Nat}(h0:0<n)(h:n<4294967296):lim n=[n]:=by
 rw[eh h0,u9 h,zY h,fT]
theorem gH (n:Nat):dR (lim n)=n:=by
  induction n using g2 with
  | _ n ih =>
    rcases yz n with h|h
    . subst h;rfl
    . rw[eh h,dR,ih (n/4294967296) oM]
      omega
theorem qt (n:Nat):∀ x∈lim n,x<4294967296:=by
  induction n using g2 with
  | _ n ih =>
    rcases yz n with h|h
    . subst h;intro x a;cases a
    . rw[eh h]
      intro x a
      rcases gq.1 a with rfl|a
      . omega
      . exact ih _ oM x a
theorem bI {n:Nat}:0<(lim n).length↔0<n:=by
 rcases yz n with h|h
 ·subst h;simp[fT]
 ·rw[eh h];simp[h]
theorem qg {n:Nat}:lim n=[]↔n=0:=by
 constructor
 ·intro h;rcases yz n with h0|h0;exact h0;rw[eh h0] at h;cases h
 ·rintro rfl;rfl
theorem dt {n k:Nat}(h:n<4294967296^k):(lim n).length<=k:=by
  induction k generalizing n with
  | zero => have:n=0:=by simpa using h
            subst this;simp[fT]
  | succ k ih =>
    rcases yz n with h0|h0
    . subst h0;simp[fT]
    . rw[eh h0]
      have:n/4294967296<4294967296^k:=zZ (by rw[z1,z2] at h;exact h);have:=ih this
      simp
      omega
def tl (l:List Nat):Nat->Nat
  | 0=>0
  | n+1=>if l.getD n 0=0 then tl l n else n+1
theorem fX (l:List Nat):∀ n,tl l n<=n
 | 0=>eb _
 | n+1=>by unfold tl;split;exact Nat.le_succ_of_le (fX l n);exact eb _
theorem mD {l:List Nat}{n:Nat}(h:n=0\/l.getD (n-1) 0≠0):tl l n=n:=by
 cases n with
 | zero=>rfl
 | succ n=>unfold tl;rw[if_neg];rcases h with h|h;omega;exact h
theorem pl (a b:List Nat):dR (a++b)=dR a+4294967296^a.length*dR b:=by
  induction a with
  | nil=>simp[dR]
  | cons x a ih =>
    simp only[z6,dR,ih,List.length_cons,z1,z7]
    rw[<-z8,z2 (4294967296^a.length) 4294967296]
    omega
theorem tc {l:List Nat}(h:∀ x∈l,x<4294967296):dR l<4294967296^l.length:=by
  induction l with
  | nil=>simp[dR]
  | cons x l ih =>
    have h1:=h x (by simp);have b:=ih (fun y a=>h y (by simp[a]))
    simp only[dR,List.length_cons,z1]
    omega
theorem iZ (x:Nat)(l:List Nat):∀ n,tl l n=0->tl (x::l) (n+1)=if x=0 then 0 else 1
  | 0,_=>by simp[tl]
  | n + 1,h=>by
    unfold tl at h
    split at h
    . rename_i h0
      show tl (x::l) (n+2)=_
      unfold tl
      rw[if_pos (by simpa using h0)];exact iZ x l n h
    . omega
theorem kF (l:List Nat)(n:Nat):tl l (n+1)=if l.getD n 0=0 then tl l n else n+1:=rfl
theorem ke (x:Nat)(l:List Nat):∀ n,0<tl l n->tl (x::l) (n+1)=tl l n+1
  | 0,h=>by simp[tl] at h
  | n + 1,h=>by
    rw[kF l n] at h ⊢
    rw[kF (x::l) (n+1),s3]
    by_cases h0:l.getD n 0=0
    . rw[if_pos h0] at h ⊢
      rw[if_pos h0];exact ke x l n h
    . rw[if_neg h0,if_neg h0]
theorem od (l:List Nat):dR l=0->tl l l.length=0:=by
  intro h
  have key:∀ n,n<=l.length->tl l n=0:=by
    have hz:∀ k,l.getD k 0=0:=by
      induction l with
      | nil=>intro k;simp
      | cons x l ih =>
        simp only[dR] at h
        intro k;cases k with
        | zero=>simp;omega
        | succ k=>simpa using ih oM k
    intro n
    induction n with
    | zero=>intro _;rfl
    | succ n ih=>intro a;unfold tl;rw[if_pos (hz n)];exact ih oM
  exact key _ (eb _)
theorem wN {l:List Nat}(h:∀ x∈l,x<4294967296):lim (dR l)=l.take (tl l l.length):=by
  induction l with
  | nil=>rfl
  | cons x l ih =>
    have h1:=h x (by simp);have a:=ih (fun y e=>h y (by simp[e]))
    rcases yz (dR (x::l)) with h0|h0
    . rw[h0,fT,od _ h0];rfl
    . rw[eh h0]
      have d:dR (x::l)%4294967296=x:=by simp only[dR];omega
      have c:dR (x::l)/4294967296=dR l:=by simp only[dR];omega
      rw[d,c,a]
      rcases yz (tl l l.length) with ht|ht
      . have b:x≠0:=by
          intro b;have:lim (dR l)=[]:=by rw[a,ht];rfl
          have:=qg.1 this
          simp only[dR] at h0
          omega
        rw[List.length_cons,iZ x l _ ht,if_neg b,ht];rfl
      . rw[List.length_cons,ke x l _ ht];rfl
theorem l5 (n:Nat)(h:0<n):(lim n).getD ((lim n).length-1) 0≠0:=by
  induction n using g2 with
  | _ n ih =>
    rw[eh h]
    rcases yz (n/4294967296) with h0|h0
    . rw[h0,fT];simp;omega
    . have:=ih (n/4294967296) oM h0
      have a:=bI.2 h0;rw[List.length_cons,show (lim (n/4294967296)).length+1-1=((lim (n/4294967296)).length-1)+1 by omega,s3];exact this
theorem kJ {l:List Nat}{k:Nat}(h:k<l.length):dR (l.take (k+1))=dR (l.take k)+4294967296^k*l.getD k 0:=by
 have e:l.take (k+1)=l.take k++[l.getD k 0]:=by
  rw[Aa];simp[h]
 rw[e,pl,Ab,Am oM]
 show dR (l.take k)+4294967296^k*(l.getD k 0+4294967296*0)=_
 rw[Ao,sw]
def nb (n:Nat):Nat:=if n=0 then 0 else Nat.log2 n+1
theorem BM:nb 0=0:=rfl
theorem cl {n:Nat}(h:0<n):2^(nb n-1)<=n/\n<2^nb n/\0<nb n:=by
 unfold nb
 rw[if_neg oM];have:=(Az (n:=n) (k:=n.log2) oM).1 rfl;exact ⟨this.1,this.2,by omega⟩
theorem jV {n k:Nat}(h1:2^k<=n)(a:n<2^(k+1)):nb n=k+1:=by
 have b:0<2^k:=A0 k
 unfold nb
 rw[if_neg oM,(Az oM).2 ⟨h1,a⟩]
theorem De (n:Nat):n<2^nb n:=by
 rcases yz n with h|h
 ·subst h;simp[nb]
 ·exact (cl h).2.1
theorem jr {n k:Nat}(h:n<2^k):nb n<=k:=by
 rcases yz n with h0|h0
 ·subst h0;simp[nb]
 ·have:=cl h0
  rcases co k (nb n) with hl|hl
  ·have:2^k<=2^(nb n-1):=A4 oM oM
   omega
  ·exact hl
theorem BR {n:Nat}(h:0<n):nb n=nb (n/2)+1:=by
 rcases co n 2 with h2|h2
 ·have:n=1:=by omega
  subst this;decide
 ·obtain ⟨c,a,b⟩:=cl (n:=n/2) oM
  apply jV
  ·have:2^nb (n/2)=2*2^(nb (n/2)-1):=by rw[<-A6,show (nb (n/2)-1).succ=nb (n/2) by omega]
   omega
  ·rw[z1];omega
theorem Ad {lo uh k:Nat}(a:lo<2^k)(b:0<uh):nb (lo+2^k*uh)=k+nb uh:=by
 obtain ⟨d,c,e⟩:=cl b;rw[show k+nb uh=(k+(nb uh-1))+1 by omega]
 apply jV
 ·rw[A7]
  have:=A8 (2^k) d
  omega
 ·rw[show k+(nb uh-1)+1=k+nb uh by omega,A7]
  have:=A8 (2^k) (show uh+1<=2^nb uh from c);rw[Nat.mul_succ] at this
  omega
theorem xH {a:Nat}(h:0<a):nb a=32*((lim a).length-1)+nb ((lim a).getD ((lim a).length-1) 0):=by
 have i:=bI.2 h;have e:=kJ (l:=lim a) (k:=(lim a).length-1) oM;rw[show (lim a).length-1+1=(lim a).length by omega,s1,gH] at e
 have b:=tc (l:=(lim a).take ((lim a).length-1)) (fun x d=>qt a x (A9 d));rw[Ab,Am oM] at b
 have c:(4294967296:Nat)^((lim a).length-1)=2^(32*((lim a).length-1)):=by rw[Bs]
 rw[c] at e b
 have f:=l5 a h;have:=Ad b (Nat.pos_of_ne_zero f);rw[<-e] at this
 exact this
def fA (n:Nat):Nat->List Nat
  | 0=>[]
  | m+1=>n/256^m%256::fA n m
theorem jb (n m:Nat):(fA n m).length=m:=by induction m with|zero=>rfl|succ m ih=>simp[fA,ih]
theorem im (n:Nat):∀ (m k:Nat),k<m->(fA n m).getD k 0=n/256^(m-1-k)%256
  | 0,k,h=>by omega
  | m+1,0,h=>by simp[fA]
  | m+1,k+1,h=>by
    rw[fA,s3,im n m k oM]
    congr 3
    omega
theorem kf (n m k:Nat):(fA n m).getD k 0<256:=by
 rcases co k m with h|h
 ·rw[im n m k h];exact va _ oM
 ·simp[pk (show (fA n m).length<=k by rw[jb];exact h)]
theorem xP (n i:Nat):n%256^(i+1)=n%256^i+256^i*(n/256^i%256):=by
 rw[z1,Nat.mod_mul]
theorem Fa (a:Nat):nb a<=32*(lim a).length:=by
 apply jr
 have:=tc (qt a);rw[gH] at this
 rw[Bs];exact this
theorem jd {l:List Nat}{m k x:Nat}{f:Nat->Nat}(d:l.length=m)(h:k<m)(hv:∀ j,j<k->l.getD (m-1-j) 0=f j)(b:x=f k:=by rfl):∀ j,j<k+1->(l.set (m-1-k) x).getD (m-1-j) 0=f j:=by
 intro j c
 by_cases e:j=k
 ·subst e
  have:m-1-j<l.length:=by omega
  simp[this,b]
 ·have a:m-1-k≠m-1-j:=by omega
  have:=hv j oM
  simp only[B1] at this ⊢
  rw[p1 a];exact this
theorem vu {l:List Nat}{n m:Nat}(b:l.length=m)(hv:∀ j,j<m->l.getD (m-1-j) 0=n/256^j%256):l=fA n m:=by
 apply List.ext_getElem
 ·rw[jb,b]
 ·intro i h1 a
  have c:=im n m i oM;have:=hv (m-1-i) oM;rw[show m-1-(m-1-i)=i by omega,<-c] at this
  simpa [h1,a] using this
def eM (n k j:Nat):Nat:=n/256^k*256^k/4294967296^j%4294967296
theorem uo (n j:Nat):eM n 0 j=n/4294967296^j%4294967296:=by unfold eM;simp
theorem wS {n k:Nat}(h:n<256^k)(j:Nat):eM n k j=0:=by unfold eM;rw[zY h];simp
theorem oa (n k j:Nat):eM n k j<4294967296:=va _ oM
theorem tz (k:Nat):(256:Nat)^k=4294967296^(k/4)*2^(8*(k%4)):=by
 have:k=4*(k/4)+k%4:=by omega
 conv=>lhs;rw[this,A7,Bs]
 rw[Bs 2 8]
theorem sh (y q j:Nat):y*4294967296^q/4294967296^j%4294967296=if j<q then 0 else y/4294967296^(j-q)%4294967296:=by
 split
 ·rename_i h
  have e:(4294967296:Nat)^q=4294967296^j*(4294967296^(q-j-1)*4294967296):=by
   rw[<-z1,<-A7];congr 1;omega
  rw[e,<-z8,z2 y,z8,Nat.mul_div_cancel_left _ (F2 oM),<-z8];exact HA _ _
 ·rename_i h
  have e:(4294967296:Nat)^j=4294967296^q*4294967296^(j-q):=by rw[<-A7];congr 1;omega
  rw[e,<-H1,Nat.mul_div_cancel _ (F2 oM)]
theorem Bc (x b:Nat)(a:b<256):∀ r,r<4->(256*x+b)*2^(8*r)%4294967296=256*x*2^(8*r)%4294967296+b*2^(8*r)/\(256*x+b)*2^(8*r)/4294967296=256*x*2^(8*r)/4294967296/\256*x*2^(8*r)%4294967296%2^(8*r+8)=0/\b*2^(8*r)<4294967296:=by
 intro r hr;have:r=0\/r=1\/r=2\/r=3:=by omega
 rcases this with rfl|rfl|rfl|rfl<;>omega
theorem mO (n k j:Nat):eM n k j=if j=k/4 then eM n (k+1) j ||| (n/256^k%256)*2^(8*(k%4)) else eM n (k+1) j:=by
  have p:n/256^k=256*(n/256^(k+1))+n/256^k%256:=by
    rw[z1,<-H1];omega
  have i:n/256^k%256<256:=va _ oM;have f:=tz k;have a:(256:Nat)^(k+1)=4294967296^(k/4)*2^(8*(k%4))*256:=by rw[z1,f]
  obtain ⟨o,l2,l3,z⟩:=Bc (n/256^(k+1)) _ i (k%4) oM
  unfold eM
  generalize n/256^(k+1)=x at *
  generalize hb2:n/256^k%256=b at *
  rw[p,f,a];have u:(256*x+b)*(4294967296^(k/4)*2^(8*(k%4)))=(256*x+b)*2^(8*(k%4))*4294967296^(k/4):=by ac_rfl
  have l:x*(4294967296^(k/4)*2^(8*(k%4))*256)=256*x*2^(8*(k%4))*4294967296^(k/4):=by ac_rfl
  rw[u,l,sh,sh]
  by_cases h1:j<k/4
  . rw[if_pos h1,if_pos h1,if_neg oM]
  . rw[if_neg h1,if_neg h1]
    by_cases h2:j=k/4
    . rw[if_pos h2,h2,pr,Nat.pow_zero,Nat.div_one,Nat.div_one,o]
      obtain ⟨c,hc⟩:∃ c,256*x*2^(8*(k%4))%4294967296=2^(8*(k%4)+8)*c:=⟨_,(Nat.mul_div_cancel' (Nat.dvd_of_mod_eq_zero l3)).symm⟩;rw[hc]
      have e:b*2^(8*(k%4))<2^(8*(k%4)+8):=by
        rw[A7,z2];exact I0 i (A0 _)
      exact Nat.two_pow_add_eq_or_of_lt e c
    . rw[if_neg h2]
      obtain ⟨d,hd⟩:∃ d,j-k/4=d+1:=⟨j-k/4-1,by omega⟩;have h:∀ y:Nat,y/4294967296^(d+1)=y/4294967296/4294967296^d:=fun y=>by rw[A6,H1]
      rw[hd,h,h,l2]
theorem ia:∀ (l:List Nat) (n:Nat),(∀ j,j<l.length->l.getD j 0=n/4294967296^j%4294967296)->n<4294967296^l.length->dR l=n
  | [],n,_,h=>by simp at h;simp[dR,h]
  | x :: l,n,hd,h=>by
    have h0:=hd 0 (by simp)
    simp at h0
    have b:=ia l (n/4294967296) (fun j a=>by
      have:=hd (j+1) (by simpa using a);rw[s3,A6,<-H1] at this
      exact this) (zZ (by rw[List.length_cons,A6] at h;exact h))
    rw[dR,b,h0]
    omega
def am (b:Nat):List Nat->Nat
  | []=>0
  | x::l=>x+b*am b l
def Dg (b:Nat)(l:List Nat):Prop:=∀ x∈l,x<b
theorem jP (l:List Nat):dR l=am 4294967296 l:=by
 induction l with
 | nil=>rfl
 | cons x l ih=>simp only[dR,am,ih]
theorem Dg.nil {b:Nat}:Dg b []:=fun _ h=>by cases h
theorem Dg.getD {b:Nat}{l:List Nat}(h:Dg b l)(a:0<b)(k:Nat):l.getD k 0<b:=by
 rcases co k l.length with hk|hk
 ·have:=h (l[k]) (e5 hk);simpa [hk] using this
 ·simpa [pk hk] using a
theorem Dg.set {b:Nat}{l:List Nat}(h:Dg b l)(k:Nat){x:Nat}(a:x<b):Dg b (l.set k x):=fun y c=>by
 rcases List.mem_or_eq_of_mem_set c with h1|h1
 ·exact h y h1
 ·rw[h1];exact a
theorem Dg.take {b:Nat}{l:List Nat}(h:Dg b l)(k:Nat):Dg b (l.take k):=fun x a=>h x (A9 a)
theorem Dg.drop {b:Nat}{l:List Nat}(h:Dg b l)(k:Nat):Dg b (l.drop k):=fun x a=>h x (ub a)
theorem Dg.append {b:Nat}{l m:List Nat}(h:Dg b l)(k:Dg b m):Dg b (l++m):=fun x a=>by
 rcases fo.1 a with h1|h1
 ·exact h x h1
 ·exact k x h1
theorem Dg.one {b x:Nat}(h:x<b):Dg b [x]:=fun y a=>by rw[o0.1 a];exact h
theorem Dg.cons {b x:Nat}{l:List Nat}(h:x<b)(k:Dg b l):Dg b (x::l):=fun y a=>by
 rcases gq.1 a with rfl|h1
 ·exact h
 ·exact k y h1
theorem Dg.rep {b n:Nat}(c:0<b):Dg b (um n 0):=fun y a=>by rw[(List.mem_replicate.1 a).2];exact c
theorem cA (b:Nat)(x y:List Nat):am b (x++y)=am b x+b^x.length*am b y:=by
  induction x with
  | nil=>simp[am]
  | cons a x ih =>
    simp only[z6,am,ih,List.length_cons,z1,z7]
    rw[<-z8,z2 (b^x.length) b]
    omega
theorem bW {b:Nat}{l:List Nat}(h:Dg b l):am b l<b^l.length:=by
  induction l with
  | nil=>simp[am]
  | cons x l ih =>
    have h1:=h x (by simp);have a:=ih (fun y c=>h y (by simp[c]))
    simp only[am,List.length_cons,z1]
    have d:b*(am b l+1)<=b*b^l.length:=A8 _ a;rw[z7,I1,z2 b (b^l.length)] at d
    omega
theorem bX (b:Nat){l:List Nat}{k:Nat}(h:k<=l.length):am b l=am b (l.take k)+b^k*am b (l.drop k):=by
 have e:=cA b (l.take k) (l.drop k);rw[List.take_append_drop,Ab,Am h] at e
 exact e
theorem gR {l:List Nat}{k:Nat}(h:k<l.length):l.take (k+1)=l.take k++[l.getD k 0]:=by
 rw[Aa];simp[h]
theorem aJ (b:Nat){l:List Nat}{k:Nat}(h:k<l.length):am b (l.take (k+1))=am b (l.take k)+b^k*l.getD k 0:=by
 rw[gR h,cA,Ab,Am oM]
 show am b (l.take k)+b^k*(l.getD k 0+b*0)=_
 rw[Ao,sw]
theorem eZ (b:Nat){l:List Nat}{k:Nat}(h:k<l.length):am b (l.drop k)=l.getD k 0+b*am b (l.drop (k+1)):=by
 rw[List.drop_eq_getElem_cons h]
 simp[am,h]
theorem ct (b:Nat){l:List Nat}{k:Nat}(x:Nat)(h:k<l.length):am b (l.set k x)+b^k*l.getD k 0=am b l+b^k*x:=by
  induction l generalizing k with
  | nil=>simp at h
  | cons y l ih =>
    cases k with
    | zero=>simp[am];omega
    | succ k =>
      have:=ih (k:=k) (by simpa using h);rw[tu,s3,am,am,z1,z2 (b^k) b,z8,z8];have e:b*(am b (l.set k x)+b^k*l.getD k 0)=b*(am b l+b^k*x):=by rw[this]
      rw[z7,z7] at e
      omega
theorem di (b n:Nat):am b (um n 0)=0:=by
 induction n with
 | zero=>rfl
 | succ n ih=>simp[un,am,ih]
theorem ms {b:Nat}(c:0<b){l:List Nat}(h:am b l=0)(k:Nat):l.getD k 0=0:=by
  induction l generalizing k with
  | nil=>simp
  | cons x l ih =>
    simp only[am] at h
    have h1:b*am b l=0:=by omega
    have a:am b l=0:=by
      rcases Nat.mul_eq_zero.1 h1 with a|a
      . omega
      . exact a
    cases k with
    | zero=>simp;omega
    | succ k=>simpa using ih a k
theorem gx (b:Nat){l:List Nat}(h:∀ k,l.getD k 0=0):am b l=0:=by
  induction l with
  | nil=>rfl
  | cons x l ih =>
    have h0:=h 0
    simp at h0
    rw[am,ih (fun k=>by have:=h (k+1);simpa using this),h0];simp
theorem iM {l:List Nat}{k n:Nat}(h:k<n):(l.take n).getD k 0=l.getD k 0:=by
 simp only[B1,List.getElem?_take,if_pos h]
theorem bK {l:List Nat}{k n:Nat}:(l.drop n).getD k 0=l.getD (n+k) 0:=by
 simp only[B1,ri]
theorem bB {l:List Nat}{k j x:Nat}(h:k<l.length):(l.set k x).getD j 0=if k=j then x else l.getD j 0:=by
 simp only[B1,List.getElem?_set,h,if_true]
 split<;>simp
theorem dG {n k:Nat}:(um n 0).getD k 0=0:=by
 simp only[B1,List.getElem?_replicate]
 split<;>rfl
theorem cP {l:List Nat}{k:Nat}(h:l.length<=k):l.getD k 0=0:=by simp[pk h]
theorem ji (b:Nat)(l:List Nat):∀ n,n<=l.length->am b (l.take (tl l n))=am b (l.take n)
  | 0,_=>rfl
  | n + 1,h=>by
    unfold tl
    split
    . rename_i h0
      rw[aJ b oM,h0,ji b l n oM];simp
    . rfl
theorem rM {l:List Nat}:∀ n,tl l n=0\/l.getD (tl l n-1) 0≠0
  | 0=>.inl rfl
  | n+1=>by
    unfold tl
    split
    . exact rM n
    . rename_i h;exact .inr h
def oZ (b:Nat):Nat->Nat->List Nat
  | 0,_=>[]
  | f+1,n=>if n=0 then [] else n%b::oZ b f (n/b)
def f7 (b n:Nat):List Nat:=oZ b n n
theorem sR {b:Nat}(a:2<=b):∀ (f g n:Nat),n<=f->n<=g->oZ b f n=oZ b g n
  | 0,g,n,hf,hg=>by
    have:n=0:=by omega
    subst this;cases g<;>rfl
  | f+1,0,n,hf,hg=>by
    have:n=0:=by omega
    subst this
    rfl
  | f + 1,g+1,n,hf,hg=>by
    unfold oZ
    split
    . rfl
    . rename_i h0
      have:=I2 (n:=n) (k:=b) oM oM;rw[sR a f g (n/b) oM oM]
theorem i7 (b:Nat):f7 b 0=[]:=rfl
theorem d3 {b n:Nat}(a:2<=b)(h:0<n):f7 b n=n%b::f7 b (n/b):=by
 unfold f7
 obtain ⟨m,rfl⟩:∃ m,n=m+1:=⟨n-1,by omega⟩;have:=I2 (n:=m+1) (k:=b) oM oM;rw[oZ,if_neg oM];rw[sR a m _ _ oM (eb _)]
theorem jj {b:Nat}(a:2<=b)(n:Nat):am b (f7 b n)=n:=by
  induction n using g2 with
  | _ n ih =>
    rcases yz n with h|h
    . subst h;rfl
    . rw[d3 a h,am,ih (n/b) (I2 h oM)]
      exact Nat.mod_add_div n b
theorem xp {b:Nat}(a:2<=b)(n:Nat):Dg b (f7 b n):=by
  induction n using g2 with
  | _ n ih =>
    rcases yz n with h|h
    . subst h;exact Dg.nil
    . rw[d3 a h]
      exact Dg.cons (va _ oM) (ih _ (I2 h oM))
theorem nA {b n:Nat}(a:2<=b):0<(f7 b n).length↔0<n:=by
 rcases yz n with h|h
 ·subst h;simp[i7]
 ·rw[d3 a h];simp[h]
theorem q6 {b:Nat}(k:2<=b){l:List Nat}(d:Dg b l)(a:l=[]\/l.getD (l.length-1) 0≠0):f7 b (am b l)=l:=by
  induction l with
  | nil=>rfl
  | cons x l ih =>
    have e:=d x (by simp);have i:(x+b*am b l)%b=x:=by rw[Nat.add_mul_mod_self_left,u9 e]
    have h:(x+b*am b l)/b=am b l:=by rw[I3 _ _ oM,zY e,tv]
    have c:l=[]\/l.getD (l.length-1) 0≠0:=by
      rcases List.eq_nil_or_concat l with h0|⟨m,y,rfl⟩
      . exact .inl h0
      . right
        rcases a with a|a
        . cases a
        . rw[show (x::m.concat y).length-1=((m.concat y).length-1)+1 by simp,s3] at a
          exact a
    have f:0<am b (x::l):=by
      rcases yz (am b (x::l)) with h0|h0
      . rcases a with a|a
        . cases a
        . exact absurd (ms oM h0 _) a
      . exact h0
    rw[d3 k f]
    simp only[am]
    rw[i,h,ih (fun y j=>d y (by simp[j])) c]
theorem Ev {b:Nat}(d:2<=b){l:List Nat}(c:Dg b l):f7 b (am b l)=l.take (tl l l.length):=by
 have e:=ji b l l.length (eb _);rw[s1] at e
 have a:=fX l l.length
 have:=q6 d (c.take (tl l l.length)) (by
  by_cases h0:tl l l.length=0
  ·left;rw[h0];rfl
  ·right
   rw[Ab,Am a,iM oM]
   rcases rM (l:=l) l.length with h|h
   ·exact absurd h h0
   ·exact h)
 rw[e] at this
 exact this
theorem kz {b:Nat}(a:2<=b)(n:Nat)(h:0<n):(f7 b n).getD ((f7 b n).length-1) 0≠0:=by
  induction n using g2 with
  | _ n ih =>
    rw[d3 a h]
    rcases yz (n/b) with h0|h0
    . rw[h0,i7]
      have:n<b:=by
        rcases co n b with h1|h1
        . exact h1
        . have:=Nat.div_pos h1 oM;omega
      simp[u9 this];omega
    . have:=ih (n/b) (I2 h oM) h0
      have c:=(nA a).2 h0;rw[List.length_cons,show (f7 b (n/b)).length+1-1=((f7 b (n/b)).length-1)+1 by omega,s3];exact this
theorem f9 {b n k:Nat}(a:2<=b)(h:n<b^k):(f7 b n).length<=k:=by
 rcases yz n with h0|h0
 ·subst h0;simp[i7]
 ·rcases co k (f7 b n).length with hk|hk
  ·exfalso
   have h1:=aJ b (l:=f7 b n) (k:=(f7 b n).length-1) oM;rw[show (f7 b n).length-1+1=(f7 b n).length by omega,s1,jj a] at h1
   have c:=kz a n h0;have e:b^((f7 b n).length-1)*1<=b^((f7 b n).length-1)*(f7 b n).getD ((f7 b n).length-1) 0:=A8 _ oM;have d:b^k<=b^((f7 b n).length-1):=A4 oM oM
   omega
  ·exact hk
theorem iO {b:Nat}(a:2<=b)(n:Nat):n<b^(f7 b n).length:=by
 have:=bW (xp a n)
 rwa [jj a] at this
theorem qw {b n:Nat}(a:2<=b)(h:0<n):b^((f7 b n).length-1)<=n:=by
 have c:=(nA a).2 h;have h1:=aJ b (l:=f7 b n) (k:=(f7 b n).length-1) oM;rw[show (f7 b n).length-1+1=(f7 b n).length by omega,s1,jj a] at h1
 have d:=kz a n h;have e:b^((f7 b n).length-1)*1<=b^((f7 b n).length-1)*(f7 b n).getD ((f7 b n).length-1) 0:=A8 _ oM
 omega
theorem gJ (b:Nat){l:List Nat}{k m:Nat}(p:k+m<=l.length)(c:0<b)(f:Dg b l)(h:am b l<b^(k+m)):am b l/b^k=am b ((l.drop k).take m)/\∀ i,k+m<=i->l.getD i 0=0:=by
 have e:=bX b (l:=l) (k:=k) oM;have a:=bX b (l:=l.drop k) (k:=m) (by rw[List.length_drop];omega);have h1:=bW (f.take k);rw[Ab,Am oM] at h1
 have d:0<b^k:=F2 c
 have hz:am b ((l.drop k).drop m)=0:=by
  rcases yz (am b ((l.drop k).drop m)) with h0|h0
  ·exact h0
  ·exfalso
   have o:b^m*1<=b^m*am b ((l.drop k).drop m):=A8 _ h0;have j:b^k*b^m<=b^k*am b (l.drop k):=A8 _ oM;rw[<-A7] at j
   omega
 rw[hz,Ao,sw] at a
 refine ⟨?_,fun i hi=>?_⟩
 ·rw[e,I3 _ _ d,zY h1,tv,a]
 ·have:=ms c hz (i-k-m)
  rw[bK,bK,show k+(m+(i-k-m))=i by omega] at this
  exact this
theorem ww {b P u v U V G:Nat}(p:0<P)(o:U*P<=u)(i:u<(U+1)*P)(a:V*P<=v)(l:v<(V+1)*P)(c:b*P<=v)(e:u<b*v)(k:G*V<=U)(d:G+1=b\/U<(G+1)*V)(j:G<b) :
    u/v<=G/\G<=u/v+1:=by
  have hv:0<v:=ep (Nat.mul_pos oM p) c
  constructor
  . have x:u/v<G+1:=by
      rw[Nat.div_lt_iff_lt_mul hv]
      rcases d with h|h
      . rw[h];exact e
      . have h1:(U+1)*P<=(G+1)*V*P:=ua _ h
        have f:(G+1)*(V*P)<=(G+1)*v:=A8 _ a;rw[z8] at h1
        omega
    omega
  . have h1:G*v<=u+v:=by
      have C:G*v<=G*((V+1)*P):=A8 _ oM;have y:G*((V+1)*P)=G*V*P+G*P:=by rw[<-z8,z7,I1,I4]
      have z:G*V*P<=U*P:=ua _ k;have B:G*P<=b*P:=ua _ oM
      omega
    have f:G<=(u+v)/v:=(Nat.le_div_iff_mul_le hv).2 h1;rw[Nat.add_div_right _ hv] at f
    omega
theorem aT (b:Nat)(l:List Nat)(k:Nat):am b (l.take (k+1))=am b (l.take k)+b^k*l.getD k 0:=by
 rcases co k l.length with h|h
 ·exact aJ b h
 ·rw[I5 oM,I5 h]
  simp[pk h]
theorem fP {b:Nat}{l y:List Nat}{i c c' s X:Nat}(hi:i<l.length)(d:am b l+b^i*c=X+am b (y.take i))(e:s+b*c'=l.getD i 0+y.getD i 0+c) :
  am b (l.set i s)+b^(i+1)*c'=X+am b (y.take (i+1)):=by
 have h1:=ct b s hi;rw[aT,z1]
 generalize b^i=P at *
 generalize am b (l.set i s)=S at *
 have a:P*(s+b*c')=P*(l.getD i 0+y.getD i 0+c):=by rw[e]
 simp only[z7,<-z8] at a ⊢
 omega
theorem o7 {b:Nat}{l y:List Nat}{i c c' s X:Nat}(hi:i<l.length)(d:am b l+am b (y.take i)=X+b^i*c)(e:s+y.getD i 0+c=l.getD i 0+b*c') :
  am b (l.set i s)+am b (y.take (i+1))=X+b^(i+1)*c':=by
 have h1:=ct b s hi;rw[aT,z1]
 generalize b^i=P at *
 generalize am b (l.set i s)=S at *
 have a:P*(s+y.getD i 0+c)=P*(l.getD i 0+b*c'):=by rw[e]
 simp only[z7,<-z8] at a ⊢
 omega
theorem lm {b:Nat}{l y:List Nat}{k j m c c' s X:Nat}(hi:k+j<l.length)(h:am b l+b^(k+j)*c=X+b^k*(m*am b (y.take j)))(e:s+b*c'=l.getD (k+j) 0+m*y.getD j 0+c) :
  am b (l.set (k+j) s)+b^(k+(j+1))*c'=X+b^k*(m*am b (y.take (j+1))):=by
 have h1:=ct b s hi;rw[aT,<-sc,z1];have a:b^(k+j)=b^k*b^j:=A7 _ _ _;have d:b^(k+j)*(s+b*c')=b^(k+j)*(l.getD (k+j) 0+m*y.getD j 0+c):=by rw[e]
 have f:b^k*(m*(am b (y.take j)+b^j*y.getD j 0))=b^k*(m*am b (y.take j))+b^(k+j)*(m*y.getD j 0):=by
  rw[a,z7,z7,<-z8 m,z2 m (b^j),z8 (b^j),<-z8 (b^k) (b^j)]
 rw[f]
 generalize b^(k+j)=P at *
 generalize am b (l.set (k+j) s)=S at *
 generalize b^k*(m*am b (y.take j))=Y at *
 simp only[z7,<-z8] at d ⊢
 omega
theorem rR {b:Nat}{l y:List Nat}{k m c X:Nat}(hi:k+y.length<l.length)(a:am b l+b^(k+y.length)*c=X+b^k*(m*am b (y.take y.length)))(h0:l.getD (k+y.length) 0=0) :
  am b (l.set (k+y.length) c)=X+b^k*(m*am b y):=by
 have h1:=ct b c hi;rw[s1] at a
 rw[h0] at h1
 omega
theorem rE {b:Nat}{x:List Nat}{i X Y:Nat}(h:X=am b (x.take i)*Y):X+b^i*(x.getD i 0*Y)=am b (x.take (i+1))*Y:=by
 rw[aT,I4,h,z8]
theorem rN {b:Nat}{l:List Nat}{i d r a q X:Nat}(hi:i<l.length)(c:X=d*(b^(i+1)*am b (l.drop (i+1)))+(b^(i+1)*r+am b (l.take (i+1))))(e:r*b+l.getD i 0=d*q+a) :
  X=d*(b^i*am b ((l.set i q).drop i))+(b^i*a+am b ((l.set i q).take i)):=by
 have j:(l.set i q).take i=l.take i:=by rw[List.take_set_of_le (eb _)]
 have f:am b ((l.set i q).drop i)=q+b*am b (l.drop (i+1)):=by
  rw[eZ b (by simpa using hi),bB hi,if_pos rfl,List.drop_set_of_lt oM]
 rw[j,f,c,aJ b hi,z1];have k:b^i*(r*b+l.getD i 0)=b^i*(d*q+a):=by rw[e]
 have h:d*(b^i*(q+b*am b (l.drop (i+1))))=b^i*(d*q)+d*(b^i*b*am b (l.drop (i+1))):=by
  rw[z7,z7,<-z8 (b^i) b,Nat.mul_left_comm d (b^i) q]
 have o:b^i*b*r=b^i*(r*b):=by rw[z8,z2 b r]
 rw[h,o]
 simp only[z7] at k
 omega
theorem si {b:Nat}{u v:List Nat}{j i G c c' a bo' t s X:Nat}(hi:j+i<u.length)(d:am b u+b^j*(G*am b (v.take i))=X+b^(j+i)*(c+a))(e:t+b*c'=G*v.getD i 0+c)(l:s+t+a=u.getD (j+i) 0+b*bo') :
  am b (u.set (j+i) s)+b^j*(G*am b (v.take (i+1)))=X+b^(j+(i+1))*(c'+bo'):=by
 have h1:=ct b s hi;rw[aT,<-sc,z1];have h:b^(j+i)=b^j*b^i:=A7 _ _ _
 have k:b^j*(G*(am b (v.take i)+b^i*v.getD i 0))=b^j*(G*am b (v.take i))+b^(j+i)*(G*v.getD i 0):=by
  rw[h,z7,z7,<-z8 G,z2 G (b^i),z8 (b^i),<-z8 (b^j) (b^i)]
 rw[k];have o:b^(j+i)*(t+b*c')=b^(j+i)*(G*v.getD i 0+c):=by rw[e]
 have f:b^(j+i)*(s+t+a)=b^(j+i)*(u.getD (j+i) 0+b*bo'):=by rw[l]
 generalize b^(j+i)=P at *
 generalize am b (u.set (j+i) s)=S at *
 generalize b^j*(G*am b (v.take i))=Y at *
 simp only[z7,<-z8] at o f d ⊢
 omega
theorem vN {b:Nat}{u v:List Nat}{j G c d bo' s X:Nat}(hi:j+v.length<u.length)(a:am b u+b^j*(G*am b (v.take v.length))=X+b^(j+v.length)*(c+d))(e:s+c+d=u.getD (j+v.length) 0+b*bo') :
  am b (u.set (j+v.length) s)+b^j*(G*am b v)=X+b^(j+v.length+1)*bo':=by
 have h1:=ct b s hi;rw[s1] at a
 rw[z1];have f:b^(j+v.length)*(s+c+d)=b^(j+v.length)*(u.getD (j+v.length) 0+b*bo'):=by rw[e]
 generalize b^(j+v.length)=P at *
 generalize am b (u.set (j+v.length) s)=S at *
 generalize b^j*(G*am b v)=Y at *
 simp only[z7,<-z8] at f a ⊢
 omega
theorem sl {b:Nat}{u v:List Nat}{j i c c' s X:Nat}(hi:j+i<u.length)(a:am b u+b^(j+i)*c=X+b^j*am b (v.take i))(e:s+b*c'=u.getD (j+i) 0+v.getD i 0+c) :
  am b (u.set (j+i) s)+b^(j+(i+1))*c'=X+b^j*am b (v.take (i+1)):=by
 have:=lm (b:=b) (l:=u) (y:=v) (k:=j) (j:=i) (m:=1) (c:=c) (c':=c') (s:=s) (X:=X) hi (by rw[I6];exact a) (by rw[I6];exact e);rw[I6] at this
 exact this
theorem vP {b:Nat}{u v:List Nat}{j c c' s X:Nat}(hi:j+v.length<u.length)(a:am b u+b^(j+v.length)*c=X+b^j*am b (v.take v.length))(e:s+b*c'=u.getD (j+v.length) 0+c) :
  am b (u.set (j+v.length) s)+b^(j+v.length+1)*c'=X+b^j*am b v:=by
 have h1:=ct b s hi;rw[s1] at a
 rw[z1];have d:b^(j+v.length)*(s+b*c')=b^(j+v.length)*(u.getD (j+v.length) 0+c):=by rw[e]
 generalize b^(j+v.length)=P at *
 generalize am b (u.set (j+v.length) s)=S at *
 generalize b^j*am b v=Y at *
 simp only[z7,<-z8] at d a ⊢
 omega
def Above (u u0:List Nat)(k:Nat):Prop:=u.length=u0.length/\∀ i,k<=i->u.getD i 0=u0.getD i 0
theorem Above.refl (u:List Nat)(k:Nat):Above u u k:=⟨rfl,fun _ _=>rfl⟩
theorem Above.set {u a:List Nat}{k i x:Nat}(h:Above u a k)(hi:i<k)(c:i<u.length):Above (u.set i x) a k:=⟨by rw[List.length_set];exact h.1,fun j b=>by rw[bB c,if_neg oM];exact h.2 j b⟩
theorem ei {b:Nat}(j:0<b){u a:List Nat}{k:Nat}(h:Above u a k)(f:Dg b u)(c:Dg b a)(d:k<=u.length)(h0:am b a<b^k):am b u<b^k:=by
 have e:=bX b d;have h1:=bW (f.take k);rw[Ab,Am d] at h1
 have hz:am b (u.drop k)=0:=gx b (fun i=>by
  rw[bK,h.2 _ oM];exact (gJ b (l:=a) (k:=k) (m:=0) (by rw[<-h.1];exact d) j c h0).2 _ oM)
 rw[hz] at e
 omega
theorem fa {b n j R v c G f:Nat}(F:2<=b)(J:2<=n)(l:b^(n-1)<=v)(d:v<b^n)(H:R<b^(j+1)*v)(y:c<b^(j+n+1))(e:c+b^j*(G*v)=R+b^(j+n+1)*f)(x:f<=1)
    (D:R/(b^j*v)<=G/\G<=R/(b^j*v)+1) :
    (f=0->G=R/(b^j*v)/\c=R-b^j*(G*v)/\c<b^j*v/\b^j*(G*v)<=R)/\(f=1->G=R/(b^j*v)+1/\c+b^j*v=(R-b^j*((G-1)*v))+b^(j+n+1)/\R-b^j*((G-1)*v)<b^j*v/\b^j*((G-1)*v)<=R):=by
  have u:0<b^j:=F2 oM;have o:0<v:=ep (F2 oM) l;have z:0<b^j*v:=Nat.mul_pos u o;have k:∀ g,b^j*(g*v)=g*(b^j*v):=fun g=>by rw[<-z8,z2 (b^j) g,z8]
  have i:=I7 R (b^j*v);have B:=va R z;rw[z2] at i
  rw[k] at e
  have p:b^j*v<b^(j+n+1):=by
    have h1:b^j*v<b^j*b^n:=I0 d u;rw[<-A7] at h1
    have I:b^(j+n)<=b^(j+n+1):=A4 oM oM
    omega
  have C:R<b^(j+n+1):=by
    have h1:b^(j+1)*v<b^(j+1)*b^n:=I0 d (F2 oM);rw[<-A7,show j+1+n=j+n+1 by omega] at h1
    omega
  generalize b^(j+n+1)=T at *
  generalize hWe:b^j*v=W at *
  generalize hQ:R/W=Q at *
  refine ⟨fun h=>?_,fun h=>?_⟩
  . subst h
    rw[k]
    have a:G=Q:=by
      rcases co Q G with h1|h1
      . exfalso
        have:G=Q+1:=by omega
        subst this;rw[I4] at e
        omega
      . omega
    subst a
    omega
  . subst h
    have a:G=Q+1:=by
      rcases co Q G with h1|h1
      . omega
      . exfalso
        have:G=Q:=by omega
        subst this
        omega
    subst a;rw[k,Nat.add_sub_cancel];rw[I4] at e
    omega
theorem mQ {b n j G:Nat}{u v:List Nat}(O:2<=b)(S:2<=n)(K:v.length=n)(h:Dg b v)(x:Dg b u)(hu:j+n<u.length)(H:v.getD (n-1) 0≠0)(C:am b u<b^(j+1)*am b v)
  (M:G*(v.getD (n-1) 0*b+v.getD (n-2) 0)<=u.getD (j+n) 0*b*b+u.getD (j+n-1) 0*b+u.getD (j+n-2) 0)
  (p:G+1=b\/u.getD (j+n) 0*b*b+u.getD (j+n-1) 0*b+u.getD (j+n-2) 0<(G+1)*(v.getD (n-1) 0*b+v.getD (n-2) 0))(o:G<b) :
  am b u/(b^j*am b v)<=G/\G<=am b u/(b^j*am b v)+1:=by
 have d:=bW h;rw[K] at d
 have D:0<b^(j+n-2):=F2 oM
 have z:am b u<b^(j+n-2+3):=by
  have h1:b^(j+1)*am b v<b^(j+1)*b^n:=I0 d (F2 oM);rw[<-A7,show j+1+n=j+n-2+3 by omega] at h1
  omega
 have c:∀ {l:List Nat} {k:Nat},k+3<=l.length->am b ((l.drop k).take 3)=l.getD (k+2) 0*b*b+l.getD (k+1) 0*b+l.getD k 0:=fun {l k} L=>by
  rw[aT,aT,aT,bK,bK,bK]
  simp[am,z1]
  rw[z2 b (l[k+1]?.getD 0),z2 (b*b) (l[k+2]?.getD 0),z8]
  omega
 have two:∀ {l:List Nat} {k:Nat},k+2<=l.length->am b ((l.drop k).take 2)=l.getD (k+1) 0*b+l.getD k 0:=fun {l k} L=>by
  rw[aT,aT,bK,bK]
  simp[am]
  rw[z2 b (l[k+1]?.getD 0)]
  omega
 have I:=(gJ b (l:=u) (k:=j+n-2) (m:=3) oM oM x z).1;have B:=(gJ b (l:=v) (k:=n-2) (m:=2) oM oM h (by rw[show n-2+2=n by omega];exact d)).1;rw[c oM,show j+n-2+2=j+n by omega,show j+n-2+1=j+n-1 by omega] at I
 rw[two oM,show n-2+1=n-1 by omega] at B
 have a:b^(j+n-2)=b^j*b^(n-2):=by rw[<-A7];congr 1;omega
 have y:0<b^(n-2):=F2 oM;have i:=I7 (am b u) (b^(j+n-2));have F:=va (am b u) D;have f:=I7 (am b v) (b^(n-2));have J:=va (am b v) y;rw[I] at i
 rw[B] at f
 have e:b^(n-1)<=am b v:=by
  have:=aJ b (l:=v) (k:=n-1) oM;rw[show n-1+1=v.length by omega,s1] at this
  have Q:b^(n-1)*1<=b^(n-1)*v.getD (n-1) 0:=A8 _ oM
  omega
 generalize hU:u.getD (j+n) 0*b*b+u.getD (j+n-1) 0*b+u.getD (j+n-2) 0=U at *
 generalize hV:v.getD (n-1) 0*b+v.getD (n-2) 0=V at *
 generalize am b u%b^(j+n-2)=mu at *
 generalize am b v%b^(n-2)=mv at *
 refine ww (b:=b) (P:=b^(j+n-2)) (U:=U) (V:=V) D ?_ ?_ ?_ ?_ ?_ ?_ M p o
 ·rw[z2];omega
 ·rw[I4,I6,z2 U];omega
 ·rw[a,z2 V,z8]
  exact A8 _ oM
 ·rw[a,z2 (V+1),z8,z7,I1]
  exact I0 oM (F2 oM)
 ·rw[a,z2 b (b^j*b^(n-2)),z8]
  refine A8 _ ?_;rw[<-z1,show (n-2).succ=n-1 by omega];exact e
 ·rw[z1] at C
  rw[<-z8,z2 b (b^j)];exact C
def aj (s:ByteArray)(i:Nat):Nat:=(s.data.toList.getD i 0).toNat
theorem bh (s:ByteArray)(i:Nat):aj s i<256:=UInt8.toNat_lt _
def wv (s:ByteArray):Nat:=aj s 0+aj s 1*256+aj s 2*65536+aj s 3*16777216+aj s 4*4294967296+aj s 5*1099511627776+aj s 6*281474976710656+aj s 7*72057594037927936
theorem CH (s:ByteArray):wv s<18446744073709551616:=by
 have h0:=bh s 0;have h1:=bh s 1;have c:=bh s 2;have f:=bh s 3;have e:=bh s 4;have d:=bh s 5;have b:=bh s 6;have a:=bh s 7
 unfold wv;omega
section ops
variable {P:Program}{Γ:ck}{o:Oper}
theorem aR {tx:TypeId}{x i:Operand}{k:IntKind}{s:ByteArray}{n:Nat}{j:Int}(e:o.op=.index tx x i)(d:ev Γ x=.string s)(hi:ev Γ i=.int k j)(hu:P.underlying tx=some .string)(c:j=(n:Int))(b:n<s.size)(w:World) :
  (execOp (ev Γ) o).run P w=.ok (.value (.int .u8 (aj s n:Nat))) w:=by
 unfold execOp;simp only[e];rw[d,hi,c]
 have h0:(0:Int)<=(n:Int):=Int.natCast_nonneg n;have a:n<s.data.size:=b
 have h1:s[n]?=some (s.data.toList.getD n 0):=by
  simp[b,a,ByteArray.getElem_eq_getElem_data]
 simp[Instr.index,asIntOf,run_underlying hu,h1,aj,Result.andThen]
theorem fv {tx:TypeId}{x i:Operand}{k:IntKind}{s:ByteArray}{n:Nat}{j:Int}(c:o.op=.slice tx x (some i) none none)(b:ev Γ x=.string s)(hi:ev Γ i=.int k j)(hu:P.underlying tx=some .string)(a:j=(n:Int))(d:n<=s.size)(w:World) :
  (execOp (ev Γ) o).run P w=.ok (.value (.string (s.extract n s.size))) w:=by
 unfold execOp;simp only[c]
 subst a;have h0:(n:Int)<=(s.size:Int):=by omega
 simp[Instr.sliceAt,b,hi,Instr.slice,run_underlying hu,Instr.sliceBounds,Instr.sliceBound,asIntOf,Result.andThen,h0,d]
theorem gA {t u:TypeId}{x y:Operand}{ky:IntKind}{a n:Nat}(c:o.op=.binOp .shl t x y u)(b:ev Γ x=.int .u64 (a:Int))(i:ev Γ y=.int ky (n:Int))(w:World) :
    (execOp (ev Γ) o).run P w=.ok (.value (.int .u64 ((a*2^n%18446744073709551616:Nat):Int))) w:=by
  unfold execOp;simp only[c];rw[b,i]
  have hz:¬((n:Int)<0):=by omega
  have e:IntKind.wrap .u64 ((a:Int)*2^(min n IntKind.u64.bits))=((a*2^n%18446744073709551616:Nat):Int):=by
    have f:(a:Int)*2^(min n IntKind.u64.bits)=((a*2^(min n 64):Nat):Int):=by
      rw[show IntKind.u64.bits=64 from rfl];push_cast;rfl
    rw[f,xy]
    rcases co n 64 with h|h
    . rw[Am oM]
    . rw[I8 h]
      have d:(2:Nat)^n=18446744073709551616*2^(n-64):=by
        rw[show (18446744073709551616:Nat)=2^64 from rfl,<-A7];congr 1;omega
      have j:a*2^n%18446744073709551616=0:=by rw[d,<-z8,z2 a,z8,Nat.mul_mod_right]
      rw[j,show (2:Nat)^64=18446744073709551616 from rfl,HA]
  simp[binOp,eqGuard,Op.shift,Result.andThen,hz,e]
theorem fO {t u:TypeId}{x y:Operand}{ky:IntKind}{a n:Nat}(c:o.op=.binOp .shr t x y u)(d:ev Γ x=.int .u64 (a:Int))(i:ev Γ y=.int ky (n:Int))(ha:a<18446744073709551616)(w:World) :
  (execOp (ev Γ) o).run P w=.ok (.value (.int .u64 ((a/2^n:Nat):Int))) w:=by
 unfold execOp;simp only[c];rw[d,i]
 have hz:¬((n:Int)<0):=by omega
 have b:(0:Int)<=2^(min n IntKind.u64.bits):=Int.pow_nonneg kD
 have e:(a:Int)/2^(min n IntKind.u64.bits)=((a/2^n:Nat):Int):=by
  have f:(a:Int)/2^(min n IntKind.u64.bits)=((a/2^(min n 64):Nat):Int):=by
   rw[show IntKind.u64.bits=64 from rfl];push_cast;rfl
  rw[f]
  rcases co n 64 with h|h
  ·rw[Am oM]
  ·have h1:(2:Nat)^64<=2^n:=A4 oM h
   rw[I8 h,zY oM,zY oM]
 simp[binOp,eqGuard,Op.shift,Result.andThen,hz,zh _ b,e]
theorem rg {t u:TypeId}{x y:Operand}{a:Nat}{m:Int}(p:Nat)(d:o.op=.binOp .and t x y u)(c:ev Γ x=.int .u64 (a:Int))(f:ev Γ y=.int .u64 m)(ha:a<18446744073709551616)(b:p<=64/\m=((2^p-1:Nat):Int))(w:World) :
  (execOp (ev Γ) o).run P w=.ok (.value (.int .u64 ((a%2^p:Nat):Int))) w:=by
 unfold execOp;simp only[d];rw[c,f,b.2]
 have h:(2^p-1:Nat)<2^64:=by
  have:(2:Nat)^p<=2^64:=A4 oM b.1;have:=A0 p
  omega
 have e:bits .and .u64 (a:Int) ((2^p-1:Nat):Int)=((a%2^p:Nat):Int):=by
  unfold bits
  have h1:(BitVec.ofInt 64 (a:Int) &&& BitVec.ofInt 64 ((2^p-1:Nat):Int)).toNat=a%2^p:=by
   rw[BitVec.toNat_and,<-Nat.and_two_pow_sub_one_eq_mod]
   congr 1
   ·simp[BitVec.toNat_ofInt];omega
   ·rw[BitVec.toNat_ofInt,<-Int.natCast_emod,vb,u9 h]
  show IntKind.wrap .u64 (((BitVec.ofInt 64 (a:Int) &&& BitVec.ofInt 64 ((2^p-1:Nat):Int)).toNat:Nat):Int)=_
  rw[h1,xy];have:a%2^p<=a:=Nat.mod_le _ _;rw[u9 oM]
 simp[binOp,eqGuard,Result.andThen,intBits_and,e]
end ops
theorem xA (a b:Nat):IntKind.wrap .u64 ((a:Int)+(b:Int))=(((a+b)%18446744073709551616:Nat):Int):=by rw[IntKind.wrap_u64];omega
theorem kb (a b:Nat)(h:b<=18446744073709551616):IntKind.wrap .u64 ((a:Int)-(b:Int))=(((a+(18446744073709551616-b))%18446744073709551616:Nat):Int):=by rw[IntKind.wrap_u64];omega
theorem jg (a b:Nat):IntKind.wrap .u64 ((a:Int)*(b:Int))=((a*b%18446744073709551616:Nat):Int):=by
 rw[<-Int.natCast_mul,xy]
theorem d5 (a b:Nat)(h:a*b<18446744073709551616):IntKind.wrap .u64 ((a:Int)*(b:Int))=((a*b:Nat):Int):=by rw[jg,u9 h]
theorem fh (a b:Nat)(h:b<=a)(ha:a<18446744073709551616):IntKind.wrap .u64 ((a:Int)-(b:Int))=((a-b:Nat):Int):=by rw[IntKind.wrap_u64];omega
theorem dj (a b:Nat)(h:a+b<18446744073709551616):IntKind.wrap .u64 ((a:Int)+(b:Int))=((a+b:Nat):Int):=by rw[IntKind.wrap_u64];omega
theorem CJ (a b:Nat)(h:a+b<4294967296):IntKind.wrap .u32 ((a:Int)+(b:Int))=((a+b:Nat):Int):=by rw[IntKind.wrap_u32];omega
theorem iL {s:ByteArray}(h:s=⟨#[]⟩):(s.toList == (⟨#[]⟩:ByteArray).toList)=true:=by rw[h,Lib.toList_data];rfl
theorem mi {s:ByteArray}(h:s.size≠0):s.data.toList≠[]:=fun e=>h (by
 have:s.data.size=s.data.toList.length:=by simp
 show s.data.size=0
 rw[this,e];rfl)
theorem gK {s:ByteArray}(h:s.size≠0):(s.toList == (⟨#[]⟩:ByteArray).toList)=false:=by
 rw[Lib.toList_data,Lib.toList_data];have:=mi h;cases e:s.data.toList with
 | nil=>exact absurd e this
 | cons a l=>rfl
theorem wt {s:ByteArray}(h:s=⟨#[]⟩):(!(s.toList == (⟨#[]⟩:ByteArray).toList))=false:=by rw[iL h];rfl
theorem xd {s:ByteArray}(h:s.size≠0):(!(s.toList == (⟨#[]⟩:ByteArray).toList))=true:=by rw[gK h];rfl
theorem dd (s:ByteArray)(k i:Nat):aj (s.extract k s.size) i=aj s (k+i):=by
 unfold aj
 rw[Lib.extract_to_end]
 simp only[B1,ri]
def kl (s t:ByteArray):Bool:=s.toList == t.toList
def j7 (s t:ByteArray):Bool:=!(s.toList == t.toList)
theorem gu {s t:ByteArray}(h:kl s t=true):s=t:=by
 have e:=eq_of_beq (show (s.toList == t.toList)=true from h);rw[Lib.toList_data,Lib.toList_data] at e
 cases s;cases t;congr 1;exact Array.toList_inj.1 e
theorem gh {s t:ByteArray}(h:kl s t=false):¬s=t:=fun e=>by
 subst e;have:kl s s=true:=beq_self_eq_true _;rw[this] at h;cases h
theorem kG {s t:ByteArray}(h:j7 s t=true):¬s=t:=gh (by unfold j7 at h;unfold kl;cases e:(s.toList == t.toList)<;>rw[e] at h<;>first|rfl|cases h)
theorem ko {s t:ByteArray}(h:j7 s t=false):s=t:=gu (by unfold j7 at h;unfold kl;cases e:(s.toList == t.toList)<;>rw[e] at h<;>first|rfl|cases h)
def wds (n:Nat):List Nat:=f7 18446744073709551616 n
def aA (l:List Nat):Nat:=am 18446744073709551616 l
def Wd (l:List Nat):Prop:=Dg 18446744073709551616 l
theorem aZ (n:Nat):aA (wds n)=n:=jj kD n
theorem Wd.wds (n:Nat):Wd (wds n):=xp kD n
theorem Wd.get {l:List Nat}(h:Wd l)(k:Nat):l.getD k 0<18446744073709551616:=Dg.getD h kD k
theorem wM {p : Prop} (h : p := by first | omega | exact Wd.get (by assumption) _ | exact CH _) : p := h
theorem nB (n k:Nat):(wds n).getD k 0<18446744073709551616:=(Wd.wds n).get k
end Go.Proofs.YtbbhdbhkaacnnaaGreatDoor
