/- Laws of this claim, part 1. -/
import Derived.Below
import Derived.WalkKit
import Derived.Lib.Hide
import Derived.Deep.Draws
import Derived.Orders
import Derived.OrdersHeld
import Derived.KernelRfl
import Derived.Laws.MakeOwn
import Derived.Maps.AppendAt
import Derived.Test.YtffiihfdjnmhpaaGreatDoorProg
import Derived.Lib.IndexBytes
import Derived.Lib.Builder
import Derived.Lib.UnsafeStr
import Derived.Test.YtffiihfdjnmhpaaGreatDoorShelf
import Derived.Shelf.Spec.BitsCarry
import Derived.Lib.BitFns
import Derived.Laws.CopyRow
import Derived.Shelf.Strings.Builder1
import Derived.Shelf.Strings.Builder2
import Derived.Lib.TrailingZeros
import Derived.Laws.Bits64b
import Derived.Lib.ItoaNum
import Derived.WideMake
import Derived.ArgAppend
import Derived.Lib.ItoaMem
import Derived.Lib.IndexLaws
import Derived.DeepKeys5
import Derived.StringKeys
import Derived.Laws.IdiomStrings
import Derived.Deep.Upon
import Derived.Lib.OthersKept
import Derived.Shelf.Strings.BuilderK
import Derived.Lib.Walk
import Derived.BigCall
import Derived.BigGuard
import Derived.Shelf.SortM.Walk0sIn
set_option maxRecDepth 100000
set_option maxHeartbeats 4000000
namespace Go.Proofs.YtffiihfdjnmhpaaGreatDoor
open _root_.Array renaming all_eq_true_iff_forall_mem -> hO, any_eq_true -> la, getD -> e4, getElem?_append_left -> et, getElem?_append_right -> ey, getElem?_eq_getElem -> er, getElem?_eq_none -> ea, getElem?_eq_some_iff -> g3, getElem?_extract -> ez, getElem?_push_lt -> eq, getElem?_push_size -> e0, getElem?_replicate -> um, getElem?_setIfInBounds_ne -> g6, getElem?_setIfInBounds_self_of_lt -> u9, getElem_mem -> l4, mapM_eq_mapM_toList -> q8, replicate -> ow, setIfInBounds_comm -> e6
open Bool renaming and_eq_true -> hI, false_eq_true -> mz, not_true -> nn, or_eq_true -> i3
open Int renaming fdiv_eq_ediv_of_nonneg -> y4, tdiv -> y5, toNat_natCast -> ub
open List renaming all_cons -> pR, all_eq_true -> hS, any_eq_true -> m3, cons_append -> zF, drop_sublist -> s9, drop_zero -> rk, eq_nil_of_length_eq_zero -> s1, eraseIdx_sublist -> yh, ext_getElem? -> pk, flatMap_cons -> rh, getD_cons_succ -> sc, getD_eq_getElem?_getD -> A6, getElem?_append_left -> p0, getElem?_append_right -> ql, getElem?_drop -> p2, getElem?_eq_none -> o1, getElem?_set_ne -> pr, getElem?_set_self -> pn, getElem?_take_of_lt -> p1, getElem_eraseIdx -> vb, getElem_inj -> pw, getElem_map -> pv, getElem_mem -> e5, getElem_set_ne -> yz, getElem_set_self -> yY, length_append -> sy, length_eraseIdx_of_lt -> vl, length_take -> z1, lookup_cons -> g4, mapM_cons -> q0, map_cons -> un, map_set -> pf, mem_append -> fo, mem_cons -> gq, mem_iff_getElem -> pt, mem_map -> ga, mem_of_mem_drop -> s6, mem_of_mem_eraseIdx -> wl, mem_of_mem_take -> Az, mem_range -> i1, mem_singleton -> n1, nodup_cons -> gs, pairwise_iff_getElem -> yy, perm_middle -> ge, range -> i0, range' -> oi, range'_succ -> ov, range_eq_range' -> o0, replicate -> ta, replicate_succ -> tu, set_cons_succ -> s3, take_add_one -> zZ, take_append_of_le_length -> rp, take_length -> r9, take_of_length_le -> I7
open Nat renaming add_assoc -> rc, add_comm -> sw, add_mul -> I6, add_mul_div_left -> I5, add_zero -> ri, div_add_mod -> I9, div_div_eq_div_mul -> Bs, div_eq_of_lt -> y9, div_le_self -> y7, div_lt_of_lt_mul -> zh, div_lt_self -> H1, eq_zero_or_pos -> va, le_of_ble_eq_true -> y3, le_refl -> eb, le_trans -> ed, log2_eq_iff -> z7, lt_of_le_of_lt -> y6, lt_of_lt_of_le -> ep, lt_or_ge -> co, min_eq_left -> z2, min_eq_right -> Ja, mod_eq_of_lt -> tv, mod_lt -> ua, mul_add -> zT, mul_assoc -> zY, mul_comm -> zz, mul_le_mul_left -> Ao, mul_le_mul_right -> s5, mul_lt_mul_of_pos_left -> F2, mul_mod_left -> A9, mul_one -> HA, mul_zero -> z6, one_mul -> I8, or_lt_two_pow -> y8, pow_add -> Am, pow_le_pow_right -> Aa, pow_mul -> A4, pow_pos -> A8, pow_succ -> zy, pow_succ' -> Ab, strongRecOn -> g2, sub_self -> o2, succ_mul -> sr, two_pow_pos -> z8, zero_add -> s4, zero_mul -> sA
open Option renaming isSome_iff_exists -> hN, map_eq_none_iff -> yZ, map_eq_some_iff -> pa, map_none -> ul, map_some -> pc
abbrev Z9:=Option Addr
theorem kD {p : Prop} (h : p := by decide) : p := h
theorem oM {p : Prop} (h : p := by omega) : p := h
theorem kR {p : Prop} (h : p := by kernel_rfl) : p := h
theorem aM {p : Prop} (h : p := by assumption) : p := h
theorem ia {p : Prop} (h : p := by first | assumption | omega) : p := h
theorem sM {p : Prop} (h : p := by first | omega | (simp; done) | (simp; omega)) : p := h
theorem oT {p : Prop} [Decidable p] (h : decide p = true) : p := of_decide_eq_true h
theorem oF {p : Prop} [Decidable p] (h : decide p = false) : ¬p := of_decide_eq_false h
theorem dT {p : Prop} [Decidable p] (h : p) : decide p = true /\ p := ⟨decide_eq_true h, h⟩
theorem dF {p : Prop} [Decidable p] (h : ¬p) : decide p = false /\ ¬p := ⟨decide_eq_false h, h⟩
open Go.RowKit
abbrev pB (b:Nat):Value:=.pointer (some ⟨b,0,none⟩)
abbrev qP (b o:Nat):Value:=.pointer (some ⟨b,o,none⟩)
abbrev qT:Value:=.bool true
abbrev qF:Value:=.bool false
abbrev qS (A:Z9)(n c:Nat):Value:=.slice A n c
abbrev sZ:Value:=.slice none 0 0
abbrev eS:Value:=.string ⟨#[]⟩
abbrev sB (b:Nat):Z9:=some ⟨b,0,none⟩
abbrev iV (n:Int):Value:=.int .i64 n
abbrev uV (n:Int):Value:=.int .u64 n
abbrev a1:List Value:=[qF,uV 0,eS,uV 0,eS]
abbrev a2:List Value:=[iV 0,iV 0,qF,uV 0,eS,uV 0,eS,eS,sZ]
abbrev ca:Value:=.agg #[qF,uV 0,eS,uV 0,eS]
abbrev uW (n:Int):Value:=.int .u32 n
abbrev nV (n:Nat):Value:=.int .i64 (n:Int)
abbrev mV (n:Nat):Value:=.int .u64 (n:Int)
abbrev mW (n:Nat):Value:=.int .u32 (n:Int)
def Ext (w w':World):Prop:=Below w.heap.size w w'
theorem Ext.refl (w:World):Ext w w:=Below.refl _ _
theorem Ext.trans {a b c:World}(h:Ext a b)(k:Ext b c):Ext a c:=Below.trans h (Below.mono k h.size)
theorem Ext.alloc {a w:World}(h:Ext a w)(o:Obj):Ext a (w.alloc o):=Below.alloc h h.size o
theorem Ext.drew {a w:World}(h:Ext a w):Ext a w.drew:=Below.drew h
theorem Ext.size {a w:World}(h:Ext a w):a.heap.size<=w.heap.size:=Below.size h
theorem Ext.cell {a w:World}(h:Ext a w){p:Addr}(b:p.block<a.heap.size):w.cell? p=a.cell? p:=Below.cell h b
theorem Ext.some {a w:World}(h:Ext a w){p:Addr}{v:Value}(b:a.cell? p=.some v):w.cell? p=.some v:=by
 rcases co p.block a.heap.size with hl|hl
 ·rw[h.cell hl];exact b
 ·unfold World.cell? at b
  rw[ea hl] at b
  cases b
def au (z:Int):Bool:=decide (z<0)
def ab (z:Int):Nat:=z.natAbs
def qd (q:Rat):Nat:=if q.den=1 then 0 else q.den
def bD (neg:Bool)(a:Nat):Int:=if neg then -(a:Int) else a
theorem js (b:Bool)(a:Nat):au (bD b a)=(b && decide (0<a)):=by cases b<;>simp[au,bD]<;>omega
theorem cd (b:Bool)(a:Nat):ab (bD b a)=a:=by cases b<;>simp[ab,bD]
theorem rZ (z:Int):bD (!au z) (ab z) = -z:=by unfold bD au ab;by_cases h:z<0<;>simp[h]<;>omega
theorem bT {z:Int}(h:au z=true):z<0:=by simpa [au] using h
theorem bK {z:Int}(h:au z=false):0<=z:=by simpa [au] using h
abbrev Hp:=Array Obj
def junk:Obj:=.cells #[] 0 (0,0)
structure G (w:World) (h:Hp):Prop where
  size:w.heap.size=h.size
  blk:∀ b:Nat,h[b]?=w.heap[b]?\/h[b]?=some junk
structure Gr (h h':Hp):Prop where
  size:h.size<=h'.size
  blk:∀ b:Nat,b<h.size->h'[b]?=h[b]?
structure Up (w:World) (h:Hp) (w':World) (h':Hp):Prop where
  ext:Ext w w'
  gr:Gr h h'
  g:G w' h'
theorem Gr.refl (h:Hp):Gr h h:=⟨eb _,fun _ _=>rfl⟩
theorem Gr.trans {a b c:Hp}(h:Gr a b)(k:Gr b c):Gr a c :=
 ⟨ed h.size k.size,fun x d=>(k.blk x (ep d h.size)).trans (h.blk x d)⟩
theorem Gr.push (h:Hp)(o:Obj):Gr h (h.push o) :=
 ⟨by simp,fun b a=>by rw[eq a];exact (er a).symm⟩
theorem Up.refl {w:World}{h:Hp}(g:G w h):Up w h w h:=⟨Ext.refl _,Gr.refl _,g⟩
theorem Up.trans {w w1 w2:World}{h h1 c:Hp}(a:Up w h w1 h1)(b:Up w1 h1 w2 c):Up w h w2 c:=⟨a.ext.trans b.ext,a.gr.trans b.gr,b.g⟩
theorem G.drew {w:World}{h:Hp}(g:G w h):G w.drew h:=⟨g.size,g.blk⟩
theorem Up.drew {w w1:World}{h h1:Hp}(a:Up w h w1 h1):Up w h w1.drew h1:=⟨a.ext.drew,a.gr,a.g.drew⟩
theorem G.lift {w w':World}{h:Hp}(g:G w h)(x:Ext w w'):∃ c,Up w h w' c:=by
 have d:=x.size;have f:=g.size;refine ⟨h++w'.heap.extract h.size w'.heap.size,x,⟨by simp,fun b a=>et a⟩,⟨by simp;omega,fun b=>?_⟩⟩
 rcases co b h.size with a|a
 ·rw[et a]
  have e:=Below.block x b oM
  rcases g.blk b with h1|h1
  ·exact .inl (h1.trans e.symm)
  ·exact .inr h1
 ·left
  rw[ey a,ez]
  by_cases hl:b<w'.heap.size
  ·rw[if_pos oM];congr 1;omega
  ·rw[if_neg oM,ea oM]
theorem dw (w:World)(o:Obj):(w.alloc o).heap=w.heap.push o:=rfl
theorem Up.allocAny {w:World}{h:Hp}(g:G w h)(o o':Obj)(a:o'=o\/o'=junk):Up w h (w.alloc o) (h.push o'):=by
 refine ⟨(Ext.refl _).alloc _,Gr.push _ _,⟨by rw[dw];simp[g.size],fun b=>?_⟩⟩;rw[dw];have e:=g.size
 rcases Nat.lt_trichotomy b h.size with hb|hb|hb
 ·rw[eq hb,eq oM]
  have:=g.blk b
  rwa [er hb,er oM] at this
 ·subst hb
  rw[e0];have:(w.heap.push o)[h.size]?=some o:=by rw[<-e];exact e0
  rw[this]
  rcases a with rfl|rfl
  ·exact .inl rfl
  ·exact .inr rfl
 ·left
  rw[ea (by simp;omega),ea (by simp;omega)]
structure Mo (M:List Nat) (w w':World):Prop where
  os:w'.os=w.os
  tape:w'.tape=w.tape
  output:w'.output=w.output
  size:w.heap.size<=w'.heap.size
  blk:∀ b,b<w.heap.size->b ∉ M->w'.heap[b]?=w.heap[b]?
theorem Mo.refl (M:List Nat)(w:World):Mo M w w:=⟨rfl,rfl,rfl,eb _,fun _ _ _=>rfl⟩
theorem Mo.trans {M:List Nat}{a b c:World}(h:Mo M a b)(k:Mo M b c):Mo M a c :=
 ⟨k.os.trans h.os,k.tape.trans h.tape,k.output.trans h.output,ed h.size k.size,fun x e d=>(k.blk x (ep e h.size) d).trans (h.blk x e d)⟩
theorem Ext.mo {a b:World}(h:Ext a b)(M:List Nat):Mo M a b:=⟨h.os,h.tape,h.output,h.size,fun x c _=>Below.block h x c⟩
theorem Mo.ext {a b:World}(h:Mo [] a b):Ext a b:=⟨h.os,h.tape,h.output,h.size,fun x c=>h.blk x c (by simp)⟩
structure UpM (M:List Nat) (w:World) (h:Hp) (w':World) (h':Hp):Prop where
  mo:Mo M w w'
  gr:Gr h h'
  g:G w' h'
theorem Up.m {w w':World}{h a:Hp}(u:Up w h w' a)(M:List Nat):UpM M w h w' a:=⟨u.ext.mo M,u.gr,u.g⟩
theorem UpM.refl {M:List Nat}{w:World}{h:Hp}(g:G w h):UpM M w h w h:=⟨Mo.refl _ _,Gr.refl _,g⟩
theorem UpM.trans {M:List Nat}{w w1 w2:World}{h h1 c:Hp}(a:UpM M w h w1 h1)(b:UpM M w1 h1 w2 c):UpM M w h w2 c:=⟨a.mo.trans b.mo,a.gr.trans b.gr,b.g⟩
theorem UpM.up {w w':World}{h a:Hp}(u:UpM [] w h w' a):Up w h w' a:=⟨u.mo.ext,u.gr,u.g⟩
structure Ms where
  l:List Nat
  z:Option (Nat × List Nat)
def Tl (M:Ms)(w w':World):Prop:=∀ K bs,M.z=some (K,bs)->w.heap.size<=w'.heap.size/\∀ b,b<K->b ∉ bs->w'.heap[b]?=w.heap[b]?
theorem Tl.refl (M:Ms)(w:World):Tl M w w:=fun _ _ _=>⟨eb _,fun _ _ _=>rfl⟩
theorem Tl.none {M:Ms}(h:M.z=none)(w w':World):Tl M w w':=fun _ _ e=>by rw[h] at e;cases e
def Rl (M:Ms)(k0 i:Nat)(w w':World):Prop:=(i<k0->Mo M.l w w')/\(k0<=i->Tl M w w')
theorem Rl.refl (M:Ms)(k0 i:Nat)(w:World):Rl M k0 i w w:=⟨fun _=>Mo.refl _ _,fun _=>Tl.refl _ _⟩
theorem Rl.mo {M:Ms}{k0 i:Nat}{w w':World}(h:i<k0)(m:Mo M.l w w'):Rl M k0 i w w':=⟨fun _=>m,fun a=>absurd a oM⟩
theorem Rl.tl {M:Ms}{k0 i:Nat}{w w':World}(h:k0<=i)(m:Tl M w w'):Rl M k0 i w w':=⟨fun a=>absurd a oM,fun _=>m⟩
section region
variable (M:Ms)(P:Program)(ops:Array Oper)(Q:Exit->Act->World->Prop)(k0:Nat)
def oo:Nat->Array Bool->Act->World->Prop
  | 0,L,a,w=>Region.ready .any ops L=[]/\Q .normal a w
  | n + 1,L,a,w=>(Region.ready .any ops L=[]->Q .normal a w) /\
      ∀ i∈Region.ready .any ops L,wpOp P ops Q i (fun a' w'=>Rl M k0 i w w'/\oo n (L.setIfInBounds i true) a' w') a w
theorem kz:∀ (n:Nat) (L:Array Bool) (a:Act) (w:World),oo M P ops Q k0 n L a w->wpAny P .any ops Q n L a w
 | 0,_,_,_,h=>h
 | n+1,_,_,_,h=>⟨h.1,fun i hi=>wpOp_mono (fun a' w' h'=>kz n _ a' w' h'.2) (h.2 i hi)⟩
def rem (L:Array Bool):Nat:=L.toList.count false
def A (L:Array Bool)(a:Act)(w:World):Prop:=oo M P ops Q k0 (rem L) L a w
variable {M P ops Q k0}
theorem ET {L:Array Bool}{i:Nat}(h:L.getD i true=false):∃ hi:i<L.size,L[i]=false:=by
 rcases co i L.size with hi|hi
 ·exact ⟨hi,by simpa [e4,hi] using h⟩
 ·simp[e4,Nat.not_lt.2 hi] at h
theorem BD {L:Array Bool}{i:Nat}(h:L.getD i true=false):rem L=rem (L.setIfInBounds i true)+1:=by
 obtain ⟨hi,e⟩:=ET h
 unfold rem
 rw[Array.toList_setIfInBounds,List.count_set (by simpa using hi)];have a:L.toList[i]'(by simpa using hi)=false:=by simpa using e
 have b:0<L.toList.count false:=List.count_pos_iff.2 (by rw[<-a];exact e5 _);rw[a,if_pos (by rfl),if_neg kD]
 omega
theorem d6 {L:Array Bool}{i:Nat}(h:i∈Region.ready .any ops L):rem L=rem (L.setIfInBounds i true)+1:=BD (mem_ready.1 h).1
theorem A.intro {L:Array Bool}{a:Act}{w:World}(h0:Region.ready .any ops L=[]->Q .normal a w)
    (h1:∀ i∈Region.ready .any ops L,wpOp P ops Q i (fun a' w'=>Rl M k0 i w w'/\A M P ops Q k0 (L.setIfInBounds i true) a' w') a w):A M P ops Q k0 L a w:=by
  unfold A
  cases d:rem L with
  | zero =>
    have hr:Region.ready .any ops L=[]:=by
      cases hr:Region.ready .any ops L with
      | nil=>rfl
      | cons i l =>
        have:=d6 (ops:=ops) (L:=L) (i:=i) (by rw[hr];simp)
        omega
    exact ⟨hr,h0 hr⟩
  | succ n =>
    refine ⟨h0,fun i hi=>?_⟩;have e:=d6 hi;have b:=h1 i hi
    unfold A at b
    have c:rem (L.setIfInBounds i true)=n:=by omega
    rw[c] at b
    exact b
theorem A.done {L:Array Bool}{a:Act}{w:World}(hr:(Region.ready .any ops L).isEmpty=true)(h:Q .normal a w):A M P ops Q k0 L a w:=by
 have b:Region.ready .any ops L=[]:=by simpa using hr
 exact A.intro (fun _=>h) (fun i hi=>by rw[b] at hi;cases hi)
theorem lc {i:Nat}{D:Oper}{v:Value}{S:World->Prop}(hi:ops[i]?=some D)(B:∀ (j:Nat) (o:Oper) cs b,ops[j]?=some o->o.op≠.select cs b)
    (hQ:∀ c a w,Q (.panic c) (a.put D.dst v) w->Q (.panic c) a w)(J:∀ w w',S w->Mo M.l w w'->S w') :
    ∀ (n:Nat) (L:Array Bool) (a:Act) (w:World),
      (∀ j f,ops[j]?=some f->j≠i->L.getD j true=false->(∀ e∈f.after,Region.binds .any e=true->e.on≠i)->D.apart ops f=true) ->
      ((∀ w,S w)\/(∀ w w',S w->Tl M w w'->S w')\/∀ j f,ops[j]?=some f->k0<=j->j≠i->∃ e∈f.after,Region.binds .any e=true/\e.on=i) ->
      i∈Region.ready .any ops L->YieldsIf P ops S D v a->S w ->
      oo M P ops Q k0 n (L.setIfInBounds i true) (a.put D.dst v) w->(i<k0)->oo M P ops Q k0 (n+1) L a w:=by
  intro n
  induction n with
  | zero =>
    intro L a w _ _ hr V F H _;refine ⟨fun h=>(by rw[h] at hr;cases hr),fun j O=>?_⟩
    by_cases hji:j=i
    . subst hji;exact V.wpOp hi F ⟨Rl.refl _ _ _ _,H⟩
    . have:=ready_mono O hji
      rw[H.1] at this
      cases this
  | succ n ih =>
    intro L a w p d hr V F H X;refine ⟨fun h=>(by rw[h] at hr;cases hr),fun j O=>?_⟩
    by_cases hji:j=i
    . subst hji;exact V.wpOp hi F ⟨Rl.refl _ _ _ _,H⟩
    . have h1:=H.2 j (ready_mono O hji)
      obtain ⟨C,f,u,K⟩:=mem_ready.1 O
      have z:∀ e∈f.after,Region.binds .any e=true->e.on≠i:=fun e Z hb heq=>by
        have h1:=K e Z hb;have h0:=(mem_ready.1 hr).1;rw[heq] at h1
        obtain ⟨x,h0'⟩:=ET h0
        simp[e4,x,h0'] at h1
      have h2:=wpOp_putIf u (p j f u hji C z) (fun cs b=>B i D cs b hi) (fun cs b=>B j f cs b u) hQ V h1
      have y:∀ k ok,ops[k]?=some ok->k≠i->(L.setIfInBounds j true).getD k true=false ->
          (∀ e∈ok.after,Region.binds .any e=true->e.on≠i)->D.apart ops ok=true:=fun k ok X hki I hno=>by
        refine p k ok X hki ?_ hno
        by_cases hjk:j=k
        . subst hjk;exact C
        . rw[getD_set_ne true hjk] at I;exact I
      have Y:∀ w',Rl M k0 j w w'->S w':=fun w' W=>by
        rcases d with ht|ht|ht
        . exact ht w'
        . rcases co j k0 with x|x
          . exact J _ _ F (W.1 x)
          . exact ht _ _ F (W.2 x)
        . rcases co j k0 with x|x
          . exact J _ _ F (W.1 x)
          . obtain ⟨e,Z,hb,ho⟩:=ht j f u x hji
            exact absurd ho (z e Z hb)
      refine wpOp_mono (fun a' w' U=>⟨U.2.1,ih (L.setIfInBounds j true) a' w' y d (ready_mono hr (Ne.symm hji)) U.1 (Y w' U.2.1) ?_ X⟩) h2;rw[e6 _ _ hji];exact U.2.2
structure Al where
  i:Nat
  t:Nat
  o:Obj
structure AlOk (P:Program) (ops:Array Oper) (k0:Nat) (x:Al):Prop where
  ex:∃ o,ops[x.i]?=some o/\o.dst=some x.t/\o.guard=none/\o.after = #[]/\(∀ (ρ:Operand->Value) (w:World),(execOp ρ o).run P w=.ok (.value (.pointer (some ⟨w.heap.size,0,none⟩))) (w.alloc x.o))
  lt:x.i<k0
abbrev SA:=Al × Nat
def dM (L:Array Bool)(S:List SA):Array Bool:=S.foldr (fun s L=>L.setIfInBounds s.1.i true) L
def addA (a:Act)(S:List SA):Act:=S.foldr (fun s a=>a.put (some s.1.t) (.pointer (some ⟨s.2,0,none⟩))) a
def Blk (h0:Hp)(w:World)(h:Hp)(s:SA):Prop:=w.heap[s.2]?=some s.1.o/\h[s.2]?=some junk/\h0.size<=s.2
theorem Blk.up {h0:Hp}{w w':World}{h f:Hp}{s:SA}(b:Blk h0 w h s)(u:UpM M.l w h w' f)(hM:∀ b∈M.l,b<h0.size):Blk h0 w' f s:=by
 obtain ⟨c,d,j⟩:=b
 have a:s.2<w.heap.size:=by
  rcases co s.2 w.heap.size with a|a
  ·exact a
  ·rw[ea a] at c;cases c
 have e:s.2<h.size:=by
  rcases co s.2 h.size with a|a
  ·exact a
  ·rw[ea a] at d;cases d
 exact ⟨(u.mo.blk _ a (fun i=>by have:=hM _ i;omega)).trans c,(u.gr.blk _ e).trans d,j⟩
theorem Blk.lt {h0:Hp}{w:World}{h:Hp}{s:SA}(b:Blk h0 w h s):s.2<w.heap.size:=by
 rcases co s.2 w.heap.size with hl|hl
 ·exact hl
 ·have:=b.1;rw[ea hl] at this;cases this
variable (M P ops Q k0) in
def E (h0:Hp)(AL:List Al)(L:Array Bool)(a:Act)(w:World)(h:Hp):Prop :=
  ∀ w' h',Up w h w' h'->∀ (S:List SA) (T:List Al),(S.map (·.1)++T).Perm AL->(∀ s∈S,Blk h0 w' h' s)->(S.map (·.2)).Nodup ->
    A M P ops Q k0 (dM L S) (addA a S) w'
theorem gX (L:Array Bool)(S:List SA)(i:Nat)(hi:∀ s∈S,s.1.i≠i):dM (L.setIfInBounds i true) S=(dM L S).setIfInBounds i true:=by
  induction S with
  | nil=>rfl
  | cons s S ih =>
    have h1:s.1.i≠i:=hi s (by simp)
    show (dM (L.setIfInBounds i true) S).setIfInBounds s.1.i true=((dM L S).setIfInBounds s.1.i true).setIfInBounds i true
    rw[ih (fun t a=>hi t (by simp[a])),e6 _ _ (Ne.symm h1)]
theorem g8 (a:Act)(S:List SA)(d:Option Tmp)(v:Value)(b:∀ s∈S,d≠some s.1.t):addA (a.put d v) S=(addA a S).put d v:=by
  induction S with
  | nil=>rfl
  | cons s S ih =>
    have h1:d≠some s.1.t:=b s (by simp)
    show (addA (a.put d v) S).put (some s.1.t) _=((addA a S).put (some s.1.t) _).put d v
    rw[ih (fun t f=>b t (by simp[f]))];exact Act.put_comm _ _ _ (fun x e c=>h1 (e.trans c.symm))
theorem f2 {L:Array Bool}{S:List SA}{j:Nat}(h:(dM L S).getD j true=false):L.getD j true=false:=by
  induction S with
  | nil=>exact h
  | cons s S ih =>
    apply ih
    have a:((dM L S).setIfInBounds s.1.i true).getD j true=false:=h
    by_cases e:s.1.i=j
    . subst e
      obtain ⟨c,b⟩:=ET a
      simp at b
    . rwa [getD_set_ne true e] at a
theorem gf {L:Array Bool}{S:List SA}{j:Nat}(d:Bool)(a:∀ s∈S,s.1.i≠j):(dM L S).getD j d=L.getD j d:=by
  induction S with
  | nil=>rfl
  | cons s S ih =>
    show ((dM L S).setIfInBounds s.1.i true).getD j d=_
    rw[getD_set_ne d (a s (by simp))];exact ih (fun t b=>a t (by simp[b]))
theorem jQ {L:Array Bool}{S:List SA}{j:Nat}(h:L.getD j false=true):(dM L S).getD j false=true:=by
 induction S with
 | nil=>exact h
 | cons s S ih=>exact getD_set_true (listed:=dM L S) ih
theorem kO {L:Array Bool}{S:List SA}{i:Nat}(hi:∀ s∈S,s.1.i≠i)(h:i∈Region.ready .any ops L):i∈Region.ready .any ops (dM L S):=by
 rw[mem_ready] at *
 obtain ⟨h0,o,b,a⟩:=h;exact ⟨by rw[gf true hi];exact h0,o,b,fun e c d=>jQ (a e c d)⟩
theorem jW {o:Oper}(f:∀ cs b,o.op≠.select cs b)(a:Act)(S:List SA)(h:∀ s∈S,s.1.t ∉ o.looksAt ops) :
    execOp (addA a S).eval o=execOp a.eval o/\Region.wanted o (yielded ops (addA a S).tmps)=Region.wanted o (yielded ops a.tmps):=by
  induction S with
  | nil=>exact ⟨rfl,rfl⟩
  | cons s S ih =>
    obtain ⟨i,j⟩:=ih (fun t k=>h t (by simp[k]));have e:∀ d,some s.1.t=some d->d ∉ o.looksAt ops:=fun d c=>by injection c with c;subst c;exact h s (by simp)
    exact ⟨(execOp_put (ops:=ops) o f _ _ _ e).trans i,(wanted_put (ops:=ops) o _ _ _ e).trans j⟩
theorem eg {S:List SA}{T AL:List Al}(b:(S.map (·.1)++T).Perm AL){s:SA}(a:s∈S):s.1∈AL :=
 b.mem_iff.1 (fo.2 (.inl (ga.2 ⟨s,a,rfl⟩)))
def OpR (P:Program)(ops:Array Oper)(o:Oper)(a:Act)(w:World)(R:Value->World->Prop):Prop :=
  Region.wanted o (yielded ops a.tmps)=true /\
  ((∃ v w',(execOp a.eval o).run P w=.ok (.value v) w'/\R v w')\/(∃ w',(execOp a.eval o).run P w=.ok .skip w'/\R undef w') \/
   (∃ f args,(execOp a.eval o).run P w=.ok (.enter f args) w/\Calls P f args w (fun e w'=>∃ v,e=.returned v/\R v w')))
theorem OpR.wpOp {i:Nat}{o:Oper}{a:Act}{w:World}{R:Value->World->Prop}{K:Act->World->Prop}(hi:ops[i]?=some o)(h:OpR P ops o a w R)
  (c:∀ v w',R v w'->K (a.put o.dst v) w'):wpOp P ops Q i K a w:=by
 obtain ⟨d,h⟩:=h
 unfold Go.wpOp
 simp only[hi,d,if_true]
 left
 unfold Oper.wp
 rcases h with ⟨v,w',hr,b⟩|⟨w',hr,b⟩|⟨f,args,hr,hc⟩
 ·rw[hr];exact c _ _ b
 ·rw[hr];exact c _ _ b
 ·rw[hr]
  refine Calls.mono hc fun e w' j=>?_
  obtain ⟨v,rfl,b⟩:=j;exact c _ _ b
theorem OpR.addA {o:Oper}{a:Act}{w:World}{R:Value->World->Prop}(h:OpR P ops o a w R)(c:∀ cs b,o.op≠.select cs b)(S:List SA)(e:∀ s∈S,s.1.t ∉ o.looksAt ops) :
  OpR P ops o (addA a S) w R:=by
 obtain ⟨d,f⟩:=jW (ops:=ops) c a S e
 unfold OpR at *
 rw[d,f];exact h
theorem Cp {x:Al}(ok:AlOk P ops k0 x){a:Act}{w:World}{K:Act->World->Prop}(h:K (a.put (some x.t) (.pointer (some ⟨w.heap.size,0,none⟩))) (w.alloc x.o)):wpOp P ops Q x.i K a w:=by
 obtain ⟨o,h1,c,b,_,d⟩:=ok.ex
 unfold Go.wpOp
 simp only[h1]
 rw[if_pos (by simp[Region.wanted,b])]
 left
 unfold Oper.wp
 rw[d]
 show K (a.put o.dst _) _
 rw[c];exact h
theorem pT {x:Al}(ok:AlOk P ops k0 x){L:Array Bool}(h:L.getD x.i true=false):x.i∈Region.ready .any ops L:=by
 obtain ⟨o,h1,_,_,b,_⟩:=ok.ex;exact mem_ready.2 ⟨h,o,h1,fun e a=>by rw[b] at a;simp at a⟩
theorem nU {h0:Hp}{AL:List Al}{L:Array Bool}{a:Act}{w':World}{d:Hp}{S:List SA}{T:List Al}{x:Al}
  (h:∀ x∈AL,AlOk P ops k0 x)(hM:∀ b∈M.l,b<h0.size)(g:G w' d)(j:h0.size<=d.size)(p:(S.map (·.1)++T).Perm AL)(y:∀ s∈S,Blk h0 w' d s)(F:(S.map (·.2)).Nodup)(k:x∈T)
  (C:∀ (w1:World) (h1:Hp) (S1:List SA) (e:List Al),Up w' d w1 h1->(S1.map (·.1)++e).Perm AL->(∀ s∈S1,Blk h0 w1 h1 s)->(S1.map (·.2)).Nodup->e.length<T.length->A M P ops Q k0 (dM L S1) (addA a S1) w1) :
  wpOp P ops Q x.i (fun z w1=>Rl M k0 x.i w' w1/\A M P ops Q k0 ((dM L S).setIfInBounds x.i true) z w1) (addA a S) w':=by
 have c:x∈AL:=p.mem_iff.1 (fo.2 (.inr k))
 obtain ⟨e,hT⟩:∃ e,T.Perm (x::e):=by
  obtain ⟨D,l2,rfl⟩:=List.append_of_mem k;exact ⟨D++l2,ge⟩
 have u:Up w' d (w'.alloc x.o) (d.push junk):=Up.allocAny g _ _ (.inr rfl);refine Cp (h x c) ⟨Rl.mo (h x c).lt (u.m M.l).mo,?_⟩;refine C (w'.alloc x.o) (d.push junk) ((x,w'.heap.size)::S) e u ?_ ?_ ?_ ?_
 ·refine List.Perm.trans ?_ p
  show (x::(S.map (·.1)++e)).Perm _
  refine List.Perm.trans ge.symm ?_;exact List.Perm.append_left _ hT.symm
 ·intro s f
  rcases gq.1 f with rfl|f
  ·refine ⟨?_,?_,?_⟩
   ·rw[dw];exact e0
   ·rw[g.size];exact e0
   ·show h0.size<=w'.heap.size;rw[g.size];exact j
  ·exact (y s f).up (u.m M.l) hM
 ·show (w'.heap.size::S.map (·.2)).Nodup
  refine gs.2 ⟨fun B=>?_,F⟩;obtain ⟨s,f,H⟩:=ga.1 B;have:=(y s f).lt
  omega
 ·have:=hT.length_eq
  simp at this
  omega
theorem gG {AL:List Al}{L:Array Bool}{S:List SA}{T:List Al}{x:Al}(d:(S.map (·.1)++T).Perm AL)(f:x∈AL)(hr:x.i∈Region.ready .any ops (dM L S)):x∈T:=by
  rcases fo.1 (d.mem_iff.2 f) with hm|hm
  . obtain ⟨s,c,a⟩:=ga.1 hm
    have h1:=(mem_ready.1 hr).1
    exfalso
    rw[<-a] at h1
    clear hr d hm a
    induction S with
    | nil=>cases c
    | cons t S ih =>
      have b:((dM L S).setIfInBounds t.1.i true).getD s.1.i true=false:=h1
      by_cases e:t.1.i=s.1.i
      . rw[e] at b
        obtain ⟨h,a⟩:=ET b
        simp at a
      . rw[getD_set_ne true e] at b
        rcases gq.1 c with rfl|hs'
        . exact e rfl
        . exact ih hs' b
  . exact hm
end region
section laws
variable {M:Ms}{P:Program}{ops:Array Oper}{Q:Exit->Act->World->Prop}{k0:Nat}
theorem tM (L:Array Bool)(S:List SA):(dM L S).size=L.size:=by
 induction S with
 | nil=>rfl
 | cons s S ih=>show ((dM L S).setIfInBounds s.1.i true).size=_;simp[ih]
theorem E.take0 {h0:Hp}{AL:List Al}{L:Array Bool}{a:Act}{w:World}{h:Hp}{i:Nat}{o:Oper}{v:Value}{S:World->Prop}
  (hi:ops[i]?=some o)(V:i<k0)(f:Region.noSelect ops=true)(hf:Region.free .any ops L i=true)(hr:i∈Region.ready .any ops L)
  (D:∀ x∈AL,x.i≠i/\x.t ∉ o.looksAt ops/\o.dst≠some x.t)(W:∀ c a w,¬Q (.panic c) a w)
  (C:∀ w w',S w->Mo M.l w w'->S w')(O:∀ w',Mo M.l w w'->S w')(hy:YieldsIf P ops S o v a)
  (k:(∀ w,S w)\/(∀ w w',S w->Tl M w w'->S w')\/∀ j z,ops[j]?=some z->k0<=j->j≠i->∃ e∈z.after,Region.binds .any e=true/\e.on=i)
  (H:E M P ops Q k0 h0 AL (L.setIfInBounds i true) (a.put o.dst v) w h):E M P ops Q k0 h0 AL L a w h:=by
 intro w' Y u p T I hb hn;have b:∀ s∈p,s.1.i≠i/\s.1.t ∉ o.looksAt ops/\o.dst≠some s.1.t:=fun s d=>D _ (eg I d)
 have J:=H w' Y u p T I hb hn;rw[gX L p i (fun s d=>(b s d).1),g8 a p o.dst v (fun s d=>(b s d).2.2)] at J
 have y:=kO (fun s d=>(b s d).1) hr;obtain ⟨K,Z⟩:=jW (ops:=ops) (Region.noSelect_spec f i o · · hi) a p (fun s d=>(b s d).2.1)
 unfold A at *
 rw[d6 y]
 exact lc hi (Region.noSelect_spec f) (fun c a w X=>absurd X (W _ _ _)) C _ _ _ _
  (fun j z U F B=>Region.free_spec hi hf j z U F (f2 B)) k y (hy.of_same K Z) (O _ (u.m M.l).mo) J V
theorem E.event0 {h0:Hp}{AL:List Al}{L:Array Bool}{a:Act}{w:World}{h:Hp}{i:Nat}{o:Oper}
    (hi:ops[i]?=some o)(hk:i<k0)(I:Region.noSelect ops=true)(hL:L.size=ops.size)(hun:L.getD i true=false)
    (F:∀ j W,ops[j]?=some W->L.getD j true=false->j≠i->(∀ x∈AL,x.i≠j)->∃ e∈W.after,Region.binds .any e=true/\L.getD e.on false=false/\∀ x∈AL,x.i≠e.on)
    (K:∀ e∈o.after,Region.binds .any e=true->L.getD e.on false=true\/∃ x∈AL,x.i=e.on)
    (hal:∀ x∈AL,x.i≠i/\x.t ∉ o.looksAt ops/\o.dst≠some x.t)(C:∀ x∈AL,AlOk P ops k0 x)(hM:∀ b∈M.l,b<h0.size)(g:G w h)(hsz:h0.size<=h.size)
    (H:∀ w' y,Up w h w' y->OpR P ops o a w' (fun v k=>∃ f,UpM M.l w' y k f/\E M P ops Q k0 h0 AL (L.setIfInBounds i true) (a.put o.dst v) k f)):E M P ops Q k0 h0 AL L a w h:=by
  have key:∀ (m:Nat) (T:List Al),T.length=m->∀ w' y,Up w h w' y->∀ (S:List SA),(S.map (·.1)++T).Perm AL->(∀ s∈S,Blk h0 w' y s)->(S.map (·.2)).Nodup ->
      A M P ops Q k0 (dM L S) (addA a S) w':=by
    intro m
    induction m using g2 with
    | _ m ih =>
      intro T hT w' y u S z X Y;have p:∀ s∈S,s.1.i≠i/\s.1.t ∉ o.looksAt ops/\o.dst≠some s.1.t:=fun s c=>hal _ (eg z c)
      refine A.intro (fun V=>?_) (fun j hj=>?_)
      . exfalso
        by_cases hd:∃ e∈o.after,Region.binds .any e=true/\(dM L S).getD e.on false=false
        . obtain ⟨e,B,d,hf⟩:=hd
          rcases K e B d with h1|⟨x,D,hxe⟩
          . rw[jQ h1] at hf;cases hf
          . have O:x.i<(dM L S).size:=by
              obtain ⟨o',ho',_⟩:=(C x D).ex;rw[tM,hL];exact (g3.1 ho').1
            have:x.i∈Region.ready .any ops (dM L S):=pT (C x D) (by rw[<-hxe] at hf;simp[e4,O] at hf ⊢;exact hf);rw[V] at this
            cases this
        . have:i∈Region.ready .any ops (dM L S):=mem_ready.2 ⟨by rw[gf true (fun s c=>(p s c).1)];exact hun,o,hi,fun e B d=>by
            cases hv:(dM L S).getD e.on false
            . exact absurd ⟨e,B,d,hv⟩ hd
            . rfl⟩
          rw[V] at this
          cases this
      . by_cases hji:j=i
        . subst hji
          refine OpR.wpOp hi ((H w' y u).addA (Region.noSelect_spec I j o · · hi) S (fun s c=>(p s c).2.1)) ?_;rintro v k ⟨f,Z,H2⟩;refine ⟨Rl.mo hk Z.mo,?_⟩;rw[<-gX L S j (fun s c=>(p s c).1),<-g8 a S o.dst v (fun s c=>(p s c).2.2)];exact H2 k f (Up.refl Z.g) S T z (fun s c=>(X s c).up Z hM) Y
        . obtain ⟨J,W,hoj,U⟩:=mem_ready.1 hj
          have D:∃ x∈AL,x.i=j:=by
            refine Classical.byContradiction fun hno=>?_
            obtain ⟨e,B,d,hf,hne⟩:=F j W hoj (f2 J) hji (fun x D B=>hno ⟨x,D,B⟩);have:=U e B d;rw[gf false (fun s c=>hne _ (eg z c)),hf] at this
            cases this
          obtain ⟨x,hxA,rfl⟩:=D;have hxT:=gG z hxA hj;exact nU C hM u.g (ed hsz u.gr.size) z X Y hxT (fun w1 h1 S1 T1 u1 hp1 hb1 hn1 O=>ih T1.length oM T1 rfl w1 h1 (u.trans u1) S1 hp1 hb1 hn1)
  exact fun w' y u S T z X Y=>key _ T rfl w' y u S z X Y
theorem E.fin0 {h0:Hp}{AL:List Al}{L:Array Bool}{a:Act}{w:World}{h:Hp}(hL:L.size=ops.size)
    (Z:∀ j C,ops[j]?=some C->L.getD j true=false->(∃ x∈AL,x.i=j)\/∀ x∈AL,∃ e∈C.after,Region.binds .any e=true/\e.on=x.i)
    (z:∀ x∈AL,L.getD x.i true=false)(y:∀ x∈AL,AlOk P ops k0 x)(hM:∀ b∈M.l,b<h0.size)(X:h0.size<=h.size)(O:(AL.map (·.i)).Nodup)
    (H:∀ w' c,Up w h w' c->∀ S:List SA,(S.map (·.1)).Perm AL->(∀ s∈S,Blk h0 w' c s)->(S.map (·.2)).Nodup->A M P ops Q k0 (dM L S) (addA a S) w'):E M P ops Q k0 h0 AL L a w h:=by
  have key:∀ (m:Nat) (T:List Al),T.length=m->∀ w' c,Up w h w' c->∀ (S:List SA),(S.map (·.1)++T).Perm AL->(∀ s∈S,Blk h0 w' c s)->(S.map (·.2)).Nodup ->
      A M P ops Q k0 (dM L S) (addA a S) w':=by
    intro m
    induction m using g2 with
    | _ m ih =>
      intro T hT w' c u S o D F;cases T with
      | nil=>exact H w' c u S (by simpa using o) D F
      | cons t T' =>
        have k:t∈AL:=o.mem_iff.1 (fo.2 (.inr (by simp)));have d:((S.map (·.1)++t::T').map (·.i)).Nodup:=(o.map (·.i)).nodup_iff.2 O
        have htS:∀ s∈S,s.1.i≠t.i:=fun s hs W=>by
          rw[List.map_append,List.nodup_append] at d
          exact d.2.2 s.1.i (ga.2 ⟨s.1,ga.2 ⟨s,hs,rfl⟩,rfl⟩) t.i (ga.2 ⟨t,by simp,rfl⟩) W
        have f:t.i∈Region.ready .any ops (dM L S):=pT (y t k) (by rw[gf true htS];exact z t k);refine A.intro (fun h0'=>by rw[h0'] at f;cases f) (fun j hj=>?_);obtain ⟨p,C,I,B⟩:=mem_ready.1 hj
        rcases Z j C I (f2 p) with ⟨x,hxA,rfl⟩|hw
        . have hxT:=gG o hxA hj
          exact nU y hM u.g (ed X u.gr.size) o D F hxT (fun w1 h1 S1 T1 u1 U Y V hlt=>ih T1.length oM T1 rfl w1 h1 (u.trans u1) S1 U Y V)
        . obtain ⟨e,W,K,J⟩:=hw t k
          have:=B e W K;rw[J] at this
          obtain ⟨hl,hv⟩:=ET (mem_ready.1 f).1
          simp[e4,hl,hv] at this
  exact fun w' c u S T o D F=>key _ T rfl w' c u S o D F
end laws
abbrev ck:=List (Nat × Value)
def iD (Γ:ck):List Deferred:=match Γ.lookup 1000000 with|some (.int _ D)=>[{ target:=.collected D.toNat,args:=#[] }]|_=>[]
structure Kn (n:Nat) (a:Act) (Γ:ck):Prop where
  df:a.defers=iD Γ
  sz:a.tmps.size=n
  nb:n<=1000000
  has:∀ t v,t≠1000000->Γ.lookup t=some v->a.tmps[t]?=some v
def ev (Γ:ck):Operand->Value
  | .tmp t=>(Γ.lookup t).getD undef
  | .const v=>v
  | .global g=>.pointer (some ⟨g,0,none⟩)
  | .func f=>.func (.func f) #[] #[]
def av (ops:Array Oper)(i:Nat):Oper:=ops.getD i default
def gW (Γ:ck):Operand->Bool
  | .tmp t=>t != 1000000 && (Γ.lookup t).isSome
  | _=>true
def ba (Γ:ck)(o:Oper):Bool:=o.op.operands.all (gW Γ)
def bu (ops:Array Oper)(Γ:ck)(o:Oper):Option Bool :=
  match o.guard with
  | none=>some true
  | some (g,want)=>match ((ops[g]?).bind (·.dst)).bind (fun t=>if t=1000000 then none else Γ.lookup t) with
    | some (.bool b)=>some (b == want)
    | some (.tuple _)=>some false
    | _=>none
theorem Kn.put {n:Nat}{a:Act}{Γ:ck}(k:Kn n a Γ){t:Nat}(c:t<n)(v:Value):Kn n (a.put (some t) v) ((t,v)::Γ):=by
 have d:=k.nb;refine ⟨?_,by simpa [Act.put] using k.sz,k.nb,fun s u b hu=>?_⟩
 ·have e:((1000000:Nat) == t)=false:=by simp;omega
  show a.defers=_
  rw[k.df];unfold iD;rw[g4,e]
 rw[g4] at hu
 by_cases e:s=t
 ·subst e
  simp at hu
  subst hu
  simp[Act.put,k.sz,c]
 ·have f:(s == t)=false:=by simp[e]
  rw[f] at hu
  simp only[Act.put]
  rw[g6 (Ne.symm e)];exact k.has s u b hu
theorem Kn.eval {n:Nat}{a:Act}{Γ:ck}(k:Kn n a Γ){x:Operand}(b:gW Γ x=true):a.eval x=ev Γ x:=by
  cases x with
  | tmp t =>
    have b:(t != 1000000 && (Γ.lookup t).isSome)=true:=b;rw[hI] at b
    obtain ⟨v,hv⟩:=hN.1 b.2;have:=k.has t v (by simpa using b.1) hv
    simp[Act.eval,ev,hv,this]
  | _=>rfl
theorem Kn.exec {n:Nat}{a:Act}{Γ:ck}(k:Kn n a Γ){o:Oper}(c:∀ cs b,o.op≠.select cs b)(e:ba Γ o=true):execOp a.eval o=execOp (ev Γ) o :=
 execOp_congr o c (fun x d=>k.eval ((hO.1 e) x d))
theorem Kn.want {n:Nat}{a:Act}{Γ:ck}(k:Kn n a Γ){ops:Array Oper}{o:Oper}{b:Bool}(h:bu ops Γ o=some b):Region.wanted o (yielded ops a.tmps)=b:=by
  unfold bu at h
  unfold Region.wanted
  split at h
  . rename_i d;simp only[d];simpa using h
  . rename_i g want d
    simp only[d]
    cases c:(ops[g]?).bind (·.dst) with
    | none=>rw[c] at h;simp at h
    | some t =>
      rw[c] at h
      simp only[Option.bind_some] at h
      by_cases ht0:t=1000000
      . rw[if_pos ht0] at h;simp at h
      rw[if_neg ht0] at h
      cases hv:Γ.lookup t with
      | none=>rw[hv] at h;simp at h
      | some u =>
        rw[hv] at h
        have e:=k.has t u ht0 hv;cases u with
        | bool x=>simp at h;subst h;simp[yielded,c,e]
        | tuple x=>simp at h;subst h;simp[yielded,c,e]
        | _=>simp at h
theorem Kn.mono {n:Nat}{a:Act}{Γ Γ':ck}(k:Kn n a Γ)(h:∀ t v,Γ'.lookup t=some v->Γ.lookup t=some v)(b:iD Γ'=iD Γ):Kn n a Γ':=⟨k.df.trans b.symm,k.sz,k.nb,fun t v c hv=>k.has t v c (h t v hv)⟩
def jn (Γ:ck):List Nat->ck
  | []=>[]
  | t::ts=>match Γ.lookup t with|some v=>(t,v)::jn Γ ts|none=>jn Γ ts
theorem eT (Γ:ck):∀ (ts:List Nat) (t:Nat) (v:Value),(jn Γ ts).lookup t=some v->Γ.lookup t=some v
  | [],_,_,h=>by simp[jn] at h
  | s :: ts,t,v,h=>by
    unfold jn at h
    split at h
    . rename_i u hu
      rw[g4] at h
      by_cases e:t=s
      . subst e;simp at h;subst h;exact hu
      . have a:(t == s)=false:=by simp[e]
        rw[a] at h
        exact eT Γ ts t v h
    . exact eT Γ ts t v h
abbrev Po:=Act->World->Prop
def iH (N R:Po)(X:Nat->Po):Exit->Act->World->Prop
  | .normal,a,w=>N a w
  | .ret,a,w=>R a w
  | .exit i,a,w=>X i a w
  | _,_,_=>False
def CG (P:Program)(n:Nat)(N R:Po)(X:Nat->Po)(c:Code)(Γ:ck)(w:World):Prop:=∀ a,Kn n a Γ->c.wp P (iH N R X) a w
def EG (M:Ms)(P:Program)(n:Nat)(N R:Po)(X:Nat->Po)(ops:Array Oper)(k0:Nat)(h0:Hp)(AL:List Al)(L:Array Bool)(Γ:ck)(w:World)(h:Hp):Prop :=
  (∀ x∈AL,AlOk P ops k0 x)->(∀ b∈M.l,b<h0.size)->G w h->h0.size<=h.size->∀ a,Kn n a Γ->E M P ops (iH N R X) k0 h0 AL L a w h
def AG (M:Ms)(P:Program)(n:Nat)(N R:Po)(X:Nat->Po)(ops:Array Oper)(k0:Nat)(L:Array Bool)(Γ:ck)(w:World):Prop :=
  ∀ a,Kn n a Γ->A M P ops (iH N R X) k0 L a w
section steps
variable {M:Ms}{P:Program}{n:Nat}{N R:Po}{X:Nat->Po}{ops:Array Oper}{k0:Nat}{h0:Hp}{AL:List Al}{L:Array Bool}{Γ:ck}{w:World}{h:Hp}
def oH (ops:Array Oper)(AL:List Al)(i:Nat)(o:Oper):Bool:=AL.all fun x=>x.i != i && !(o.looksAt ops).contains x.t && o.dst != some x.t
theorem f9 {i:Nat}{o:Oper}(a:oH ops AL i o=true):∀ x∈AL,x.i≠i/\x.t ∉ o.looksAt ops/\o.dst≠some x.t:=by
 intro x b;have:=(hS.1 a) x b
 simp only[hI,bne_iff_ne,ne_eq,Bool.not_eq_true',List.contains_eq_mem,decide_eq_false_iff_not] at this
 exact ⟨this.1.1,this.1.2,this.2⟩
def dj (n:Nat)(ops:Array Oper)(k0:Nat)(AL:List Al)(L:Array Bool)(i t:Nat):Bool :=
  let o:=av ops i
  decide (i<ops.size) && decide (i<k0) && Region.noSelect ops && Region.free .any ops L i && (Region.ready .any ops L).contains i && oH ops AL i o && (o.dst == some t) && decide (t<n)
structure TakeOk (n:Nat) (ops:Array Oper) (k0:Nat) (AL:List Al) (L:Array Bool) (i t:Nat):Prop where
  get:ops[i]?=some (av ops i)
  lt:i<k0
  sel:Region.noSelect ops=true
  free:Region.free .any ops L i=true
  ready:i∈Region.ready .any ops L
  al:∀ x∈AL,x.i≠i/\x.t ∉ (av ops i).looksAt ops/\(av ops i).dst≠some x.t
  dst:(av ops i).dst=some t
  tn:t<n
theorem bN {i:Nat}(h:i<ops.size):ops[i]?=some (av ops i):=by
 unfold av;simp[h]
theorem dg {i t:Nat}(h:dj n ops k0 AL L i t=true):TakeOk n ops k0 AL L i t:=by
 unfold dj at h
 simp only[hI,decide_eq_true_eq,beq_iff_eq] at h
 obtain ⟨⟨⟨⟨⟨⟨⟨h1,e⟩,c⟩,b⟩,j⟩,f⟩,d⟩,a⟩:=h;exact ⟨bN h1,e,c,b,by simpa using j,f9 f,d,a⟩
theorem Rg.pure (i t:Nat)(v:Value)(b:(dj n ops k0 AL L i t && ba Γ (av ops i))=true)(o:bu ops Γ (av ops i)=some true)
  (hr:∀ w,(execOp (ev Γ) (av ops i)).run P w=.ok (.value v) w)
  (k:EG M P n N R X ops k0 h0 AL (L.setIfInBounds i true) ((t,v)::Γ) w h):EG M P n N R X ops k0 h0 AL L Γ w h:=by
 rw[hI] at b
 obtain ⟨b,j⟩:=b;have c:=dg b;intro f hM g d a e;have l:=e.exec (Region.noSelect_spec c.sel i _ · · c.get) j;refine E.take0 (v:=v) (S:=fun _=>True) c.get c.lt c.sel c.free c.ready c.al (fun _ _ _ p=>p) (fun _ _ _ _=>trivial) (fun _ _=>trivial) (.inl ⟨e.want o,fun w _=>by rw[l];exact hr w⟩) (.inl fun _=>trivial) ?_;rw[c.dst];exact k f hM g d _ (e.put c.tn v)
theorem Rg.skip (i t:Nat)(j:dj n ops k0 AL L i t=true)(f:bu ops Γ (av ops i)=some false)
  (k:EG M P n N R X ops k0 h0 AL (L.setIfInBounds i true) ((t,undef)::Γ) w h):EG M P n N R X ops k0 h0 AL L Γ w h:=by
 have c:=dg j;intro d hM g b a e;refine E.take0 (v:=undef) (S:=fun _=>True) c.get c.lt c.sel c.free c.ready c.al (fun _ _ _ l=>l) (fun _ _ _ _=>trivial) (fun _ _=>trivial) (.inr ⟨e.want f,rfl⟩) (.inl fun _=>trivial) ?_;rw[c.dst];exact k d hM g b _ (e.put c.tn undef)
def ij (ops:Array Oper)(k0 i:Nat):Bool:=(i0 ops.size).all fun j=>decide (j<k0) || (av ops j).after.any fun e=>Region.binds .any e && e.on == i
theorem jA {i:Nat}(h:ij ops k0 i=true):∀ j b,ops[j]?=some b->k0<=j->j≠i->∃ e∈b.after,Region.binds .any e=true/\e.on=i:=by
 intro j b c d _;have a:=(g3.1 c).1;have e:b=av ops j:=by have:=bN (ops:=ops) a;rw[c] at this;injection this
 have:=(hS.1 h) j (i1.2 a)
 simp only[i3,decide_eq_true_eq,la,hI,beq_iff_eq] at this
 rcases this with h1|⟨x,hx,h2⟩
 ·omega
 ·rw[e];exact ⟨_,l4 hx,h2⟩
theorem Rg.load (i t:Nat)(v:Value)(b:(dj n ops k0 AL L i t && ba Γ (av ops i) && ij ops k0 i)=true)(x:bu ops Γ (av ops i)=some true)
  (hr:∀ w',Mo M.l w w'->(execOp (ev Γ) (av ops i)).run P w'=.ok (.value v) w')
  (k:EG M P n N R X ops k0 h0 AL (L.setIfInBounds i true) ((t,v)::Γ) w h):EG M P n N R X ops k0 h0 AL L Γ w h:=by
 rw[hI,hI] at b
 obtain ⟨⟨b,p⟩,f⟩:=b;have c:=dg b;intro j hM g o a e;have u:=e.exec (Region.noSelect_spec c.sel i _ · · c.get) p;refine E.take0 (v:=v) (S:=fun w'=>Mo M.l w w') c.get c.lt c.sel c.free c.ready c.al (fun _ _ _ z=>z) (fun _ _ h1 y=>h1.trans y) (fun _ d=>d) (.inl ⟨e.want x,fun w' d=>by rw[u];exact hr w' d⟩) (.inr (.inr (jA f))) ?_;rw[c.dst];exact k j hM g o _ (e.put c.tn v)
theorem Rg.loadZ (i t:Nat)(v:Value){bs:List Nat}(hz:M.z=some (h0.size,bs))(j:(dj n ops k0 AL L i t && ba Γ (av ops i))=true)(B:bu ops Γ (av ops i)=some true)
  (hr:∀ w',(∀ b,b<h0.size->b ∉ bs->b ∉ M.l->w'.heap[b]?=w.heap[b]?)->(execOp (ev Γ) (av ops i)).run P w'=.ok (.value v) w')
  (k:EG M P n N R X ops k0 h0 AL (L.setIfInBounds i true) ((t,v)::Γ) w h):EG M P n N R X ops k0 h0 AL L Γ w h:=by
 rw[hI] at j
 obtain ⟨j,u⟩:=j;have c:=dg j;intro p hM g f a o;have x:h0.size<=w.heap.size:=by rw[g.size];exact f
 have y:=o.exec (Region.noSelect_spec c.sel i _ · · c.get) u;refine E.take0 (v:=v) (S:=fun w'=>h0.size<=w'.heap.size/\∀ b,b<h0.size->b ∉ bs->b ∉ M.l->w'.heap[b]?=w.heap[b]?) c.get c.lt c.sel c.free c.ready c.al (fun _ _ _ D=>D) ?_ ?_ (.inl ⟨o.want B,fun w' C=>by rw[y];exact hr w' C.2⟩) (.inr (.inl ?_)) ?_
 ·intro w1 w2 s m
  exact ⟨ed s.1 m.size,fun b d h1 e=>(m.blk b (ep d s.1) e).trans (s.2 b d h1 e)⟩
 ·intro w' m
  exact ⟨ed x m.size,fun b d h1 e=>m.blk b (ep d x) e⟩
 ·intro w1 w2 s m
  have:=m h0.size bs hz;exact ⟨ed s.1 this.1,fun b d h1 e=>(this.2 b d h1).trans (s.2 b d h1 e)⟩
 ·rw[c.dst]
  exact k p hM g f _ (o.put c.tn v)
def kS (n:Nat)(ops:Array Oper)(k0:Nat)(AL:List Al)(L:Array Bool)(i t:Nat):Bool :=
  let o:=av ops i
  decide (i<ops.size) && decide (i<k0) && Region.noSelect ops && (L.size == ops.size) && (L.getD i true == false) &&
  ((i0 ops.size).all fun j=>L.getD j true || j == i || AL.any (·.i == j) || (av ops j).after.any fun e=>Region.binds .any e && (L.getD e.on false == false) && AL.all (·.i != e.on)) &&
  (o.after.all fun e=>!Region.binds .any e || L.getD e.on false || AL.any (·.i == e.on)) &&
  oH ops AL i o && (o.dst == some t) && decide (t<n)
theorem Rg.event (i t:Nat)(B:(kS n ops k0 AL L i t && ba Γ (av ops i))=true)(hw:bu ops Γ (av ops i)=some true)
  (H:∀ w' D,Up w h w' D ->
   (∃ v c b,(execOp (ev Γ) (av ops i)).run P w'=.ok (.value v) c/\UpM M.l w' D c b/\EG M P n N R X ops k0 h0 AL (L.setIfInBounds i true) ((t,v)::Γ) c b) \/
   (∃ f args,(execOp (ev Γ) (av ops i)).run P w'=.ok (.enter f args) w'/\Calls P f args w' (fun e c=>∃ v b,e=.returned v/\UpM M.l w' D c b/\EG M P n N R X ops k0 h0 AL (L.setIfInBounds i true) ((t,v)::Γ) c b))) :
  EG M P n N R X ops k0 h0 AL L Γ w h:=by
 rw[hI] at B
 obtain ⟨B,V⟩:=B
 unfold kS at B
 simp only[hI,decide_eq_true_eq,beq_iff_eq] at B
 obtain ⟨⟨⟨⟨⟨⟨⟨⟨⟨h1,h2⟩,Y⟩,h4⟩,h5⟩,h6⟩,h7⟩,h8⟩,Z⟩,C⟩:=B;have d:=bN (ops:=ops) h1;intro z hM g F a J;have e1:=J.exec (Region.noSelect_spec Y i _ · · d) V;refine E.event0 d h2 Y h4 h5 ?_ ?_ (f9 h8) z hM g F ?_
 ·intro j oj W K U S
  have I:=(g3.1 W).1;have e:oj=av ops j:=by have:=bN (ops:=ops) I;rw[W] at this;injection this
  have:=(hS.1 h6) j (i1.2 I)
  simp only[i3,K,mz,false_or,beq_iff_eq,U,m3,la,hI] at this
  rcases this with ⟨x,hx,hxe⟩|⟨x,hx,⟨Q,hL⟩,hno⟩
  ·exact absurd hxe (S x hx)
  ·rw[e]
   refine ⟨_,l4 hx,Q,hL,fun y hy=>?_⟩;have:=(hS.1 hno) y hy
   simpa using this
 ·intro e O Q
  have:=(hO.1 h7) e O
  simp only[i3,Q,nn,mz,false_or,m3,beq_iff_eq] at this
  exact this
 ·intro w' D u
  refine ⟨J.want hw,?_⟩;rw[e1];have o:=ed F u.gr.size
  rcases H w' D u with ⟨v,c,b,hr,p,k⟩|⟨f,args,hr,hcall⟩
  ·exact .inl ⟨v,c,hr,b,p,by rw[Z];exact k z hM p.g (ed o p.gr.size) _ (J.put C v)⟩
  ·exact .inr (.inr ⟨f,args,hr,hcall.mono fun e c ⟨v,b,O,p,k⟩=>⟨v,O,b,p,by rw[Z];exact k z hM p.g (ed o p.gr.size) _ (J.put C v)⟩⟩)
theorem Rg.call (i t f:Nat)(args:Array Value)(c:(kS n ops k0 AL L i t && ba Γ (av ops i))=true)(b:bu ops Γ (av ops i)=some true)
 (hr:∀ w',(execOp (ev Γ) (av ops i)).run P w'=.ok (.enter f args) w')
 (H:∀ w' a,Up w h w' a->Calls P f args w' (fun e w''=>∃ v h'',e=.returned v/\UpM M.l w' a w'' h''/\EG M P n N R X ops k0 h0 AL (L.setIfInBounds i true) ((t,v)::Γ) w'' h'')) :
 EG M P n N R X ops k0 h0 AL L Γ w h:=Rg.event i t c b (fun w' a u=>.inr ⟨f,args,hr w',H w' a u⟩)
def fl (ops:Array Oper)(AL:List Al)(L:Array Bool):Bool :=
  (L.size == ops.size) && ((i0 ops.size).all fun j=>L.getD j true || AL.any (·.i == j) || AL.all fun x=>(av ops j).after.any fun e=>Region.binds .any e && e.on == x.i) && AL.all (fun x=>L.getD x.i true == false)
theorem Rg.fin (c:fl ops AL L=true)(f:(AL.map (·.i)).Nodup)
  (H:∀ a,Kn n a Γ->∀ w' h',Up w h w' h'->∀ S:List SA,(S.map (·.1)).Perm AL->(∀ s∈S,Blk h0 w' h' s)->(S.map (·.2)).Nodup->A M P ops (iH N R X) k0 (dM L S) (addA a S) w') :
  EG M P n N R X ops k0 h0 AL L Γ w h:=by
 unfold fl at c
 simp only[hI,beq_iff_eq] at c
 obtain ⟨⟨h1,z⟩,D⟩:=c;intro l hM _ o a u;refine E.fin0 h1 ?_ ?_ l hM o f (H a u)
 ·intro j B p k
  have b:=(g3.1 p).1;have e:B=av ops j:=by have:=bN (ops:=ops) b;rw[p] at this;injection this
  have:=(hS.1 z) j (i1.2 b)
  simp only[i3,k,mz,false_or,m3,beq_iff_eq] at this
  rcases this with h4|h4
  ·exact .inl h4
  ·refine .inr fun x d=>?_
   have:=(hS.1 h4) x d
   simp only[la,hI,beq_iff_eq] at this
   obtain ⟨y,F,C⟩:=this;rw[e];exact ⟨_,l4 F,C⟩
 ·intro x d
  have:=(hS.1 D) x d
  simpa using this
theorem Rg.fin0 (d:fl ops [] L=true)(H:∀ w' b,Up w h w' b->AG M P n N R X ops k0 L Γ w'):EG M P n N R X ops k0 h0 [] L Γ w h:=by
 refine Rg.fin d (by simp) ?_;intro a e w' b u S c _ _;have:S=[]:=by simpa using c.length_eq
 subst this;exact H w' b u a e
theorem Rg.fin1 {x:Al}(d:(fl ops [x] L && decide (x.t<n))=true) 
    (H:∀ w' c b,Up w h w' c->Blk h0 w' c (x,b)->AG M P n N R X ops k0 (L.setIfInBounds x.i true) ((x.t,.pointer (some ⟨b,0,none⟩))::Γ) w'):EG M P n N R X ops k0 h0 [x] L Γ w h:=by
  rw[hI,decide_eq_true_eq] at d
  refine Rg.fin d.1 (by simp) ?_;intro a k w' c u S e j _;have f:=e.length_eq
  match S,f with
  | [s],_ =>
    have:s.1=x:=by simpa using e
    obtain ⟨y,b⟩:=s
    simp at this
    subst this;exact H w' c b u (j _ (by simp)) _ (k.put d.2 _)
theorem Rg.fin2 {x y:Al}(z:(fl ops [x,y] L && decide (x.t<n) && decide (y.t<n) && (x.t != y.t) && (x.i != y.i))=true) 
    (H:∀ w' l b c,Up w h w' l->Blk h0 w' l (x,b)->Blk h0 w' l (y,c)->b≠c->AG M P n N R X ops k0 ((L.setIfInBounds y.i true).setIfInBounds x.i true) ((x.t,.pointer (some ⟨b,0,none⟩))::(y.t,.pointer (some ⟨c,0,none⟩))::Γ) w'):EG M P n N R X ops k0 h0 [x,y] L Γ w h:=by
  simp only[hI,decide_eq_true_eq,bne_iff_ne,ne_eq] at z
  obtain ⟨⟨⟨⟨z,h1⟩,J⟩,Z⟩,D⟩:=z;refine Rg.fin z (by simp[D]) ?_;intro a F w' l u S I B hn;have V:=I.length_eq
  match S,V with
  | [s, t],_ =>
    obtain ⟨f,b⟩:=s;obtain ⟨j,c⟩:=t;have p:b≠c:=by simpa using hn
    have U:f=x/\j=y\/f=y/\j=x:=by
      have k:[f,j].Perm [x,y]:=by simpa using I
      have O:f∈[x,y]:=k.mem_iff.1 (by simp);have m2:x∈[f,j]:=k.mem_iff.2 (by simp);have K:y∈[f,j]:=k.mem_iff.2 (by simp);have o:x≠y:=fun e=>D (by rw[e])
      simp at O m2 K
      rcases O with rfl|rfl
      . rcases K with e|e
        . exact absurd e.symm o
        . exact .inl ⟨rfl,e.symm⟩
      . rcases m2 with e|e
        . exact absurd e o
        . exact .inr ⟨rfl,e.symm⟩
    rcases U with ⟨rfl,rfl⟩|⟨rfl,rfl⟩
    . exact H w' l b c u (B _ (by simp)) (B _ (by simp)) p _ ((F.put J _).put h1 _)
    . have Q:dM L [(f,b),(j,c)]=(L.setIfInBounds f.i true).setIfInBounds j.i true:=e6 _ _ D
      have W:addA a [(f,b),(j,c)]=(a.put (some f.t) (.pointer (some ⟨b,0,none⟩))).put (some j.t) (.pointer (some ⟨c,0,none⟩)) :=
        Act.put_comm (x:=some j.t) (y:=some f.t) a _ _ (fun d Y C=>Z (Option.some.inj (Y.trans C.symm)))
      rw[Q,W];exact H w' l c b u (B _ (by simp)) (B _ (by simp)) (Ne.symm p) _ ((F.put J _).put h1 _)
def gR (ops:Array Oper)(k0:Nat)(L:Array Bool)(i:Nat):Bool :=
  decide (i<ops.size) && decide (k0<=i) && Region.noSelect ops && (Region.ready .any ops L == [i])
theorem A.one {a:Act}{i:Nat}(b:gR ops k0 L i=true){Q:Exit->Act->World->Prop}{o:Oper}(e:ops[i]?=some o){R':Value->World->Prop}(h:OpR P ops o a w R')(f:∀ v w',R' v w'->Tl M w w')
  (d:∀ v w',R' v w'->A M P ops Q k0 (L.setIfInBounds i true) (a.put o.dst v) w'):A M P ops Q k0 L a w:=by
 unfold gR at b
 simp only[hI,decide_eq_true_eq,beq_iff_eq] at b
 refine A.intro (fun h0=>by rw[b.2] at h0;cases h0) (fun j c=>?_);rw[b.2,n1] at c
 subst c;exact OpR.wpOp e h (fun v w' hr=>⟨Rl.tl b.1.1.2 (f v w' hr),d v w' hr⟩)
theorem jd {i:Nat}(a:gR ops k0 L i=true):ops[i]?=some (av ops i)/\Region.noSelect ops=true:=by
 unfold gR at a
 simp only[hI,decide_eq_true_eq,beq_iff_eq] at a
 exact ⟨bN a.1.1.1,a.1.2⟩
theorem T.val (i t:Nat)(v:Value)(w':World)(c:(gR ops k0 L i && ba Γ (av ops i) && ((av ops i).dst == some t) && decide (t<n))=true)(h:bu ops Γ (av ops i)=some true)
  (hr:(execOp (ev Γ) (av ops i)).run P w=.ok (.value v) w')(k:AG M P n N R X ops k0 (L.setIfInBounds i true) ((t,v)::Γ) w')(f:Tl M w w':=by exact Tl.refl _ _):AG M P n N R X ops k0 L Γ w:=by
 simp only[hI,decide_eq_true_eq,beq_iff_eq] at c
 obtain ⟨⟨⟨h1,l⟩,p⟩,o⟩:=c;obtain ⟨d,j⟩:=jd h1;intro a b;refine A.one h1 d (R':=fun u w1=>u=v/\w1=w') ⟨b.want h,.inl ⟨v,w',?_,rfl,rfl⟩⟩ (fun _ _ e=>e.2▸f) ?_
 ·rw[b.exec (Region.noSelect_spec j i _ · · d) l];exact hr
 ·rintro _ _ ⟨rfl,rfl⟩
  rw[p];exact k _ (b.put o _)
theorem T.store (i:Nat)(w':World)(c:(gR ops k0 L i && ba Γ (av ops i) && ((av ops i).dst == none))=true)(l:bu ops Γ (av ops i)=some true)
  (hr:(execOp (ev Γ) (av ops i)).run P w=.ok .skip w')(j:Tl M w w')(k:AG M P n N R X ops k0 (L.setIfInBounds i true) Γ w'):AG M P n N R X ops k0 L Γ w:=by
 simp only[hI,beq_iff_eq] at c
 obtain ⟨⟨h1,o⟩,h⟩:=c;obtain ⟨d,f⟩:=jd h1;intro a b;refine A.one h1 d (R':=fun u w1=>u=undef/\w1=w') ⟨b.want l,.inr (.inl ⟨w',?_,rfl,rfl⟩)⟩ (fun _ _ e=>e.2▸j) ?_
 ·rw[b.exec (Region.noSelect_spec f i _ · · d) o];exact hr
 ·rintro _ _ ⟨rfl,rfl⟩
  rw[h];exact k _ b
theorem T.done (c:(Region.ready .any ops L).isEmpty=true)(k:∀ a,Kn n a Γ->N a w):AG M P n N R X ops k0 L Γ w :=
 fun a b=>A.done c (k a b)
theorem T.next {y:Code}{N' R':Po}{X':Nat->Po}(b:(Region.ready .any ops L).isEmpty=true)(k:CG P n N' R' X' y Γ w):AG M P n (fun a w=>y.wp P (iH N' R' X') a w) R X ops k0 L Γ w :=
 fun a c=>A.done b (k a c)
end steps
section code
variable {P:Program}{n:Nat}{N R:Po}{X:Nat->Po}{Γ:ck}{w:World}
def kG (ops:Array Oper):Bool:=(i0 ops.size).all fun i=>(av ops i).after.all fun e=>!Region.binds .any e || decide (e.on<i)
theorem nr {M:Ms}{ops:Array Oper}{Q:Exit->Act->World->Prop}{k0:Nat}(h:kG ops=true):∀ (m k:Nat) (L:Array Bool) (a:Act) (w:World),k+m=ops.size->L.size=ops.size ->
    (∀ j,j<ops.size->L.getD j true=decide (j<k))->A M P ops Q k0 L a w->wpOps P ops Q (oi k m) a w:=by
  intro m
  induction m with
  | zero =>
    intro k L a w F p b d
    have hz:Region.ready .any ops L=[]:=by
      cases hr:Region.ready .any ops L with
      | nil=>rfl
      | cons i l =>
        have C:i∈Region.ready .any ops L:=by rw[hr];simp
        obtain ⟨h0,o,H,_⟩:=mem_ready.1 C;have hi:=(g3.1 H).1;rw[b i hi] at h0
        simp at h0
        omega
    show Q .normal a w
    unfold A at d
    cases z:rem L with
    | zero=>rw[z] at d;exact d.2
    | succ n=>rw[z] at d;exact d.1 hz
  | succ m ih =>
    intro k L a w F p b d;have f:k<ops.size:=by omega
    have c:k∈Region.ready .any ops L:=by
      refine mem_ready.2 ⟨by rw[b k f];simp,av ops k,bN f,fun e I K=>?_⟩;have h1:=(hS.1 h) k (i1.2 f);have y:=(hO.1 h1) e I
      simp only[K,nn,Bool.false_or,decide_eq_true_eq] at y
      have u:=b e.on oM;rw[show decide (e.on<k)=true by simp[y]] at u
      have D:e.on<L.size:=by omega
      simp[e4,D] at u ⊢
      exact u
    rw[ov,wpOps_cons]
    unfold A at d
    rw[d6 c] at d
    refine wpOp_mono (fun B w' J=>?_) (d.2 k c);refine ih (k+1) (L.setIfInBounds k true) B w' oM (by simpa using p) ?_ J.2;intro j x
    by_cases e:k=j
    . subst e
      simp[e4,p,x]
    . rw[getD_set_ne true e,b j x]
      congr 1
      simp only[eq_iff_iff]
      omega
theorem iF (m:Nat):rem (ow m false)=m:=by unfold rem;simp
theorem kU {m j:Nat}(a:j<m):(ow m false).getD j true=false:=by simp[e4,a]
theorem CG.region {id:Nat}{ops:Array Oper}{d:Bool}(M:Ms)(k0:Nat)(AL:List Al)(k:P.follows .mixedOrders=true)(c:kG ops=true){h:Hp}(g:G w h)(e:∀ x∈AL,AlOk P ops k0 x)(hM:∀ b∈M.l,b<h.size)
    (H:EG M P n N R X ops k0 h AL (ow ops.size false) Γ w h):CG P n N R X (.region id ops d) Γ w:=by
  intro a p;have i:∀ w' f,Up w h w' f->A M P ops (iH N R X) k0 (ow ops.size false) a w':=fun w' f u=>H e hM g (eb _) a p w' f u [] AL (List.Perm.refl _) (fun _ y=>by cases y) (by simp)
  cases d with
  | true =>
    refine wp_region_any k ?_;have h1:=i w.drew h (Up.drew (Up.refl g))
    unfold A at h1
    rw[iF] at h1
    exact kz _ _ _ _ _ _ _ _ _ h1
  | false =>
    refine wp_region ?_;rw[o0];exact nr c _ 0 _ a w oM (by simp) (fun j o=>by rw[kU o];simp) (i w h (Up.refl g))
theorem CG.seq {x y:Code}(H:CG P n (fun a w=>y.wp P (iH N R X) a w) R X x Γ w):CG P n N R X (.seq x y) Γ w:=by
 intro a c;refine wp_seq (wp_mono (H a c) ?_);intro e a w b;cases e<;>exact b
theorem CG.cond {c:Operand}{x y:Code}(t:Bool)(d:gW Γ c=true)(hv:ev Γ c=.bool t)(f:t=true->CG P n N R X x Γ w)(hf:t=false->CG P n N R X y Γ w):CG P n N R X (.cond c x y) Γ w :=
 fun a b=>wp_cond_split (by rw[b.eval d];exact hv) (fun e=>f e a b) (fun e=>hf e a b)
theorem CG.condT {c:Operand}{x y:Code}(a:gW Γ c=true)(hv:ev Γ c=.bool true)(b:CG P n N R X x Γ w):CG P n N R X (.cond c x y) Γ w:=CG.cond true a hv (fun _=>b) (fun e=>by cases e)
theorem CG.condF {c:Operand}{x y:Code}(a:gW Γ c=true)(hv:ev Γ c=.bool false)(b:CG P n N R X y Γ w):CG P n N R X (.cond c x y) Γ w:=CG.cond false a hv (fun e=>by cases e) (fun _=>b)
theorem CG.skip (H:∀ a,Kn n a Γ->N a w):CG P n N R X .skip Γ w:=fun a b=>wp_skip (H a b)
theorem CG.skipN {y:Code}{N' R':Po}{X':Nat->Po}(H:CG P n N' R' X' y Γ w):CG P n (fun a w=>y.wp P (iH N' R' X') a w) R X .skip Γ w:=fun a b=>wp_skip (H a b)
theorem CG.ret (H:∀ a,Kn n a Γ->R a w):CG P n N R X .ret Γ w:=fun a b=>wp_ret (H a b)
theorem CG.exit {id:Nat}(H:∀ a,Kn n a Γ->X id a w):CG P n N R X (.exit id) Γ w:=fun a b=>wp_exit (H a b)
theorem CG.block {id:Nat}{c:Code}(H:CG P n N R (fun i=>if i=id then N else X i) c Γ w):CG P n N R X (.block id c) Γ w:=by
 intro a f;refine wp_block (wp_mono (H a f) ?_);intro e a w d;cases e<;>try exact d
 rename_i i
 simp only[iH] at d
 simp only[Exit.inBlock,iH]
 split
 ·rename_i b;rw[if_pos b] at d;exact d
 ·rename_i b;rw[if_neg b] at d;exact d
theorem CG.to {c:Code}(Γ':ck)(d:jn Γ (Γ'.map (·.1))=Γ')(b:iD Γ'=iD Γ)(H:CG P n N R X c Γ' w):CG P n N R X c Γ w :=
 fun a e=>H a (e.mono (fun t v hv=>eT Γ (Γ'.map (·.1)) t v (by rw[d];exact hv)) b)
theorem Kn.to {a:Act}(k:Kn n a Γ)(Γ':ck)(c:jn Γ (Γ'.map (·.1))=Γ')(b:iD Γ'=iD Γ:=by kernel_rfl):Kn n a Γ' :=
 k.mono (fun t v hv=>eT Γ (Γ'.map (·.1)) t v (by rw[c];exact hv)) b
theorem CG.loop {c:Code}(I:Nat->ck->World->Prop)(m:Nat)(h0:I m Γ w)
    (u:∀ m Γ w,I m Γ w->CG P n (fun a w'=>∃ D j,D<m/\I D j w'/\Kn n a j) R X c Γ w):CG P n N R X (.loop c) Γ w:=by
  intro a F
  suffices key:∀ m a w Γ,I m Γ w->Kn n a Γ->∀ (b:Frame) (k:List Item) (cs:List Frame),∃ e C w',iH N R X e C w'/\Arrives P (lone (b.at a (.code c::.inLoop c::k)) cs w) b k cs e C w' by
    intro b k cs;obtain ⟨e,C,w',o,d⟩:=key m a w Γ h0 F b k cs;exact ⟨e,C,w',o,.of_steps (.one step_loop) d⟩
  intro m
  induction m using g2 with
  | _ m ih =>
    intro a w Γ L F b k cs;obtain ⟨e,h,f,o,d⟩:=u m Γ w L a F b (.inLoop c::k) cs;cases e with
    | normal =>
      obtain ⟨D,j,K,H,J⟩:=o;obtain ⟨B,z,y,p,i⟩:=ih D K h f j H J b k cs;exact ⟨B,z,y,p,.of_steps (Steps.trans d (.one step_inLoop)) i⟩
    | exit id=>exact ⟨.exit id,h,f,o,.pass (x:=.inLoop c) rfl (fun _ _=>.inl (by simp)) d⟩
    | goto l=>exact o.elim
    | ret=>exact ⟨.ret,h,f,o,.pass (x:=.inLoop c) rfl (fun _ _=>.inl (by simp)) d⟩
    | panic ch=>exact o.elim
    | outgrown=>exact o.elim
def envOf (l:List Value):ck:=go 0 l
where go:Nat->List Value->ck
  | _,[]=>[]
  | k,v::l=>(k,v)::go (k+1) l
theorem pH:∀ (l:List Value) (k t:Nat) (v:Value),(envOf.go k l).lookup t=some v->k<=t/\l[t-k]?=some v
  | [],_,_,_,h=>by simp[envOf.go] at h
  | u :: l,k,t,v,h=>by
    rw[envOf.go,g4] at h
    by_cases e:t=k
    . subst e;simp at h;subst h;exact ⟨eb _,by simp⟩
    . have b:(t == k)=false:=by simp[e]
      rw[b] at h
      obtain ⟨h1,a⟩:=pH l (k+1) t v h;refine ⟨by omega,?_⟩;obtain ⟨d,hd⟩:∃ d,t-k=d+1:=⟨t-k-1,by omega⟩;rw[hd];have:t-(k+1)=d:=by omega
      rw[this] at a
      simpa using a
theorem iZ {l:List Value}{t:Nat}{v:Value}(h:(envOf l).lookup t=some v):l[t]?=some v:=by
 have:=pH l 0 t v h
 simpa using this.2
def lf (P:Program)(fn:Func)(Ro:Ending->World->Prop):Po:=fun a w=>a.defers=[]/\∃ v,(results fn a.tmps).run P w=.ok v w/\Ro (.returned v) w
theorem enter {f:FuncId}{h:Func}{c:Code}{args:Array Value}{j:Ending->World->Prop}(hf:P.funcs[f]?=some h)(p:h.body=some c)(x:h.ntmps=n)(u:args.size<=n)(k:n<=1000000)
    (Γ0:ck)(d:Γ0=envOf args.toList)(H:CG P n (lf P h j) (lf P h j) (fun _ _ _=>False) c Γ0 w):Calls P f args w j:=by
  refine calls_of_wp hf p (wp_mono (H _ ⟨?_,?_,k,?_⟩) ?_)
  . show []=iD Γ0
    unfold iD
    cases e:Γ0.lookup 1000000 with
    | none=>rfl
    | some v =>
      rw[d] at e
      have h1:=iZ e;rw[o1 (by simp;omega)] at h1
      cases h1
  . simp;omega
  . intro t v _ hv
    rw[d] at hv
    have h1:=iZ hv
    have o:t<args.size:=by
      rcases co t args.size with hl|hl
      . exact hl
      . rw[o1 (by simpa using hl)] at h1;cases h1
    rw[et o]
    simpa using h1
  . intro e a w b
    cases e with
    | normal=>exact b
    | ret=>exact b
    | exit i=>exact b.elim
    | goto l=>exact b.elim
    | panic ch=>exact b.elim
    | outgrown=>exact b.elim
def LG (P:Program)(n:Nat)(N R:Po)(X:Nat->Po)(ops:Array Oper)(k:Nat)(Γ:ck)(w:World):Prop :=
  ∀ a,Kn n a Γ->wpOps P ops (iH N R X) (oi k (ops.size-k)) a w
theorem CG.listed {id:Nat}{ops:Array Oper}(H:LG P n N R X ops 0 Γ w):CG P n N R X (.region id ops false) Γ w :=
 fun a b=>wp_region (by rw[o0];exact H a b)
section listed
variable {ops:Array Oper}{k:Nat}
def gu (ops:Array Oper)(Γ:ck)(k:Nat):Bool:=decide (k<ops.size) && Region.noSelect ops && ba Γ (av ops k)
theorem LG.op (b:gu ops Γ k=true)(e:bu ops Γ (av ops k)=some true){R':Value->World->Prop}
  (h:∀ a,Kn n a Γ->OpR P ops (av ops k) a w R')(d:∀ a v w',Kn n a Γ->R' v w'->wpOps P ops (iH N R X) (oi (k+1) (ops.size-(k+1))) (a.put (av ops k).dst v) w'):LG P n N R X ops k Γ w:=by
 unfold gu at b
 simp only[hI,decide_eq_true_eq] at b
 intro a c;obtain ⟨m,hm⟩:∃ m,ops.size-k=m+1:=⟨ops.size-k-1,by omega⟩;rw[hm,ov,wpOps_cons];refine OpR.wpOp (bN b.1.1) (h a c) (fun v w' hr=>?_);have:=d a v w' c hr;rw[show ops.size-(k+1)=m by omega] at this
 exact this
theorem LG.val (t:Nat)(v:Value)(w':World)(e:(gu ops Γ k && ((av ops k).dst == some t) && decide (t<n))=true)(d:bu ops Γ (av ops k)=some true)
  (hr:(execOp (ev Γ) (av ops k)).run P w=.ok (.value v) w')(H:LG P n N R X ops (k+1) ((t,v)::Γ) w'):LG P n N R X ops k Γ w:=by
 simp only[hI,decide_eq_true_eq,beq_iff_eq] at e
 obtain ⟨⟨h1,h⟩,f⟩:=e;have b:=h1
 unfold gu at b
 simp only[hI,decide_eq_true_eq] at b
 refine LG.op h1 d (R':=fun u w1=>u=v/\w1=w') (fun a c=>⟨c.want d,.inl ⟨v,w',?_,rfl,rfl⟩⟩) ?_
 ·rw[c.exec (Region.noSelect_spec b.1.2 k _ · · (bN b.1.1)) b.2];exact hr
 ·rintro a _ _ c ⟨rfl,rfl⟩
  rw[h];exact H _ (c.put f _)
theorem LG.out (t:Nat)(b:(decide (k<ops.size) && ((av ops k).dst == some t) && decide (t<n))=true)(e:bu ops Γ (av ops k)=some false)
  (H:LG P n N R X ops (k+1) ((t,undef)::Γ) w):LG P n N R X ops k Γ w:=by
 simp only[hI,decide_eq_true_eq,beq_iff_eq] at b
 obtain ⟨⟨h1,f⟩,d⟩:=b;intro a c;obtain ⟨m,hm⟩:∃ m,ops.size-k=m+1:=⟨ops.size-k-1,by omega⟩;rw[hm,ov,wpOps_cons]
 unfold wpOp
 simp only[bN h1,c.want e,mz,if_false]
 have:=H _ (c.put d undef);rw[show ops.size-(k+1)=m by omega] at this
 rw[f];exact this
theorem LG.store (w':World)(e:(gu ops Γ k && ((av ops k).dst == none))=true)(d:bu ops Γ (av ops k)=some true)
  (hr:(execOp (ev Γ) (av ops k)).run P w=.ok .skip w')(H:LG P n N R X ops (k+1) Γ w'):LG P n N R X ops k Γ w:=by
 simp only[hI,beq_iff_eq] at e
 obtain ⟨h1,f⟩:=e;have b:=h1
 unfold gu at b
 simp only[hI,decide_eq_true_eq] at b
 refine LG.op h1 d (R':=fun u w1=>w1=w') (fun a c=>⟨c.want d,.inr (.inl ⟨w',?_,rfl⟩)⟩) ?_
 ·rw[c.exec (Region.noSelect_spec b.1.2 k _ · · (bN b.1.1)) b.2];exact hr
 ·rintro a _ _ c rfl
  rw[f];exact H _ c
theorem LG.call (t f:Nat)(args:Array Value)(i:(gu ops Γ k && ((av ops k).dst == some t) && decide (t<n))=true)(d:bu ops Γ (av ops k)=some true)
  (hr:(execOp (ev Γ) (av ops k)).run P w=.ok (.enter f args) w)(H:Calls P f args w (fun e w'=>∃ v,e=.returned v/\LG P n N R X ops (k+1) ((t,v)::Γ) w')):LG P n N R X ops k Γ w:=by
 simp only[hI,decide_eq_true_eq,beq_iff_eq] at i
 obtain ⟨⟨h1,l⟩,j⟩:=i;have b:=h1
 unfold gu at b
 simp only[hI,decide_eq_true_eq] at b
 refine LG.op h1 d (R':=fun v w'=>LG P n N R X ops (k+1) ((t,v)::Γ) w') (fun a c=>⟨c.want d,.inr (.inr ⟨f,args,?_,H⟩)⟩) ?_
 ·rw[c.exec (Region.noSelect_spec b.1.2 k _ · · (bN b.1.1)) b.2];exact hr
 ·rintro a v w' c h
  rw[l];exact h _ (c.put j _)
theorem LG.done (b:(k == ops.size)=true)(H:∀ a,Kn n a Γ->N a w):LG P n N R X ops k Γ w:=by
 simp only[beq_iff_eq] at b
 subst b;intro a c;rw[o2];exact H a c
theorem LG.next {y:Code}{N' R':Po}{X':Nat->Po}(b:(k == ops.size)=true)(H:CG P n N' R' X' y Γ w):LG P n (fun a w=>y.wp P (iH N' R' X') a w) R X ops k Γ w:=LG.done b H
end listed
theorem aw {ops:Array Oper}{k0:Nat}:∀ x∈([]:List Al),AlOk P ops k0 x:=fun _ h=>by cases h
theorem dz {ops:Array Oper}{k0:Nat}{x:Al}{l:List Al}(h:AlOk P ops k0 x)(k:∀ y∈l,AlOk P ops k0 y):∀ y∈x::l,AlOk P ops k0 y:=fun y a=>by
 rcases gq.1 a with rfl|a
 ·exact h
 ·exact k y a
def CQ (ops:Array Oper)(k0:Nat)(x:Al):Bool:=decide (x.i<ops.size) && ((av ops x.i).dst == some x.t) && (av ops x.i).guard.isNone && (av ops x.i).after.isEmpty && decide (x.i<k0)
theorem lu {ops:Array Oper}{k0:Nat}{x:Al}(a:CQ ops k0 x=true)(hr:∀ (ρ:Operand->Value) (w:World),(execOp ρ (av ops x.i)).run P w=.ok (.value (.pointer (some ⟨w.heap.size,0,none⟩))) (w.alloc x.o)):AlOk P ops k0 x:=by
 unfold CQ at a
 simp only[hI,decide_eq_true_eq,beq_iff_eq,Option.isNone_iff_eq_none,Array.isEmpty_iff] at a
 exact ⟨⟨_,bN a.1.1.1.1,a.1.1.1.2,a.1.1.2,a.1.2,hr⟩,a.2⟩
end code
def bP {α:Type}(P:Program):Sem α->List Value->Option (α × List Addr)
  | .pure a,_=>some (a,[])
  | .load _ a k,v::vs=>(bP P (k v) vs).map fun r=>(r.1,a::r.2)
  | .program k,vs=>bP P (k P) vs
  | .mark _ k,vs=>bP P k vs
  | _,_=>none
theorem bH {α:Type}{P:Program}{w:World}:∀ (s:Sem α) (vs:List Value) (r:α) (l:List Addr),bP P s vs=some (r,l) ->
    (∀ (i:Nat) a v,l[i]?=some a->vs[i]?=some v->w.cell? a=some v)->s.run P w=.ok r w:=by
  intro s
  induction s with
  | pure a=>intro vs r l h _;simp[bP] at h;simp[Sem.run,h.1]
  | load m a k ih =>
    intro vs r l h b;cases vs with
    | nil=>simp[bP] at h
    | cons v vs =>
      simp only[bP,pa] at h
      obtain ⟨⟨f,e⟩,h1,d⟩:=h
      injection d with e1 e2
      subst e1;subst e2;have h0:=b 0 a v (by simp) (by simp)
      simp only[Sem.run,h0]
      exact ih v vs _ _ h1 (fun i c v' ha hv=>b (i+1) c v' (by simpa using ha) (by simpa using hv))
  | program k ih=>intro vs r l h b;exact ih P vs r l h b
  | mark m k ih=>intro vs r l h b;exact ih vs r l h b
  | _=>intro vs r l h _;simp[bP] at h
def dq {α:Type}(P:Program):Sem α->Option (α × List (Addr × Value))
  | .pure a=>some (a,[])
  | .store _ _ (.agg _) _=>none
  | .store _ _ (.tuple _) _=>none
  | .store _ a v k=>(dq P k).map fun r=>(r.1,(a,v)::r.2)
  | .program k=>dq P (k P)
  | .mark _ k=>dq P k
  | _=>none
structure Put (b:Nat) (w w':World):Prop where
  os:w'.os=w.os
  tape:w'.tape=w.tape
  output:w'.output=w.output
  size:w'.heap.size=w.heap.size
  blk:∀ c,c≠b->w'.heap[c]?=w.heap[c]?
theorem Put.tl {b:Nat}{w w':World}(p:Put b w w'){M:Ms}(hz:∀ K bs,M.z=some (K,bs)->K<=b\/b∈bs):Tl M w w':=fun K bs e=>⟨Nat.le_of_eq p.size.symm,fun c d a=>p.blk c (fun h=>by
 rcases hz K bs e with h1|h1
 ·omega
 ·exact a (h▸h1))⟩
theorem Put.refl (b:Nat)(w:World):Put b w w:=⟨rfl,rfl,rfl,rfl,fun _ _=>rfl⟩
theorem Put.trans {b:Nat}{w1 w2 w3:World}(p:Put b w1 w2)(q:Put b w2 w3):Put b w1 w3 :=
 ⟨q.os.trans p.os,q.tape.trans p.tape,q.output.trans p.output,q.size.trans p.size,fun c a=>(q.blk c a).trans (p.blk c a)⟩
theorem Put.set (w:World)(p:Addr)(v:Value):Put p.block w (w.setCell p v) :=
 ⟨rfl,rfl,rfl,by simp,fun c a=>Below.heap_setCell _ _ _ _ a⟩
def Own (w:World)(b:Nat)(t:TypeId)(vs:List Value):Prop:=w.heap[b]?=some (.cells vs.toArray t (0,0))
theorem Own.cell {w:World}{b:Nat}{t:TypeId}{vs:List Value}(h:Own w b t vs)(i:Nat):w.cell? ⟨b,i,none⟩=vs[i]?:=by
 unfold World.cell?;rw[show w.heap[b]?=_ from h];simp
theorem Own.frozen {w:World}{b:Nat}{t:TypeId}{vs:List Value}(h:Own w b t vs)(i:Nat):w.frozen? ⟨b,i,none⟩=false:=by
 unfold World.frozen?;rw[show w.heap[b]?=_ from h];simp
theorem Own.set {w:World}{b:Nat}{t:TypeId}{vs:List Value}(h:Own w b t vs)(i:Nat)(v:Value):Own (w.setCell ⟨b,i,none⟩ v) b t (vs.set i v):=by
 unfold Own World.setCell
 simp only[Array.getElem?_modify,if_true,show w.heap[b]?=_ from h,pc]
 simp
theorem Own.lt {w:World}{b:Nat}{t:TypeId}{vs:List Value}(h:Own w b t vs):b<w.heap.size:=by
 rcases co b w.heap.size with hl|hl
 ·exact hl
 ·unfold Own at h;rw[ea hl] at h;cases h
theorem Own.ext {w w':World}{b:Nat}{t:TypeId}{vs:List Value}(h:Own w b t vs)(x:Ext w w'):Own w' b t vs:=(Below.block x b h.lt).trans h
def cj (vs:List Value)(o:Nat):List Value->List Value
  | []=>vs
  | c::cs=>cj (vs.set o c) (o+1) cs
def mj (b o:Nat):List Value->List (Addr × Value)
  | []=>[]
  | c::cs=>(⟨b,o,none⟩,c)::mj b (o+1) cs
theorem fa {α:Type}{P:Program}{b:Nat}{t:TypeId}:∀ (s:Sem α) (r:α) (o:Nat) (cs vs:List Value) (w:World),dq P s=some (r,mj b o cs)->Own w b t vs->o+cs.length<=vs.length ->
    ∃ w',s.run P w=.ok r w'/\Put b w w'/\Own w' b t (cj vs o cs):=by
  intro s
  induction s with
  | pure a =>
    intro r o cs vs w h d _
    simp only[dq,Option.some.injEq,Prod.mk.injEq] at h
    obtain ⟨h1,i⟩:=h;cases cs with
    | nil=>exact ⟨w,by simp[Sem.run,h1],Put.refl _ _,d⟩
    | cons c cs=>simp[mj] at i
  | store m a v k ih =>
    intro r o cs vs w h d f
    have y:∃ e,dq P k=some e/\(e.1,(a,v)::e.2)=(r,mj b o cs)/\(∀ l,v≠.agg l)/\∀ l,v≠.tuple l:=by
      cases v<;>simp only[dq,pa] at h<;>first|(obtain ⟨e,h1,i⟩:=h;exact ⟨e,h1,i,by simp,by simp⟩)|cases h
    obtain ⟨⟨e,D⟩,h1,i,C,B⟩:=y
    injection i with e1 e2
    cases cs with
    | nil=>simp[mj] at e2
    | cons c cs =>
      simp only[mj,List.cons.injEq,Prod.mk.injEq] at e2
      obtain ⟨⟨z,ev⟩,p⟩:=e2;subst z;subst ev;subst p;subst e1
      simp only[List.length_cons] at f
      have u:w.cell? ⟨b,o,none⟩=some (vs[o]'oM):=by rw[d.cell,List.getElem?_eq_getElem]
      obtain ⟨w',hr,x,j⟩:=ih _ (o+1) cs (vs.set o v) (w.setCell ⟨b,o,none⟩ v) h1 (d.set o v) (by simp;omega);refine ⟨w',?_,(Put.set w ⟨b,o,none⟩ v).trans x,j⟩
      have:(Sem.store m ⟨b,o,none⟩ v k).run P w=k.run P (w.setCell ⟨b,o,none⟩ v):=by
        cases v<;>first|(simp only[Sem.run,u,d.frozen];rfl)|exact absurd rfl (C _)|exact absurd rfl (B _)
      rw[this];exact hr
  | program k ih=>intro r o cs vs w h d f;exact ih P r o cs vs w h d f
  | mark m k ih=>intro r o cs vs w h d f;exact ih r o cs vs w h d f
  | _=>intro r o cs vs w h _ _;simp[dq] at h
structure Bx where
  b:Nat
  t:TypeId
  vs:List Value
  deriving Inhabited
structure St (w0:World) (h0:Hp) (w:World) (h:Hp) (B:List Bx):Prop where
  up:Up w0 h0 w h
  own:∀ x∈B,Own w x.b x.t x.vs
  jk:∀ x∈B,h[x.b]?=some junk
  lo:∀ x∈B,h0.size<=x.b
  nd:(B.map (·.b)).Nodup
theorem aI {h:Hp}{b:Nat}{o:Obj}(e:h[b]?=some o):b<h.size:=by
 rcases co b h.size with hl|hl
 ·exact hl
 ·rw[ea hl] at e;cases e
section st
variable {w0:World}{h0:Hp}{w:World}{h:Hp}{B:List Bx}
theorem St.start (g:G w h):St w h w h []:=⟨Up.refl g,fun _ a=>(by cases a),fun _ a=>(by cases a),fun _ a=>(by cases a),by simp⟩
theorem St.step (s:St w0 h0 w h B){w':World}{b:Hp}(u:Up w h w' b):St w0 h0 w' b B :=
 ⟨s.up.trans u,fun x a=>(s.own x a).ext u.ext,fun x a=>(u.gr.blk _ (aI (s.jk x a))).trans (s.jk x a),s.lo,s.nd⟩
theorem St.g (s:St w0 h0 w h B):G w h:=s.up.g
theorem St.sz (s:St w0 h0 w h B):h0.size<=h.size:=s.up.gr.size
theorem St.new {wr:World}{hr:Hp}{B':List Bx}{x:Al}{b:Nat}(j:St w0 h0 wr hr B')(s:St w0 h0 w h B)(hB:∀ y∈B,y.b<hr.size\/y.b≠b)(k:Blk hr w h (x,b))(t:TypeId)(vs:List Value)(f:x.o=.cells vs.toArray t (0,0)) :
  St w0 h0 w h (⟨b,t,vs⟩::B):=by
 obtain ⟨i,k2,d⟩:=k;refine ⟨s.up,?_,?_,?_,?_⟩
 ·intro y a
  rcases gq.1 a with rfl|a
  ·show w.heap[b]?=_
   rw[<-f];exact i
  ·exact s.own y a
 ·intro y a
  rcases gq.1 a with rfl|a
  ·exact k2
  ·exact s.jk y a
 ·intro y a
  rcases gq.1 a with rfl|a
  ·exact ed j.sz d
  ·exact s.lo y a
 ·refine gs.2 ⟨fun e=>?_,s.nd⟩
  obtain ⟨y,a,c⟩:=ga.1 e
  rcases hB y a with hl|hl
  ·have p:y.b=b:=c
   have l:hr.size<=b:=d
   omega
  ·exact hl c
theorem St.new1 {wr:World}{hr:Hp}{x:Al}{b:Nat}(a:St w0 h0 wr hr B)(s:St w0 h0 w h B)(k:Blk hr w h (x,b))(t:TypeId)(vs:List Value)(c:x.o=.cells vs.toArray t (0,0)) :
 St w0 h0 w h (⟨b,t,vs⟩::B):=St.new a s (fun y d=>.inl (aI (a.jk y d))) k t vs c
theorem St.new2 {wr:World}{hr:Hp}{x y:Al}{b c:Nat}(e:St w0 h0 wr hr B)(s:St w0 h0 w h B)(k:Blk hr w h (x,b))(k2:Blk hr w h (y,c))(d:b≠c)(t:TypeId)(vs:List Value)(j:x.o=.cells vs.toArray t (0,0))(i:TypeId)(a:List Value)(f:y.o=.cells a.toArray i (0,0)) :
  St w0 h0 w h (⟨b,t,vs⟩::⟨c,i,a⟩::B) :=
 St.new e (St.new1 e s k2 i a f) (fun z hz=>by
  rcases gq.1 hz with rfl|hz
  ·exact .inr (Ne.symm d)
  ·exact .inl (aI (e.jk z hz))) k t vs j
def aA (B:List Bx)(j:Nat):Bx:=B.getD j default
def fO (B:List Bx)(j o:Nat)(cs:List Value):List Bx:=B.set j { aA B j with vs:=cj (aA B j).vs o cs }
theorem bA {j:Nat}(h:j<B.length):aA B j∈B:=by
 unfold aA
 have:B.getD j default=B[j]:=by simp[h]
 rw[this];exact e5 h
theorem Up.put {b:Nat}{w':World}(u:Up w0 h0 w h)(p:Put b w w')(i:h[b]?=some junk)(d:h0.size<=b)(a:w0.heap.size=h0.size):Up w0 h0 w' h:=by
 refine ⟨⟨p.os.trans u.ext.os,p.tape.trans u.ext.tape,p.output.trans u.ext.output,by rw[p.size];exact u.ext.size,fun c f=>?_⟩,u.gr,⟨by rw[p.size];exact u.g.size,fun c=>?_⟩⟩
 ·rw[p.blk c oM]
  exact Below.block u.ext c f
 ·by_cases e:c=b
  ·subst e;exact .inr i
  ·rw[p.blk c e];exact u.g.blk c
theorem St.put (s:St w0 h0 w h B)(H:G w0 h0){j o:Nat}{cs:List Value}{w':World}(f:j<B.length)(p:Put (aA B j).b w w')(F:Own w' (aA B j).b (aA B j).t (cj (aA B j).vs o cs)):St w0 h0 w' h (fO B j o cs):=by
  have D:=bA f
  have a:(fO B j o cs).map (·.b)=B.map (·.b):=by
    unfold fO
    rw[pf]
    apply pk
    intro i
    by_cases e:j=i
    . subst e
      rw[pn (by simpa using f)]
      simp[aA,f]
    . rw[pr e]
  refine ⟨s.up.put p (s.jk _ D) (s.lo _ D) H.size,?_,?_,?_,by rw[a];exact s.nd⟩
  . intro x d
    obtain ⟨i,hi,c⟩:=pt.1 d;have k:i<B.length:=by simpa [fO] using hi
    by_cases e:j=i
    . subst e
      have:x={ aA B j with vs:=cj (aA B j).vs o cs }:=by rw[<-c];simp[fO]
      subst this;exact F
    . have z:x=B[i]:=by rw[<-c];simp[fO,e]
      subst z
      have l:B[i].b≠(aA B j).b:=by
        intro u
        have h1:(B.map (·.b))[i]'(by simpa using k)=(B.map (·.b))[j]'(by simpa using f):=by
          simp only[pv]
          rw[u]
          simp[aA,f]
        exact e ((pw s.nd).1 h1).symm
      show w'.heap[B[i].b]?=_
      rw[p.blk _ l];exact s.own _ (e5 k)
  . intro x d
    have:x.b∈(fO B j o cs).map (·.b):=ga.2 ⟨x,d,rfl⟩;rw[a] at this
    obtain ⟨y,C,c⟩:=ga.1 this;rw[<-c];exact s.jk y C
  . intro x d
    have:x.b∈(fO B j o cs).map (·.b):=ga.2 ⟨x,d,rfl⟩;rw[a] at this
    obtain ⟨y,C,c⟩:=ga.1 this;rw[<-c];exact s.lo y C
def kI (b o:Nat):Nat->List Addr
  | 0=>[]
  | n+1=>⟨b,o,none⟩::kI b (o+1) n
theorem d8 (b:Nat):∀ (n o i:Nat) (a:Addr),(kI b o n)[i]?=some a->a=⟨b,o+i,none⟩
  | 0,_,_,_,h=>by simp[kI] at h
  | n+1,o,0,a,h=>by simp[kI] at h;rw[<-h];rfl
  | n+1,o,i+1,a,h=>by
    have:=d8 b n (o+1) i a (by simpa [kI] using h);rw[this];congr 1;omega
def cg (B:List Bx):List (Nat × Nat × Nat)->List Value
  | []=>[]
  | p::ps=>((aA B p.1).vs.drop p.2.1).take p.2.2++cg B ps
def bO (B:List Bx):List (Nat × Nat × Nat)->List Addr
  | []=>[]
  | p::ps=>kI (aA B p.1).b p.2.1 p.2.2++bO B ps
def bR (B:List Bx)(ps:List (Nat × Nat × Nat)):Bool:=ps.all fun p=>decide (p.1<B.length) && decide (p.2.1+p.2.2<=(aA B p.1).vs.length)
theorem ii (b o n:Nat):(kI b o n).length=n:=by
 induction n generalizing o with
 | zero=>rfl
 | succ n ih=>simp[kI,ih]
theorem bQ (d:∀ x∈B,Own w x.b x.t x.vs):∀ (ps:List (Nat × Nat × Nat)),bR B ps=true->∀ (i:Nat) a v,(bO B ps)[i]?=some a->(cg B ps)[i]?=some v->w.cell? a=some v
  | [],_,i,a,v,h,_=>by simp[bO] at h
  | p :: ps,hok,i,a,v,ha,hv=>by
    unfold bR at hok
    rw[pR,hI] at hok
    obtain ⟨h1,e⟩:=hok
    simp only[hI,decide_eq_true_eq] at h1
    have c:(((aA B p.1).vs.drop p.2.1).take p.2.2).length=p.2.2:=by simp;omega
    unfold bO at ha
    unfold cg at hv
    rcases co i p.2.2 with hl|hl
    . rw[p0 (by rw[ii];exact hl)] at ha
      rw[p0 (by rw[c];exact hl)] at hv
      rw[d8 _ _ _ _ _ ha,(d _ (bA h1.1)).cell];rw[p1 hl,p2] at hv
      exact hv
    . rw[ql (by rw[ii];exact hl),ii] at ha
      rw[ql (by rw[c];exact hl),c] at hv
      exact bQ d ps e _ a v ha hv
theorem Own.mo {w w':World}{b:Nat}{t:TypeId}{vs:List Value}{M:List Nat}(h:Own w b t vs)(x:Mo M w w')(a:b ∉ M):Own w' b t vs:=(x.blk b h.lt a).trans h
theorem eN {M:List Nat}{d:List (Nat × Nat × Nat)}(hM:∀ p∈d,(aA B p.1).b ∉ M)(e:∀ x∈B,x.b ∉ M->Own w x.b x.t x.vs):∀ (ps:List (Nat × Nat × Nat)),(∀ p∈ps,p∈d)->bR B ps=true->∀ (i:Nat) a v,(bO B ps)[i]?=some a->(cg B ps)[i]?=some v->w.cell? a=some v
  | [],_,_,i,a,v,h,_=>by simp[bO] at h
  | p :: ps,hsub,hok,i,a,v,ha,hv=>by
    unfold bR at hok
    rw[pR,hI] at hok
    obtain ⟨h1,f⟩:=hok
    simp only[hI,decide_eq_true_eq] at h1
    have c:(((aA B p.1).vs.drop p.2.1).take p.2.2).length=p.2.2:=by simp;omega
    unfold bO at ha
    unfold cg at hv
    rcases co i p.2.2 with hl|hl
    . rw[p0 (by rw[ii];exact hl)] at ha
      rw[p0 (by rw[c];exact hl)] at hv
      rw[d8 _ _ _ _ _ ha,(e _ (bA h1.1) (hM p (hsub p (by simp)))).cell];rw[p1 hl,p2] at hv
      exact hv
    . rw[ql (by rw[ii];exact hl),ii] at ha
      rw[ql (by rw[c];exact hl),c] at hv
      exact eN hM e ps (fun q j=>hsub q (by simp[j])) f _ a v ha hv
end st
section own
variable {M:Ms}{P:Program}{n:Nat}{N R:Po}{X:Nat->Po}{ops:Array Oper}{k0:Nat}{hr:Hp}{AL:List Al}{L:Array Bool}{Γ:ck}{w:World}{h:Hp}{w0:World}{h0:Hp}{B:List Bx}
theorem Rg.own (i t:Nat)(ps:List (Nat × Nat × Nat))(v:Value)(s:St w0 h0 w h B)(f:(dj n ops k0 AL L i t && ba Γ (av ops i) && ij ops k0 i)=true)(e:bu ops Γ (av ops i)=some true)
  (hM:∀ p∈ps,(aA B p.1).b ∉ M.l)(d:bR B ps=true)(j:bP P (execOp (ev Γ) (av ops i)) (cg B ps)=some (.value v,bO B ps))
  (k:EG M P n N R X ops k0 hr AL (L.setIfInBounds i true) ((t,v)::Γ) w h):EG M P n N R X ops k0 hr AL L Γ w h :=
 Rg.load i t v f e (fun w' o=>bH _ _ _ _ j (eN hM (fun x c a=>(s.own x c).mo o a) ps (fun _ h=>h) d)) k
theorem T.put (i j o:Nat)(cs:List Value)(s:St w0 h0 w h B)(x:G w0 h0)(p:(gR ops k0 L i && ba Γ (av ops i) && ((av ops i).dst == none))=true)(l:bu ops Γ (av ops i)=some true)
  (f:(decide (j<B.length) && decide (o+cs.length<=(aA B j).vs.length))=true)(u:dq P (execOp (ev Γ) (av ops i))=some (.skip,mj (aA B j).b o cs))
  (k:∀ w',Put (aA B j).b w w'->St w0 h0 w' h (fO B j o cs)->AG M P n N R X ops k0 (L.setIfInBounds i true) Γ w')(hz:∀ K bs,M.z=some (K,bs)->K<=(aA B j).b\/(aA B j).b∈bs:=by intro _ _ e;cases e):AG M P n N R X ops k0 L Γ w:=by
 simp only[hI,decide_eq_true_eq] at f
 obtain ⟨w',c,a,d⟩:=fa _ _ _ _ _ w u (s.own _ (bA f.1)) f.2;exact T.store i w' p l c (a.tl hz) (k w' a (s.put x f.1 a d))
theorem LG.own {k:Nat}(t:Nat)(ps:List (Nat × Nat × Nat))(v:Value)(s:St w0 h0 w h B)(c:(gu ops Γ k && ((av ops k).dst == some t) && decide (t<n))=true)(b:bu ops Γ (av ops k)=some true)
  (a:bR B ps=true)(d:bP P (execOp (ev Γ) (av ops k)) (cg B ps)=some (.value v,bO B ps))
  (H:LG P n N R X ops (k+1) ((t,v)::Γ) w):LG P n N R X ops k Γ w :=
 LG.val t v w c b (bH _ _ _ _ d (bQ s.own ps a)) H
theorem LG.put {k:Nat}(j o:Nat)(cs:List Value)(s:St w0 h0 w h B)(p:G w0 h0)(i:(gu ops Γ k && ((av ops k).dst == none))=true)(f:bu ops Γ (av ops k)=some true)
  (e:(decide (j<B.length) && decide (o+cs.length<=(aA B j).vs.length))=true)(l:dq P (execOp (ev Γ) (av ops k))=some (.skip,mj (aA B j).b o cs))
  (H:∀ w',Put (aA B j).b w w'->St w0 h0 w' h (fO B j o cs)->LG P n N R X ops (k+1) Γ w'):LG P n N R X ops k Γ w:=by
 simp only[hI,decide_eq_true_eq] at e
 obtain ⟨w',c,a,d⟩:=fa _ _ _ _ _ w l (s.own _ (bA e.1)) e.2;exact LG.store w' i f c (H w' a (s.put p e.1 a d))
theorem LG.var {k:Nat}(t:Nat)(ty:TypeId)(vs:List Value)(s:St w0 h0 w h B)(c:(gu ops Γ k && ((av ops k).dst == some t) && decide (t<n))=true)(a:bu ops Γ (av ops k)=some true)
  (hr:(execOp (ev Γ) (av ops k)).run P w=.ok (.value (.pointer (some ⟨w.heap.size,0,none⟩))) (w.alloc (.cells vs.toArray ty (0,0))))
  (H:∀ b w' h',h.size<=b->Up w h w' h'->St w0 h0 w' h' (⟨b,ty,vs⟩::B)->LG P n N R X ops (k+1) ((t,.pointer (some ⟨b,0,none⟩))::Γ) w'):LG P n N R X ops k Γ w:=by
 have u:Up w h (w.alloc (.cells vs.toArray ty (0,0))) (h.push junk):=Up.allocAny s.g _ _ (.inr rfl);refine LG.val t _ _ c a hr (H _ _ _ (by rw[s.g.size];exact eb _) u (St.new1 (x:=⟨0,0,.cells vs.toArray ty (0,0)⟩) s (s.step u) ⟨?_,?_,?_⟩ ty vs rfl))
 ·rw[dw];exact e0
 ·rw[s.g.size];exact e0
 ·show h.size<=w.heap.size;rw[s.g.size];exact eb _
def mm (fn:Func)(Γ:ck):Sem Value:=do
  let vs <-fn.results.mapM fun
    | .tmp t=>Pure.pure (ev Γ (.tmp t))
    | .cell a t=>do loadVar t (<-asAddr (ev Γ (.tmp a)))
  Pure.pure (if h:vs.size=1 then vs[0] else .tuple vs)
def FM (fn:Func)(Γ:ck):Bool:=fn.results.all fun|.tmp t=>gW Γ (.tmp t)|.cell a _=>gW Γ (.tmp a)
def kW (fn:Func)(Γ:ck):Bool:=(iD Γ).isEmpty && FM fn Γ
theorem kJ {a:Func}{Γ:ck}(h:kW a Γ=true):iD Γ=[]:=by
 unfold kW at h;rw[hI] at h;exact List.isEmpty_iff.1 h.1
theorem pU {α β:Type}(l:List α)(f g:α->Sem β)(h:∀ x∈l,f x=g x):l.mapM f=l.mapM g:=by
 induction l with
 | nil=>rfl
 | cons a l ih=>rw[q0,q0,h a (by simp),ih (fun x b=>h x (by simp[b]))]
theorem n9 {b:Func}{a:Act}(c:Kn n a Γ)(f:FM b Γ=true):results b a.tmps=mm b Γ:=by
 unfold results mm
 have e:∀ x∈b.results.toList,((match x with|.tmp t=>Pure.pure (a.tmps.getD t undef)|.cell ad t=>(do loadVar t (<-asAddr (a.tmps.getD ad undef)))):Sem Value)=((match x with|.tmp t=>Pure.pure (ev Γ (.tmp t))|.cell ad t=>(do loadVar t (<-asAddr (ev Γ (.tmp ad))))):Sem Value):=by
  intro x d;have h1:=(hO.1 f) x (by simpa using d);cases x with
  | tmp t=>have:=c.eval h1;simp only[Act.eval] at this;simp only[this]
  | cell ad t=>have:=c.eval h1;simp only[Act.eval] at this;simp only[this]
 rw[q8,q8]
 congr 2
 exact pU _ _ _ e
theorem fD {c:Func}{a:Act}(d:Kn n a Γ)(b:kW c Γ=true):results c a.tmps=mm c Γ :=
 n9 d (by unfold kW at b;rw[hI] at b;exact b.2)
def Ret (w0:World)(h0:Hp)(Φ:Value->Hp->Prop):Ending->World->Prop:=fun e w'=>∃ v h',e=.returned v/\Up w0 h0 w' h'/\Φ v h'
theorem HL {c:Func}{Φ:Value->Hp->Prop}(s:St w0 h0 w h B)(ps:List (Nat × Nat × Nat))(v:Value)(b:(kW c Γ && bR B ps)=true)(f:bP P (mm c Γ) (cg B ps)=some (v,bO B ps))(d:Φ v h) :
  ∀ a,Kn n a Γ->lf P c (Ret w0 h0 Φ) a w:=by
 intro a e;rw[hI] at b
 refine ⟨e.df.trans (kJ b.1),v,?_,v,h,rfl,s.up,d⟩;rw[fD e b.1];exact bH _ _ _ _ f (bQ s.own ps b.2)
theorem Ret.of_ext {f:FuncId}{args:Array Value}{V:Value}{w:World}{h:Hp}(g:G w h)(c:Calls P f args w fun e w'=>e=.returned V/\Ext w w'):Calls P f args w (Ret w h fun v _=>v=V) :=
 c.mono fun e w' ⟨a,b⟩=>by
  obtain ⟨d,u⟩:=g.lift b;exact ⟨V,d,a,u,rfl⟩
end own
abbrev CV (f:FuncId)(a:Array Value)(w:World)(h:Hp)(x:Value):Prop:=Calls Tryz.prog f a w (Ret w h fun v _=>v=x)
abbrev CR (f:FuncId)(a:Array Value)(w:World)(h:Hp)(Φ:Value->Hp->Prop):Prop:=Calls Tryz.prog f a w (Ret w h Φ)
def ee (h:Hp)(b i:Nat):Option Value :=
  match h[b]? with
  | some (.cells c _ _)=>c[i]?
  | _=>none
structure Gw (h h':Hp):Prop where
  size:h.size<=h'.size
  blk:∀ b:Nat,b<h.size->h'[b]?=h[b]?\/h[b]?=some junk
theorem Gr.gw {h a:Hp}(u:Gr h a):Gw h a:=⟨u.size,fun b c=>.inl (u.blk b c)⟩
theorem v7 {h c:Hp}(u:Gw h c){b i:Nat}{v:Value}(e:ee h b i=some v):ee c b i=some v:=by
  unfold ee at *
  cases a:h[b]? with
  | none=>rw[a] at e;cases e
  | some o =>
    rcases u.blk b (aI a) with h1|h1
    . rw[h1];exact e
    . rw[h1] at e;simp[junk] at e
theorem i6 {w:World}{h:Hp}(g:G w h){b i:Nat}{v:Value}(e:ee h b i=some v):w.cell? ⟨b,i,none⟩=some v:=by
 unfold ee at e
 rcases g.blk b with h1|h1
 ·unfold World.cell?
  rw[<-h1];cases a:h[b]? with
  | none=>rw[a] at e;cases e
  | some o=>rw[a] at e;cases o<;>simp at e ⊢ <;> exact e
 ·rw[h1] at e;simp[junk] at e
def Seg (h:Hp)(b o:Nat)(cs:List Value):Prop:=∀ (i:Nat) (v:Value),cs[i]?=some v->ee h b (o+i)=some v
theorem Seg.gw {h a:Hp}{b o:Nat}{cs:List Value}(s:Seg h b o cs)(u:Gw h a):Seg a b o cs:=fun i v hv=>v7 u (s i v hv)
theorem wI {M:List Nat}{w w':World}{h:Hp}(g:G w h)(x:Mo M w w')(hM:∀ b∈M,h[b]?=some junk){b i:Nat}{v:Value}(e:ee h b i=some v):w'.cell? ⟨b,i,none⟩=some v:=by
 have f:b ∉ M:=fun j=>by
  unfold ee at e
  rw[hM b j] at e
  simp[junk] at e
 have d:=i6 g e
 have c:b<w.heap.size:=by
  rcases co b w.heap.size with c|c
  ·exact c
  ·unfold World.cell? at d;rw[ea c] at d;cases d
 rw[World.cell?_of_block (w:=w) (a:=⟨b,i,none⟩) (x.blk b c f)];exact d
theorem Seg.runM {α:Type}{M:List Nat}{P:Program}{w w':World}{h:Hp}{b o:Nat}{cs:List Value}{s:Sem α}{r:α}(c:Seg h b o cs)(g:G w h)(hM:∀ b∈M,h[b]?=some junk)(x:Mo M w w')(d:bP P s cs=some (r,kI b o cs.length)):s.run P w'=.ok r w' :=
 bH _ _ _ _ d (fun i a v ha hv=>by rw[d8 _ _ _ _ _ ha];exact wI g x hM (c i v hv))
theorem Seg.run {α:Type}{P:Program}{w w':World}{h:Hp}{b o:Nat}{cs:List Value}{s:Sem α}{r:α}(c:Seg h b o cs)(g:G w h)(x:Ext w w')(d:bP P s cs=some (r,kI b o cs.length)):s.run P w'=.ok r w' :=
 bH _ _ _ _ d (fun i a v ha hv=>by rw[d8 _ _ _ _ _ ha];exact x.some (i6 g (c i v hv)))
theorem Seg.part {h:Hp}{b o:Nat}{cs:List Value}(s:Seg h b o cs)(j n:Nat):Seg h b (o+j) ((cs.drop j).take n):=fun i v hv=>by
 have hi:i<n:=by
  rcases co i n with hl|hl
  ·exact hl
  ·rw[o1 (by simp;omega)] at hv;cases hv
 rw[p1 hi,p2] at hv
 rw[rc];exact s (j+i) v hv
def aB (A:Z9):Nat:=match A with|some a=>a.block|none=>0
def aO (A:Z9):Nat:=match A with|some a=>a.off|none=>0
structure SlO {α:Type} (sz:Nat) (f:α->List Value) (d:α) (h:Hp) (A:Z9) (l:List α):Prop where
  ok:0<l.length->A=some ⟨aB A,aO A,none⟩
  el:∀ k,k<l.length->Seg h (aB A) (aO A+k*sz) (f (l.getD k d))
theorem SlO.gw {α:Type}{sz:Nat}{f:α->List Value}{d:α}{h a:Hp}{A:Z9}{l:List α}(s:SlO sz f d h A l)(u:Gw h a):SlO sz f d a A l:=⟨s.ok,fun k b=>(s.el k b).gw u⟩
theorem SlO.nil {α:Type}{sz:Nat}{f:α->List Value}{d:α}{h:Hp}{A:Z9}:SlO sz f d h A []:=⟨fun h=>by simp at h,fun k a=>by simp at a⟩
def HF {α:Type}(sz:Nat)(f:α->List Value)(d:α)(h:Hp)(v:Value)(l:List α):Prop :=
  ∃ A cap,v=.slice A l.length cap/\l.length<=cap/\SlO sz f d h A l
theorem SlO.of_flat {α:Type}{sz:Nat}{f:α->List Value}{d:α}{h:Hp}{b o:Nat}{l:List α}(hf:∀ x,(f x).length=sz)(s:Seg h b o (l.flatMap f)):SlO sz f d h (some ⟨b,o,none⟩) l:=by
  refine ⟨fun _=>rfl,?_⟩
  induction l generalizing o with
  | nil=>intro k a;simp at a
  | cons x l ih =>
    intro k a;cases k with
    | zero =>
      have:=s.part 0 sz
      simp only[rh,ri,rk] at this
      rw[rp (by rw[hf];exact eb _),<-hf x,r9] at this
      simpa [aB,aO] using this
    | succ k =>
      have c:Seg h b (o+sz) (l.flatMap f):=fun i v hv=>by
        have:=s (sz+i) v (by rw[rh,ql (by rw[hf];omega),hf];simpa using hv)
        rwa [<-rc] at this
      have:=ih c k (by simpa using a)
      simp only[aB,aO,sc] at this ⊢
      rw[sr,sw (k*sz) sz,<-rc];exact this
theorem Seg.new {h:Hp}(cs:List Value)(ty:TypeId):Seg (h.push (.cells cs.toArray ty (0,0))) h.size 0 cs:=fun i v hv=>by
 unfold ee
 rw[e0]
 simpa using hv
theorem db {α:Type}{f:α->List Value}{sz:Nat}(hf:∀ x,(f x).length=sz)(l:List α):(l.flatMap f).length=l.length*sz:=by
 induction l with
 | nil=>simp
 | cons x l ih=>simp only[rh,sy,ih,hf,List.length_cons,sr];omega
theorem fb {α:Type}{f:α->List Value}{sz:Nat}(hf:∀ x,(f x).length=sz)(d:α):∀ (l:List α) (k:Nat),k<l.length->((l.flatMap f).drop (k*sz)).take sz=f (l.getD k d)
  | [],k,h=>by simp at h
  | x::l,0,h=>by
    simp only[rh,sA,rk,List.getD_cons_zero]
    rw[rp (by rw[hf];exact eb _),<-hf x,r9]
  | x::l,k+1,h=>by
    simp only[rh,sc]
    rw[sr,List.drop_append,hf,show k*sz+sz-sz=k*sz by omega,List.drop_eq_nil_of_le (by rw[hf];omega),List.nil_append];exact fb hf d l k (by simpa using h)
theorem gj (cs:List Value):∀ (a b:List Value) (o:Nat),cj (a++b) (a.length+o) cs=a++cj b o cs:=by
  induction cs with
  | nil=>intro a b o;rfl
  | cons c cs ih =>
    intro a b o
    show cj ((a++b).set (a.length+o) c) (a.length+o+1) cs=a++cj (b.set o c) (o+1) cs
    rw[List.set_append_right _ _ oM,show a.length+o-a.length=o by omega,rc];exact ih a (b.set o c) (o+1)
theorem jz:∀ (cs a b:List Value),a.length=cs.length->cj (a++b) 0 cs=cs++b:=by
  intro cs
  induction cs with
  | nil=>intro a b h;have:a=[]:=s1 (by simpa using h);subst this;rfl
  | cons c cs ih =>
    intro a b h;cases a with
    | nil=>simp at h
    | cons y a =>
      show cj (c::(a++b)) (0+1) cs=c::(cs++b)
      have:=gj cs [c] (a++b) 0
      simp only[List.length_singleton,List.singleton_append] at this
      rw[show 0+1=1+0 by omega,this,ih a b (by simpa using h)]
theorem iL {α:Type}{f:α->List Value}{sz:Nat}(hf:∀ x,(f x).length=sz):∀ (l:List α) (k:Nat) (x:α),k<l.length->cj (l.flatMap f) (k*sz) (f x)=(l.set k x).flatMap f
  | [],k,x,h=>by simp at h
  | y::l,0,x,h=>by
    simp only[rh,sA,List.set_cons_zero]
    exact jz _ _ _ (by rw[hf,hf])
  | y::l,k+1,x,h=>by
    simp only[rh,s3]
    rw[sr,sw,<-hf y,gj,hf y,iL hf l k x (by simpa using h)]
section rows
variable {M:Ms}{P:Program}{n:Nat}{N R:Po}{X:Nat->Po}{ops:Array Oper}{k0:Nat}{hr:Hp}{AL:List Al}{L:Array Bool}{Γ:ck}{w:World}{h:Hp}
theorem LG.row {k:Nat}(t:Nat)(ty:TypeId)(m:Nat)(cs:List Value)(g:G w h)(c:(gu ops Γ k && ((av ops k).dst == some t) && decide (t<n))=true)(d:bu ops Γ (av ops k)=some true)
  (a:(execOp (ev Γ) (av ops k)).run P w=.ok (.value (.slice (some ⟨w.heap.size,0,none⟩) m m)) (w.alloc (.cells cs.toArray ty (0,0))))
  (H:∀ b w' h',Up w h w' h'->Seg h' b 0 cs->LG P n N R X ops (k+1) ((t,.slice (some ⟨b,0,none⟩) m m)::Γ) w'):LG P n N R X ops k Γ w :=
 LG.val t _ _ c d a (H _ _ _ (Up.allocAny g _ _ (.inl rfl)) (by rw[g.size];exact Seg.new cs ty))
theorem Rg.row (i t:Nat)(ty:TypeId)(m:Nat)(cs:List Value)(e:(kS n ops k0 AL L i t && ba Γ (av ops i))=true)(d:bu ops Γ (av ops i)=some true)
  (a:∀ w,(execOp (ev Γ) (av ops i)).run P w=.ok (.value (.slice (some ⟨w.heap.size,0,none⟩) m m)) (w.alloc (.cells cs.toArray ty (0,0))))
  (H:∀ b w' c,Up w h w' c->Seg c b 0 cs->EG M P n N R X ops k0 hr AL (L.setIfInBounds i true) ((t,.slice (some ⟨b,0,none⟩) m m)::Γ) w' c):EG M P n N R X ops k0 hr AL L Γ w h :=
 Rg.event i t e d (fun w' c u=>.inl ⟨_,_,_,a w',(Up.allocAny u.g _ _ (.inl rfl)).m M.l,H _ _ _ (u.trans (Up.allocAny u.g _ _ (.inl rfl))) (by rw[u.g.size];exact Seg.new cs ty)⟩)
theorem Rg.ownA {w0:World}{h0:Hp}{B:List Bx}{α:Type}(i t j:Nat)(l:List α)(f:α->List Value)(sz:Nat)(d:α)(e:Nat)(v:Value)(s:St w0 h0 w h B)(o:(dj n ops k0 AL L i t && ba Γ (av ops i) && ij ops k0 i)=true)(p:bu ops Γ (av ops i)=some true)
  (c:(aA B j).b ∉ M.l)(z:decide (j<B.length)=true)(hB:(aA B j).vs=l.flatMap f)(hf:∀ x,(f x).length=sz)(C:e<l.length)
  (D:bP P (execOp (ev Γ) (av ops i)) (f (l.getD e d))=some (.value v,kI (aA B j).b (0+e*sz) (f (l.getD e d)).length))
  (k:EG M P n N R X ops k0 hr AL (L.setIfInBounds i true) ((t,v)::Γ) w h):EG M P n N R X ops k0 hr AL L Γ w h :=
 Rg.load i t v o p (fun w' y=>bH _ _ _ _ D (fun q a u ha hu=>by
  rw[d8 _ _ _ _ _ ha,((s.own _ (bA (oT z))).mo y c).cell,hB];rw[<-fb hf d l e C] at hu
  have F:q<sz:=by
   rcases co q sz with hl|hl
   ·exact hl
   ·rw[o1 (by simp;omega)] at hu;cases hu
  rw[p1 F,p2] at hu
  rw[s4];exact hu)) k
theorem LG.ownA {w0:World}{h0:Hp}{B:List Bx}{α:Type}{k:Nat}(t j:Nat)(l:List α)(f:α->List Value)(sz:Nat)(d:α)(e:Nat)(v:Value)(s:St w0 h0 w h B)(c:(gu ops Γ k && ((av ops k).dst == some t) && decide (t<n))=true)(i:bu ops Γ (av ops k)=some true)
  (o:decide (j<B.length)=true)(hB:(aA B j).vs=l.flatMap f)(hf:∀ x,(f x).length=sz)(p:e<l.length)
  (y:bP P (execOp (ev Γ) (av ops k)) (f (l.getD e d))=some (.value v,kI (aA B j).b (0+e*sz) (f (l.getD e d)).length))
  (H:LG P n N R X ops (k+1) ((t,v)::Γ) w):LG P n N R X ops k Γ w :=
 LG.val t v w c i (bH _ _ _ _ y (fun q a u ha hu=>by
  rw[d8 _ _ _ _ _ ha,(s.own _ (bA (oT o))).cell,hB];rw[<-fb hf d l e p] at hu
  have z:q<sz:=by
   rcases co q sz with hl|hl
   ·exact hl
   ·rw[o1 (by simp;omega)] at hu;cases hu
  rw[p1 z,p2] at hu
  rw[s4];exact hu)) H
theorem LG.arr {w0:World}{h0:Hp}{B:List Bx}{k:Nat}(t:Nat)(ty:TypeId)(m:Nat)(vs:List Value)(s:St w0 h0 w h B)(c:(gu ops Γ k && ((av ops k).dst == some t) && decide (t<n))=true)(d:bu ops Γ (av ops k)=some true)
  (a:(execOp (ev Γ) (av ops k)).run P w=.ok (.value (.slice (some ⟨w.heap.size,0,none⟩) m m)) (w.alloc (.cells vs.toArray ty (0,0))))
  (H:∀ b w' h',h.size<=b->Up w h w' h'->St w0 h0 w' h' (⟨b,ty,vs⟩::B)->LG P n N R X ops (k+1) ((t,.slice (some ⟨b,0,none⟩) m m)::Γ) w'):LG P n N R X ops k Γ w:=by
 have u:Up w h (w.alloc (.cells vs.toArray ty (0,0))) (h.push junk):=Up.allocAny s.g _ _ (.inr rfl);refine LG.val t _ _ c d a (H _ _ _ (by rw[s.g.size];exact eb _) u (St.new1 (x:=⟨0,0,.cells vs.toArray ty (0,0)⟩) s (s.step u) ⟨?_,?_,?_⟩ ty vs rfl))
 ·rw[dw];exact e0
 ·rw[s.g.size];exact e0
 ·show h.size<=w.heap.size;rw[s.g.size];exact eb _
def gB (B:List Bx)(j:Nat)(vs:List Value):List Bx:=B.set j { aA B j with vs:=vs }
theorem LG.putA {w0:World}{h0:Hp}{B:List Bx}{α:Type}{k:Nat}(j:Nat)(l:List α)(f:α->List Value)(sz e:Nat)(x:α)(s:St w0 h0 w h B)(F:G w0 h0)(y:(gu ops Γ k && ((av ops k).dst == none))=true)(z:bu ops Γ (av ops k)=some true)
  (C:decide (j<B.length)=true)(hB:(aA B j).vs=l.flatMap f)(hf:∀ x,(f x).length=sz)(u:e<l.length)
  (D:dq P (execOp (ev Γ) (av ops k))=some (.skip,mj (aA B j).b (0+e*sz) (f x)))
  (H:∀ w',Put (aA B j).b w w'->St w0 h0 w' h (gB B j ((l.set e x).flatMap f))->LG P n N R X ops (k+1) Γ w'):LG P n N R X ops k Γ w:=by
 have o:=oT C
 have p:(0+e*sz)+(f x).length<=(aA B j).vs.length:=by
  rw[hB,db hf,hf,s4,<-sr];exact s5 _ u
 obtain ⟨w',d,a,i⟩:=fa _ _ _ _ _ w D (s.own _ (bA o)) p;have c:=s.put F o a i;refine LG.store w' y z d (H w' a ?_)
 unfold fO at c
 rw[hB,s4,iL hf l e x u] at c
 exact c
theorem T.putA {w0:World}{h0:Hp}{B:List Bx}{α:Type}(i j:Nat)(l:List α)(f:α->List Value)(sz e:Nat)(x:α)(s:St w0 h0 w h B)(I:G w0 h0)(y:(gR ops k0 L i && ba Γ (av ops i) && ((av ops i).dst == none))=true)(C:bu ops Γ (av ops i)=some true)
  (D:decide (j<B.length)=true)(hB:(aA B j).vs=l.flatMap f)(hf:∀ x,(f x).length=sz)(u:e<l.length)
  (F:dq P (execOp (ev Γ) (av ops i))=some (.skip,mj (aA B j).b (0+e*sz) (f x)))
  (H:∀ w',Put (aA B j).b w w'->St w0 h0 w' h (gB B j ((l.set e x).flatMap f))->AG M P n N R X ops k0 (L.setIfInBounds i true) Γ w')(hz:∀ K bs,M.z=some (K,bs)->K<=(aA B j).b\/(aA B j).b∈bs:=by intro _ _ e;cases e):AG M P n N R X ops k0 L Γ w:=by
 have o:=oT D
 have p:(0+e*sz)+(f x).length<=(aA B j).vs.length:=by
  rw[hB,db hf,hf,s4,<-sr];exact s5 _ u
 obtain ⟨w',d,a,k⟩:=fa _ _ _ _ _ w F (s.own _ (bA o)) p;have c:=s.put I o a k;refine T.store i w' y C d (a.tl hz) (H w' a ?_)
 unfold fO at c
 rw[hB,s4,iL hf l e x u] at c
 exact c
end rows
theorem ko {a b:Int}(h:a=b):(a == b)=true:=by simpa using h
theorem gI {a b:Int}(h:a≠b):(a == b)=false:=by simpa using h
theorem Aj {a b:Int}(h:a≠b):(a != b)=true:=by simpa using h
theorem mi {a b:Int}(h:a=b):(a != b)=false:=by simpa using h
theorem St.drop {w0:World}{h0:Hp}{w:World}{h:Hp}{B:List Bx}(s:St w0 h0 w h B)(k:Nat):St w0 h0 w h (B.drop k) :=
 ⟨s.up,fun x a=>s.own x (s6 a),fun x a=>s.jk x (s6 a),fun x a=>s.lo x (s6 a),s.nd.sublist ((s9 k B).map (·.b))⟩
theorem ay {a b:Int}(h:(a != b)=false):a=b:=by simpa using h
theorem a6 {a b:Int}(h:(a != b)=true):a≠b:=by simpa using h
theorem ao {a b:Int}(h:(a == b)=false):a≠b:=by simpa using h
theorem oS {α:Type}{f:α->List Value}{b:α}{sz:Nat}(hf:(f b).length=sz)(a:0<sz):∀ (m i:Nat),i<m*sz->((ta m b).flatMap f)[i]?=(f b)[i%sz]?
  | 0,i,h=>by simp at h
  | m + 1,i,h=>by
    rw[tu,rh]
    rcases co i sz with hl|hl
    . rw[p0 oM,tv hl]
    . rw[ql oM,hf,oS hf a m (i-sz) (by rw[sr] at h;omega)]
      congr 1
      rw[Nat.mod_eq_sub_mod hl]
theorem uv {α:Type}{f:α->List Value}{c:α}{z:Value}{sz m:Nat}(d:z.cells.toList=f c)(b:z.cells.size=sz)(a:0<sz):madeCells z.cells (m*sz)=((ta m c).flatMap f).toArray:=by
 have hf:(f c).length=sz:=by rw[<-d];simpa using b
 apply Array.ext_getElem?
 intro i;rw[show ((ta m c).flatMap f).toArray[i]?=((ta m c).flatMap f)[i]? from by simp]
 rcases co i (m*sz) with hl|hl
 ·rw[oS hf a m i hl,<-d]
  have e:i%sz<z.cells.size:=by rw[b];exact ua _ a
  simp only[madeCells,Array.getElem?_map,Array.getElem?_range,hl,if_true,pc,b,Array.getElem?_toList]
  rw[er e,getElem!_pos z.cells (i%sz) e]
 ·rw[ea (by rw[size_madeCells];exact hl),o1]
  have:∀ m,((ta m c).flatMap f).length=m*sz:=by
   intro m
   induction m with
   | zero=>simp
   | succ m ih=>rw[tu,rh,sy,ih,hf,sr];omega
  rw[this];exact hl
section ops
variable {P:Program}{Γ:ck}{o:Oper}
theorem Ef {t e:TypeId}{x ix:Operand}{A:Z9}{len cap sz:Nat}{i:Int}(k:Nat)(l:o.op=.indexAddr t x ix)(f:ev Γ x=.slice A len cap)(hi:ev Γ ix=.int .i64 i)
    (hu:P.underlying t=some (.slice e))(b:(P.info? e).map (·.size)=some sz)(j:A=some ⟨aB A,aO A,none⟩)(h:i=k)(u:k<len)(w:World) :
    (execOp (ev Γ) o).run P w=.ok (.value (.pointer (some ⟨aB A,aO A+k*sz,none⟩))) w:=by
  subst h
  unfold execOp
  simp only[l]
  rw[f,hi];have c:P.elem t=e:=by unfold Program.elem;rw[hu]
  have h1:=run_indexAt_slice (P:=P) w t ⟨aB A,aO A,none⟩ len cap .i64 (k:Int) (by rw[c];exact hu);rw[if_pos ⟨by omega,by omega⟩,c] at h1
  have p:(sizeOf e).run P w=.ok sz w:=by
    cases a:P.info? e with
    | none=>rw[a] at b;cases b
    | some i =>
      rw[a] at b
      simp at b
      simp[sizeOf,typeInfo,a,b]
  rw[p] at h1
  have d:((⟨aB A,aO A,none⟩:Addr).add ((k:Int).toNat*sz))=⟨aB A,aO A+k*sz,none⟩:=by
    unfold Addr.add
    simp only[ub]
    split
    . rename_i h0;rw[h0];rfl
    . rfl
  simp only[Result.andThen] at h1
  rw[d] at h1
  rw[<-j] at h1
  rw[Sem.run_bind,h1]
  rfl
theorem Id {t e:TypeId}{x y:Operand}{z:Value}{m sz d:Nat}{α:Type}{f:α->List Value}{j:α}(l:o.op=.makeSlice t x y)(k:ev Γ x=.int .i64 (m:Int))(D:ev Γ y=.int .i64 (m:Int))
    (hu:P.underlying t=some (.slice e))(hi:(P.info? e).map (fun i=>(i.zero,i.size,i.bytes))=some (some z,sz,d))(c:z.cells.toList=f j)(h:z.cells.size=sz)(b:0<sz)(F:d*m<=140737488355328)(C:m<9223372036854775808)(w:World) :
    (execOp (ev Γ) o).run P w=.ok (.value (.slice (some ⟨w.heap.size,0,none⟩) m m)) (w.alloc (.cells ((ta m j).flatMap f).toArray e (0,0))):=by
  cases a:P.info? e with
  | none=>rw[a] at hi;cases hi
  | some inf =>
    rw[a] at hi
    simp only[pc,Option.some.injEq,Prod.mk.injEq] at hi
    obtain ⟨h1,p,B⟩:=hi
    unfold execOp
    simp only[l]
    have u:(inf.bytes:Int)*(m:Int)<=281474976710656:=by
      rw[B];have:((d*m:Nat):Int)<=281474976710656:=by omega
      simpa using this
    rw[k,D,Sem.run_bind,run_make (P:=P) w t e inf z hu a h1 .i64 .i64 (m:Int) (m:Int) oM oM u oM]
    simp only[Result.andThen,ub,p]
    rw[uv c h b]
    rfl
theorem HK {t e:TypeId}{x hi:Operand}{A:Z9}{len cap:Nat}{i:Int}(k:Nat)(u:o.op=.slice t x none (some hi) none)(j:ev Γ x=.slice A len cap)(d:ev Γ hi=.int .i64 i)
  (hu:P.underlying t=some (.slice e))(p:(P.info? e).isSome=true)(l:i=k)(f:k<=cap)(w:World) :
  (execOp (ev Γ) o).run P w=.ok (.value (.slice A k cap)) w:=by
 subst l;obtain ⟨c,b⟩:=hN.1 p
 unfold execOp
 simp only[u,ul,pc]
 rw[j,d];have h:∀ a:Addr,a.add 0=a:=fun a=>by unfold Addr.add;simp
 have y:A.map (fun a=>a.add (0*c.size))=A:=by cases A<;>simp[h]
 simp[Instr.sliceAt,Instr.slice,Instr.sliceBounds,Instr.sliceBound,run_underlying hu,asIntOf,sizeOf,typeInfo,b,Result.andThen,f]
 intro _;cases A<;>simp[h]
theorem E7 {t e:TypeId}{x c:Operand}{A:Z9}{len cap sz:Nat}{i:Int}(k:Nat)(l:o.op=.slice t x (some c) none none)(h:ev Γ x=.slice A len cap)(d:ev Γ c=.int .i64 i)
    (hu:P.underlying t=some (.slice e))(b:(P.info? e).map (·.size)=some sz)(j:i=k)(f:k<=len)(w:World) :
    (execOp (ev Γ) o).run P w=.ok (.value (.slice (if cap=k then A else A.map (·.add (k*sz))) (len-k) (cap-k))) w:=by
  subst j;cases a:P.info? e with
  | none=>rw[a] at b;cases b
  | some inf =>
    rw[a] at b
    simp at b
    unfold execOp
    simp only[l,ul,pc]
    rw[h,d]
    simp[Instr.sliceAt,Instr.slice,Instr.sliceBounds,Instr.sliceBound,run_underlying hu,asIntOf,sizeOf,typeInfo,a,Result.andThen,f,b]
end ops
def Bo (z:Int):List Value:=[.int .i64 z]
abbrev Si (A:Z9)(l:List Int):Hp->Prop:=fun h_=>SlO 1 Bo 0 h_ A l
structure Gro (h0:Hp) (B:List Nat) (w:World) (h:Hp) (ty:TypeId) (sz:Nat) (v:Value) (n:Nat) (cs:List Value):Prop where
  own:w.ownsRow h0.size ty sz v n cs
  jk:∀ b,v.ownBlock=some b->h[b]?=some junk
  ap:∀ b,v.ownBlock=some b->b ∉ B
section gro
variable {h0:Hp}{B:List Nat}{w:World}{h:Hp}{ty:TypeId}{sz:Nat}{v:Value}{n:Nat}{cs:List Value}
theorem Gro.nil:Gro h0 B w h ty sz (.slice none 0 0) 0 []:=⟨World.ownsRow_nil _ _ _ _,fun b a=>by simp[Value.ownBlock] at a,fun b a=>by simp[Value.ownBlock] at a⟩
theorem eZ {a:Nat}(o:w.ownsRow a ty sz v n cs){w':World}(c:∀ b,v.ownBlock=some b->w'.heap[b]?=w.heap[b]?):w'.ownsRow a ty sz v n cs:=by
 rcases o with ⟨h1,h2|⟨g,cap,cur,hv,hb',hg,hn,hm,hs,ht⟩⟩
 ·exact ⟨h1,.inl h2⟩
 ·exact ⟨h1,.inr ⟨g,cap,cur,hv,hb',(c g (by rw[hv];rfl)).trans hg,hn,hm,hs,ht⟩⟩
theorem Gro.lt (r:Gro h0 B w h ty sz v n cs){b:Nat}(a:v.ownBlock=some b):b<h.size:=aI (r.jk b a)
theorem j0 {a:Nat}(o:w.ownsRow a ty sz v n cs){b:Nat}(c:v.ownBlock=some b):b<w.heap.size:=by
 rcases o with ⟨_,⟨rfl,_⟩|⟨g,cap,cur,rfl,_,hg,_⟩⟩
 ·simp[Value.ownBlock] at c
 ·simp[Value.ownBlock] at c
  subst c
  rcases co g w.heap.size with hl|hl
  ·exact hl
  ·rw[ea hl] at hg;cases hg
theorem Gro.up (r:Gro h0 B w h ty sz v n cs){w':World}{c:Hp}(u:Up w h w' c):Gro h0 B w' c ty sz v n cs :=
 ⟨eZ r.own (fun b a=>Below.block u.ext b (j0 r.own a)),fun b a=>(u.gr.blk b (r.lt a)).trans (r.jk b a),r.ap⟩
theorem Gro.put (r:Gro h0 B w h ty sz v n cs){w':World}{b:Nat}(p:Put b w w')(d:b∈B):Gro h0 B w' h ty sz v n cs :=
 ⟨eZ r.own (fun c a=>p.blk c (fun e=>r.ap c a (e▸d))),r.jk,r.ap⟩
theorem Gro.new (r:Gro h0 B w h ty sz v n cs)(b:Nat)(f:∀ c,v.ownBlock=some c->c≠b):Gro h0 (b::B) w h ty sz v n cs :=
 ⟨r.own,r.jk,fun c a d=>by
  rcases gq.1 d with e|e
  ·exact f c a e
  ·exact r.ap c a e⟩
theorem Gro.sub (r:Gro h0 B w h ty sz v n cs)(B':List Nat)(a:∀ b∈B',b∈B):Gro h0 B' w h ty sz v n cs:=⟨r.own,r.jk,fun b d c=>r.ap b d (a b c)⟩
theorem Gro.out (r:Gro h0 B w h ty sz v n cs){d:Hp}{b:Nat}(i:b∈B)(f:∀ c,c≠b->d[c]?=h[c]?):Gro h0 B w d ty sz v n cs :=
 ⟨r.own,fun c a=>(f c (fun e=>r.ap c a (e▸i))).trans (r.jk c a),r.ap⟩
theorem Gro.app (r:Gro h0 B w h ty sz v n cs){w':World}{d:Hp}{row:Option Nat}(i:w.grownBy w' row)(f:Gr h d)(c:∀ b,v.ownBlock=some b->row≠some b):Gro h0 B w' d ty sz v n cs :=
 ⟨eZ r.own (fun b a=>i.block b (j0 r.own a) (fun e=>c b a e.symm)),fun b a=>(f.blk b (r.lt a)).trans (r.jk b a),r.ap⟩
theorem oE {w0:World}{B':List Bx}{w':World}(s:St w0 h0 w h B')(p:G w0 h0)(r:Gro h0 (B'.map (·.b)) w h ty sz v n cs)(d:w.grownBy w' v.ownBlock):∃ j,Gr h j/\St w0 h0 w' j B'/\∀ b,h.size<=b->b<w'.heap.size->j[b]?=some junk:=by
  have k:∀ b,v.ownBlock=some b->h0.size<=b:=by
    intro b a
    rcases r.own with ⟨_,⟨rfl,_⟩|⟨g,cap,cur,rfl,hbb,_⟩⟩
    . simp[Value.ownBlock] at a
    . simp[Value.ownBlock] at a;omega
  have l:=s.g.size;have i:=d.size;have c:Gr h (h++ow (w'.heap.size-h.size) junk):=⟨by simp,fun b a=>et a⟩;refine ⟨h++ow (w'.heap.size-h.size) junk,c,⟨⟨⟨d.os.trans s.up.ext.os,d.tape.trans s.up.ext.tape,d.output.trans s.up.ext.output,ed s.up.ext.size i,fun b a=>?_⟩,s.up.gr.trans c,⟨by simp;omega,fun b=>?_⟩⟩,?_,?_,s.lo,s.nd⟩,?_⟩
  . rw[d.block b (ep a s.up.ext.size) (fun e=>by have:=k b e.symm;rw[p.size] at a;omega)]
    exact Below.block s.up.ext b a
  . rcases co b h.size with a|a
    . rw[et a]
      by_cases e:v.ownBlock=some b
      . exact .inr (r.jk b e)
      . rw[d.block b oM (fun o=>e o.symm)];exact s.g.blk b
    . by_cases hl:b<w'.heap.size
      . right
        rw[ey a,um,if_pos oM]
      . left
        rw[ea (by simp;omega),ea oM]
  . intro x f
    show w'.heap[x.b]?=_
    rw[d.block x.b (s.own x f).lt (fun e=>r.ap x.b e.symm (ga.2 ⟨x,f,rfl⟩))];exact s.own x f
  . intro x f
    rw[c.blk _ (aI (s.jk x f))];exact s.jk x f
  . intro b h1 u
    rw[ey h1,um,if_pos oM]
def Apart (v u:Value):Prop:=∀ b,v.ownBlock=some b->u.ownBlock≠some b
theorem Apart.symm {v u:Value}(h:Apart v u):Apart u v:=fun b a hv=>h b hv a
theorem Apart.grown {v v' u:Value}(h:Apart v u)(c:v'.ownBlock=v.ownBlock\/v'.ownBlock=some w.heap.size)(hu:∀ b,u.ownBlock=some b->b<w.heap.size):Apart v' u:=fun b hv a=>by
 rcases c with e|e
 ·exact h b (e▸hv) a
 ·rw[e] at hv
  injection hv with hv
  have:=hu b a
  omega
theorem Apart.nil {u:Value}:Apart (.slice none 0 0) u:=fun b a=>by simp[Value.ownBlock] at a
end gro
section app
variable {P:Program}{n:Nat}{N R:Po}{X:Nat->Po}{ops:Array Oper}{k0:Nat}{hr:Hp}{AL:List Al}{L:Array Bool}{Γ:ck}{w:World}{h:Hp}{w0:World}{h0:Hp}{B:List Bx}
theorem sl {o:Oper}{x y:Operand}{t e:TypeId}{z:Value}{sz p m m2 c:Nat}{v:Value}{cs news:List Value}{a:Addr}(I:o.op=.call { callee:=.builtin .append,args:=#[x,y],argTypes:=#[t,t] })
    (D:ev Γ x=v)(S:ev Γ y=.slice (some a) m2 c)(hu:P.underlying t=some (.slice e))(hi:(P.info? e).map (fun i=>(i.zero,i.size,i.bytes))=some (some z,sz,p))(C:z.cells.size=sz)(l:0<sz)
    (s:St w0 h0 w h B)(r:Gro h0 (B.map (·.b)) w h e sz v m cs)(F:news.length=m2*sz)(f:∀ j u,news[j]?=some u->w.cell? (a.add j)=some u)(h1:∀ u∈news,u.oneCell'=true)
    (U:m+m2<=1099511627776)(M:(m+m2)*p<=140737488355328) :
    ∃ v' w',(execOp (ev Γ) o).run P w=.ok (.value v') w'/\w'.ownsRow h0.size e sz v' (m+m2) (cs++news)/\w.grownBy w' v.ownBlock/\(v'.ownBlock=v.ownBlock\/v'.ownBlock=some w.heap.size):=by
  cases d:P.info? e with
  | none=>rw[d] at hi;cases hi
  | some inf =>
    rw[d] at hi
    simp only[pc,Option.some.injEq,Prod.mk.injEq] at hi
    obtain ⟨L,K,H⟩:=hi;obtain ⟨v',w',k,J,Q,V,O⟩:=run_append_own_at (P:=P) w h0.size t o.type e inf z sz p hu d L K H C l v m cs r.own a m2 c news F f h1 (by unfold maxLen;omega) M (by rw[s.g.size];exact s.sz);refine ⟨v',w',?_,J,Q,O⟩
    unfold execOp
    simp only[I,resolve,invoke,builtin,Sem.run_bind,Sem.run_pure,Result.andThen_ok,List.map_toArray,un,List.map_nil,D,S,k]
theorem Gro.grown {ty:TypeId}{sz m m2:Nat}{v v':Value}{cs news:List Value}{w':World}{c:Hp}(s:St w0 h0 w h B)(r:Gro h0 (B.map (·.b)) w h ty sz v m cs)(f:w'.ownsRow h0.size ty sz v' (m+m2) (cs++news))(i:v'.ownBlock=v.ownBlock\/v'.ownBlock=some w.heap.size)(p:Gr h c)(l:∀ b,h.size<=b->b<w'.heap.size->c[b]?=some junk) :
  Gro h0 (B.map (·.b)) w' c ty sz v' (m+m2) (cs++news):=by
 have d:∀ b,v'.ownBlock=some b->b<w'.heap.size:=by
  intro b a
  rcases f with ⟨_,⟨rfl,_⟩|⟨g,cap,cur,rfl,_,hg,_⟩⟩
  ·simp[Value.ownBlock] at a
  ·simp[Value.ownBlock] at a
   subst a
   rcases co g w'.heap.size with hl|hl
   ·exact hl
   ·rw[ea hl] at hg;cases hg
 refine ⟨f,fun b a=>?_,fun b a=>?_⟩
 ·rcases i with e|e
  ·rw[e] at a;rw[p.blk b (r.lt a)];exact r.jk b a
  ·have:b=w.heap.size:=by rw[e] at a;injection a with a;exact a.symm
   exact l b (by rw[this,s.g.size];exact eb _) (d b a)
 ·rcases i with e|e
  ·rw[e] at a;exact r.ap b a
  ·have:b=w.heap.size:=by rw[e] at a;injection a with a;exact a.symm
   intro j;obtain ⟨x,k,o⟩:=ga.1 j;have:=(s.own x k).lt;have u:x.b=b:=o
   omega
theorem lb {b:Nat}{news:List Value}(g:G w h)(a:Seg h b 0 news):∀ j u,news[j]?=some u->w.cell? ((⟨b,0,none⟩:Addr).add j)=some u:=by
 intro j u hu;have:=i6 g (a j u hu)
 unfold Addr.add
 split
 ·rename_i h0;subst h0;exact this
 ·exact this
end app
theorem UpM.weak {M a:List Nat}{w w':World}{h c:Hp}(u:UpM M w h w' c)(s:∀ b∈M,b∈a):UpM a w h w' c :=
 ⟨⟨u.mo.os,u.mo.tape,u.mo.output,u.mo.size,fun b f e=>u.mo.blk b f (fun d=>e (s b d))⟩,u.gr,u.g⟩
theorem UpM.put {M:List Nat}{w0 w w':World}{h0 h:Hp}{b:Nat}(u:UpM M w0 h0 w h)(p:Put b w w')(f:b∈M)(g:G w' h):UpM M w0 h0 w' h :=
 ⟨⟨p.os.trans u.mo.os,p.tape.trans u.mo.tape,p.output.trans u.mo.output,by rw[p.size];exact u.mo.size,fun c d a=>(p.blk c (fun e=>a (e▸f))).trans (u.mo.blk c d a)⟩,u.gr,g⟩
theorem St.at_ {w:World}{h:Hp}{rb:Nat}{t:TypeId}{vs:List Value}(g:G w h)(o:Own w rb t vs)(j:h[rb]?=some junk):∃ w0 h0,G w0 h0/\St w0 h0 w h [⟨rb,t,vs⟩]:=by
 have f:=aI j;have e:=g.size;refine ⟨{ w with heap:=w.heap.extract 0 rb },h.extract 0 rb,⟨by simp;omega,fun b=>?_⟩,⟨⟨⟨rfl,rfl,rfl,by simp;omega,fun b c=>?_⟩,⟨by simp;omega,fun b c=>?_⟩,g⟩,?_,?_,?_,by simp⟩⟩
 ·show (h.extract 0 rb)[b]?=(w.heap.extract 0 rb)[b]?\/_
  rw[ez,ez]
  by_cases c:b<rb
  ·rw[if_pos oM,if_pos oM];simpa using g.blk b
  ·rw[if_neg oM,if_neg oM];exact .inl rfl
 ·have d:b<rb:=by have:b<(w.heap.extract 0 rb).size:=c;simp at this;omega
  show w.heap[b]?=(w.heap.extract 0 rb)[b]?
  rw[ez,if_pos oM];simp
 ·have d:b<rb:=by simp at c;omega
  rw[ez,if_pos oM];simp
 ·intro x a;rw[n1] at a;subst a;exact o
 ·intro x a;rw[n1] at a;subst a;exact j
 ·intro x a;rw[n1] at a;subst a;simp;omega
def bW (rb:Nat)(w0:World)(h0:Hp)(Φ:Value->World->Hp->Prop):Ending->World->Prop:=fun e w'=>∃ v h',e=.returned v/\UpM [rb] w0 h0 w' h'/\Φ v w' h'
section
variable {P:Program}{n:Nat}{Γ:ck}{w:World}{h:Hp}{w0 wz:World}{h0 hz:Hp}{B:List Bx}
theorem retM {c:Func}{rb:Nat}{Φ:Value->World->Hp->Prop}(s:St wz hz w h B)(f:UpM [rb] w0 h0 w h)(ps:List (Nat × Nat × Nat))(v:Value)(b:(kW c Γ && bR B ps)=true)(i:bP P (mm c Γ) (cg B ps)=some (v,bO B ps))(d:Φ v w h) :
  ∀ a,Kn n a Γ->lf P c (bW rb w0 h0 Φ) a w:=by
 intro a e;rw[hI] at b
 refine ⟨e.df.trans (kJ b.1),v,?_,v,h,rfl,f,d⟩;rw[fD e b.1];exact bH _ _ _ _ i (bQ s.own ps b.2)
theorem St.stepM (s:St w0 h0 w h B)(M:G w0 h0){j:Nat}{vs:List Value}{w':World}{D:Hp}(l:j<B.length)(u:UpM [(aA B j).b] w h w' D)(K:Own w' (aA B j).b (aA B j).t vs):St w0 h0 w' D (gB B j vs):=by
  have k:=bA l;have L:=s.lo _ k
  have o:(gB B j vs).map (·.b)=B.map (·.b):=by
    unfold gB
    rw[pf]
    apply pk
    intro i
    by_cases e:j=i
    . subst e
      rw[pn (by simpa using l)]
      simp[aA,l]
    . rw[pr e]
  have F:Up w0 h0 w' D:=by
    refine ⟨⟨u.mo.os.trans s.up.ext.os,u.mo.tape.trans s.up.ext.tape,u.mo.output.trans s.up.ext.output,ed s.up.ext.size u.mo.size,fun c z=>?_⟩,s.up.gr.trans u.gr,u.g⟩;rw[u.mo.blk c (ep z s.up.ext.size) (fun k=>by rw[n1] at k;rw[M.size] at z;omega)];exact Below.block s.up.ext c z
  have back:∀ x∈gB B j vs,∃ y∈B,y.b=x.b:=by
    intro x d;have:x.b∈(gB B j vs).map (·.b):=ga.2 ⟨x,d,rfl⟩;rw[o] at this
    obtain ⟨y,f,a⟩:=ga.1 this;exact ⟨y,f,a⟩
  refine ⟨F,?_,?_,?_,by rw[o];exact s.nd⟩
  . intro x d
    obtain ⟨i,hi,a⟩:=pt.1 d;have p:i<B.length:=by simpa [gB] using hi
    by_cases e:j=i
    . subst e
      have:x={ aA B j with vs:=vs }:=by rw[<-a];simp[gB]
      subst this;exact K
    . have I:x=B[i]:=by rw[<-a];simp[gB,e]
      subst I
      have C:B[i].b≠(aA B j).b:=by
        intro H
        have h1:(B.map (·.b))[i]'(by simpa using p)=(B.map (·.b))[j]'(by simpa using l):=by
          simp only[pv]
          rw[H]
          simp[aA,l]
        exact e ((pw s.nd).1 h1).symm
      have J:=s.own _ (e5 p)
      show w'.heap[B[i].b]?=_
      rw[u.mo.blk _ J.lt (fun k=>C (n1.1 k))];exact J
  . intro x d
    obtain ⟨y,f,a⟩:=back x d;rw[<-a,u.gr.blk _ (aI (s.jk y f))];exact s.jk y f
  . intro x d
    obtain ⟨y,f,a⟩:=back x d;rw[<-a];exact s.lo y f
theorem Gro.upM {f:Hp}{d:List Nat}{ty:TypeId}{sz:Nat}{v:Value}{m:Nat}{cs:List Value}(r:Gro f d w h ty sz v m cs){w':World}{i:Hp}{b:Nat}(u:UpM [b] w h w' i)(j:b∈d):Gro f d w' i ty sz v m cs :=
 ⟨eZ r.own (fun c a=>u.mo.blk c (j0 r.own a) (fun e=>by rw[n1] at e;exact r.ap c a (e▸j))),fun c a=>(u.gr.blk c (r.lt a)).trans (r.jk c a),r.ap⟩
theorem cB (s:St w0 h0 w h B){i j:Nat}(hi:decide (i<B.length)=true)(f:decide (j<B.length)=true)(e:(i == j)=false):(aA B i).b≠(aA B j).b:=by
 have c:=oT hi;have a:=oT f;intro d
 have h1:(B.map (·.b))[i]'(by simpa using c)=(B.map (·.b))[j]'(by simpa using a):=by
  simp only[pv]
  simpa [aA,c,a] using d
 have:=(pw s.nd).1 h1;subst this
 simp at e
end
section pub
variable {h0:Hp}{B:List Nat}{w:World}{h:Hp}{ty:TypeId}{sz:Nat}{v:Value}{n:Nat}{cs:List Value}
theorem Gro.pub3 {w0:World}{B':List Bx}{A:Z9}{d cap:Nat}(s:St w0 h0 w h B')(r:Gro h0 (B'.map (·.b)) w h ty sz (.slice A d cap) n cs):∃ l,St w0 h0 w l B'/\Gw h l/\(∀ c,(Value.slice A d cap).ownBlock≠some c->l[c]?=h[c]?)/\d=n/\n<=cap/\(0<n->A=some ⟨aB A,0,none⟩/\aO A=0)/\Seg l (aB A) 0 cs:=by
  rcases r.own with ⟨h1,⟨e,rfl⟩|⟨b,cap',cur,e,hbb,hg,hn,hm,hs,ht⟩⟩
  . injection e with e1 e2 e3
    subst e1 e2 e3;have:cs=[]:=s1 (by simpa using h1);subst this;exact ⟨h,s,⟨eb _,fun _ _=>.inl rfl⟩,fun _ _=>rfl,rfl,eb _,fun h=>by omega,fun i v hv=>by simp at hv⟩
  . injection e with e1 e2 e3
    subst e1 e2 e3;have a:=r.jk b rfl;have f:=aI a;have o:∀ x∈B',x.b≠b:=fun x k e=>r.ap b rfl (ga.2 ⟨x,k,e⟩)
    refine ⟨h.setIfInBounds b (.cells cur ty),⟨⟨s.up.ext,⟨by simp;exact s.up.gr.size,fun c j=>?_⟩,⟨by simp;exact s.up.g.size,fun c=>?_⟩⟩,s.own,?_,s.lo,s.nd⟩,⟨by simp,fun c j=>?_⟩,fun c j=>?_,rfl,hn,fun _=>⟨rfl,rfl⟩,?_⟩
    . rw[g6 oM];exact s.up.gr.blk c j
    . by_cases e:b=c
      . subst e;left;rw[u9 f];exact hg.symm
      . rw[g6 e];exact s.up.g.blk c
    . intro x k
      rw[g6 (Ne.symm (o x k))];exact s.jk x k
    . by_cases e:b=c
      . subst e;exact .inr a
      . left;rw[g6 e]
    . rw[g6 (fun e=>j (by rw[<-e];rfl))]
    . intro i u hu
      unfold ee
      show (match (h.setIfInBounds b (.cells cur ty))[b]? with|some (.cells c _ _)=>c[0+i]?|_=>none)=some u
      rw[u9 f];rw[<-ht] at hu
      have hi:i<d*sz:=by
        rcases co i (d*sz) with hl|hl
        . exact hl
        . rw[o1 (by simp;omega)] at hu;cases hu
      rw[p1 hi] at hu
      simpa using hu
theorem Gro.pubo (r:Gro h0 B w h ty sz v n cs){d:Hp}{u:Value}(e:∀ c,u.ownBlock≠some c->d[c]?=h[c]?)(f:Apart v u):Gro h0 B w d ty sz v n cs:=⟨r.own,fun b a=>(e b (f b a)).trans (r.jk b a),r.ap⟩
theorem SlO.of_pub {α:Type}{f:α->List Value}{d:α}{l:List α}{A:Z9}(hf:∀ x,(f x).length=sz)(a:0<l.length->A=some ⟨aB A,0,none⟩/\aO A=0)(c:Seg h (aB A) 0 (l.flatMap f)):SlO sz f d h A l:=by
 rcases va l.length with h0'|h0'
 ·have:l=[]:=s1 h0'
  subst this;exact SlO.nil
 ·obtain ⟨b,e⟩:=a h0'
  have:=SlO.of_flat (d:=d) hf c;rw[<-b] at this
  exact this
end pub
theorem St.pubX {w0:World}{h0:Hp}{w:World}{h:Hp}{B:List Bx}(s:St w0 h0 w h B)(j:Nat)(k:j<B.length):∃ o,St w0 h0 w o (B.eraseIdx j)/\Gw h o/\Seg o (aA B j).b 0 (aA B j).vs/\o[(aA B j).b]?=some (.cells (aA B j).vs.toArray (aA B j).t (0,0))/\∀ c,c≠(aA B j).b->o[c]?=h[c]?:=by
 have y:=bA k;have I:=s.own _ y;have f:=s.jk _ y;have d:=aI f
 have z:∀ x∈B.eraseIdx j,x.b≠(aA B j).b:=by
  intro x a;obtain ⟨i,hi,u⟩:=pt.1 a;rw[vb] at u
  intro p;have l:=s.nd;have D:(aA B j)=B[j]:=by unfold aA;simp[k]
  split at u
  ·rename_i H
   have:(B.map (·.b))[i]'(by simp;omega)=(B.map (·.b))[j]'(by simpa using k):=by simp only[pv];rw[u,p,D]
   have:=(pw l).1 this
   omega
  ·rename_i H
   have C:i+1<B.length:=by rw[vl k] at hi;omega
   have:(B.map (·.b))[i+1]'(by simpa using C)=(B.map (·.b))[j]'(by simpa using k):=by simp only[pv];rw[u,p,D]
   have:=(pw l).1 this
   omega
 refine ⟨h.setIfInBounds (aA B j).b (.cells (aA B j).vs.toArray (aA B j).t (0,0)),⟨⟨s.up.ext,⟨by simp;exact s.up.gr.size,fun b p=>?_⟩,⟨by simp;exact s.up.g.size,fun b=>?_⟩⟩,?_,?_,?_,?_⟩,⟨by simp,fun b p=>?_⟩,?_,u9 d,fun c F=>g6 (Ne.symm F)⟩
 ·have:=s.lo _ y
  rw[g6 oM];exact s.up.gr.blk b p
 ·by_cases e:(aA B j).b=b
  ·subst e
   left
   rw[u9 d];exact I.symm
  ·rw[g6 e];exact s.up.g.blk b
 ·exact fun x a=>s.own x (wl a)
 ·intro x a
  rw[g6 (Ne.symm (z x a))];exact s.jk x (wl a)
 ·exact fun x a=>s.lo x (wl a)
 ·exact s.nd.sublist ((yh B j).map (·.b))
 ·by_cases e:(aA B j).b=b
  ·subst e;exact .inr f
  ·left;rw[g6 e]
 ·intro i v hv
  unfold ee
  rw[u9 d]
  simpa using hv
structure Rw where
  ty:TypeId
  sz:Nat
  A:Z9
  c:Nat
  n:Nat
  cs:List Value
  deriving Inhabited
def Rw.v (r:Rw):Value:=.slice r.A r.n r.c
def AllF:List (Hp->Prop)->Hp->Prop
  | [],_=>True
  | p::l,h=>p h/\AllF l h
theorem AllF.q {a b c d:Hp->Prop}{F:List (Hp->Prop)}{h:Hp}(x:AllF (a::b::c::d::F) h):AllF F h:=x.2.2.2.2
theorem AllF.r {a b:Hp->Prop}{F:List (Hp->Prop)}{h:Hp}(x:AllF (a::b::F) h):AllF F h:=x.2.2
theorem AllF.gw:∀ {F:List (Hp->Prop)} {h a:Hp},(∀ p∈F,∀ h a,Gw h a->p h->p a)->Gw h a->AllF F h->AllF F a
 | [],_,_,_,_,_=>trivial
 | p::_,_,_,m,u,x=>⟨m p (by simp) _ _ u x.1,AllF.gw (fun q b=>m q (by simp[b])) u x.2⟩
structure SS (w0:World) (h0:Hp) (w:World) (h:Hp) (B:List Bx) (R:List Rw) (F:List (Hp->Prop)):Prop where
  g0:G w0 h0
  st:St w0 h0 w h B
  ro:∀ r∈R,Gro h0 (B.map (·.b)) w h r.ty r.sz r.v r.n r.cs
  ap:R.Pairwise (fun r s=>Apart r.v s.v)
  mo:∀ p∈F,∀ h h',Gw h h'->p h->p h'
  f:AllF F h
section ss
variable {w0:World}{h0:Hp}{w:World}{h:Hp}{B:List Bx}{R:List Rw}{F:List (Hp->Prop)}
theorem SS.start (g:G w h):SS w h w h [] [] []:=⟨g,St.start g,fun _ a=>(by cases a),.nil,fun _ a=>(by cases a),trivial⟩
theorem SS.g (s:SS w0 h0 w h B R F):G w h:=s.st.g
theorem SS.step (s:SS w0 h0 w h B R F){w':World}{a:Hp}(u:Up w h w' a):SS w0 h0 w' a B R F :=
 ⟨s.g0,s.st.step u,fun r hr=>(s.ro r hr).up u,s.ap,s.mo,s.f.gw s.mo u.gr.gw⟩
theorem SS.add (s:SS w0 h0 w h B R F){K:Hp->Prop}(x:K h)(m:∀ h h',Gw h h'->K h->K h':=by intro _ _ u x;exact x.gw u):SS w0 h0 w h B R (K::F) :=
 ⟨s.g0,s.st,s.ro,s.ap,fun p a=>by
  rcases gq.1 a with rfl|a
  ·exact m
  ·exact s.mo p a,x,s.f⟩
theorem SS.a_SlO {α:Type}{sz:Nat}{f:α->List Value}{d:α}{A:Z9}{l:List α}(s:SS w0 h0 w h B R F)(x:SlO sz f d h A l):SS w0 h0 w h B R ((fun h=>SlO sz f d h A l)::F):=s.add (K:=fun h=>SlO sz f d h A l) x
theorem SS.a_Seg {b o:Nat}{cs:List Value}(s:SS w0 h0 w h B R F)(x:Seg h b o cs):SS w0 h0 w h B R ((fun h=>Seg h b o cs)::F):=s.add (K:=fun h=>Seg h b o cs) x
theorem SS.tl {K:Hp->Prop}(s:SS w0 h0 w h B R (K::F)):SS w0 h0 w h B R F:=⟨s.g0,s.st,s.ro,s.ap,fun p a=>s.mo p (List.mem_cons_of_mem _ a),s.f.2⟩
theorem SS.nil (s:SS w0 h0 w h B R F)(ty:TypeId)(sz:Nat):SS w0 h0 w h B (⟨ty,sz,none,0,0,[]⟩::R) F :=
 ⟨s.g0,s.st,fun r hr=>by
  rcases gq.1 hr with rfl|hr
  ·exact Gro.nil
  ·exact s.ro r hr,List.pairwise_cons.2 ⟨fun _ _=>Apart.nil,s.ap⟩,s.mo,s.f⟩
theorem SS.to (s:SS w0 h0 w h B R F)(B':List Bx)(R':List Rw)(e:B=B':=by kernel_rfl)(a:R=R':=by kernel_rfl):SS w0 h0 w h B' R' F:=e▸a▸s
theorem l9 {j o:Nat}{cs:List Value}(a:j<B.length):(fO B j o cs).map (·.b)=B.map (·.b):=by
 unfold fO
 rw[pf]
 apply pk
 intro i
 by_cases e:j=i
 ·subst e
  rw[pn (by simpa using a)]
  simp[aA,a]
 ·rw[pr e]
theorem jJ {j:Nat}{vs:List Value}(a:j<B.length):(gB B j vs).map (·.b)=B.map (·.b):=by
 unfold gB
 rw[pf]
 apply pk
 intro i
 by_cases e:j=i
 ·subst e
  rw[pn (by simpa using a)]
  simp[aA,a]
 ·rw[pr e]
theorem SS.put0 (s:SS w0 h0 w h B R F){j:Nat}{B':List Bx}{w':World}(c:j<B.length)(p:Put (aA B j).b w w')(a:St w0 h0 w' h B')(e:B'.map (·.b)=B.map (·.b)):SS w0 h0 w' h B' R F :=
 ⟨s.g0,a,fun r hr=>by rw[e];exact (s.ro r hr).put p (ga.2 ⟨_,bA c,rfl⟩),s.ap,s.mo,s.f⟩
theorem SS.new (s:SS w0 h0 w h B R F){w':World}{a:Hp}(u:Up w h w' a){b:Nat}{ty:TypeId}{vs:List Value}(j:h.size<=b)(d:St w0 h0 w' a (⟨b,ty,vs⟩::B)):SS w0 h0 w' a (⟨b,ty,vs⟩::B) R F :=
 ⟨s.g0,d,fun r hr=>((s.ro r hr).up u).new b (fun c i e=>by have:=(s.ro r hr).lt i;omega),s.ap,s.mo,s.f.gw s.mo u.gr.gw⟩
theorem SS.stepM (s:SS w0 h0 w h B R F)(j:Nat){rb:Nat}{vs:List Value}{w':World}{c:Hp}(u:UpM [rb] w h w' c)(d:Own w' rb (aA B j).t vs)(i:decide (j<B.length)=true:=by kernel_rfl)(e:(aA B j).b=rb:=by kernel_rfl):SS w0 h0 w' c (gB B j vs) R F:=by
 subst e;have a:=oT i;exact ⟨s.g0,s.st.stepM s.g0 a u d,fun r hr=>by rw[jJ a];exact (s.ro r hr).upM u (ga.2 ⟨_,bA a,rfl⟩),s.ap,s.mo,s.f.gw s.mo u.gr.gw⟩
theorem SS.drop (s:SS w0 h0 w h B R F)(k m:Nat):SS w0 h0 w h (B.drop k) (R.drop m) F :=
 ⟨s.g0,s.st.drop k,fun r hr=>(s.ro r (s6 hr)).sub _ (fun b c=>by
  obtain ⟨x,a,e⟩:=ga.1 c;exact ga.2 ⟨x,s6 a,e⟩),s.ap.sublist (s9 _ _),s.mo,s.f⟩
theorem SS.own (s:SS w0 h0 w h B R F)(j:Nat)(a:decide (j<B.length)=true:=by kernel_rfl):Own w (aA B j).b (aA B j).t (aA B j).vs:=s.st.own _ (bA (oT a))
theorem SS.jk (s:SS w0 h0 w h B R F)(j:Nat)(a:decide (j<B.length)=true:=by kernel_rfl):h[(aA B j).b]?=some junk:=s.st.jk _ (bA (oT a))
theorem SS.pub (s:SS w0 h0 w h B R F)(j:Nat)(u:decide (j<B.length)=true:=by kernel_rfl):∃ c,SS w0 h0 w c (B.eraseIdx j) R F/\Seg c (aA B j).b 0 (aA B j).vs/\h0.size<=(aA B j).b/\c[(aA B j).b]?=some (.cells (aA B j).vs.toArray (aA B j).t (0,0)):=by
 have a:=oT u;obtain ⟨c,k,gw,i,l,oth⟩:=s.st.pubX j a;have d:=bA a;refine ⟨c,⟨s.g0,k,fun r hr=>((s.ro r hr).out (ga.2 ⟨_,d,rfl⟩) oth).sub _ (fun b p=>?_),s.ap,s.mo,s.f.gw s.mo gw⟩,i,s.st.lo _ d,l⟩;obtain ⟨x,o,e⟩:=ga.1 p;exact ga.2 ⟨x,wl o,e⟩
theorem SS.take (s:SS w0 h0 w h B R F){w':World}{i:Hp}(u:Up w h w' i){b:Nat}{ty:TypeId}{vs:List Value}(p:h.size<=b)(f:i[b]?=some (.cells vs.toArray ty (0,0)))(l:(ty == 0)=false:=by kernel_rfl) :
  ∃ d,SS w0 h0 w' d (⟨b,ty,vs⟩::B) R F/\(∀ c,c≠b->d[c]?=i[c]?)/\Gr h d:=by
 have k:=aI f;have o:Gr h (i.setIfInBounds b junk):=⟨by simp;exact u.gr.size,fun c j=>by rw[g6 oM];exact u.gr.blk c j⟩
 have H:G w' (i.setIfInBounds b junk):=⟨by simp;exact u.g.size,fun c=>by
  by_cases e:b=c
  ·subst e;right;rw[u9 k]
  ·rw[g6 e];exact u.g.blk c⟩
 have z:Up w h w' (i.setIfInBounds b junk):=⟨u.ext,o,H⟩
 have D:Own w' b ty vs:=by
  rcases u.g.blk b with e|e
  ·exact e.symm.trans f
  ·rw[e] at f
   injection f with f
   unfold junk at f
   injection f with h1 h2 h3
   rw[<-h2] at l
   cases l
 refine ⟨i.setIfInBounds b junk,s.new z p ⟨s.st.up.trans z,?_,?_,?_,?_⟩,fun c j=>g6 (Ne.symm j),o⟩
 ·intro x a
  rcases gq.1 a with rfl|a
  ·exact D
  ·exact (s.st.own x a).ext u.ext
 ·intro x a
  rcases gq.1 a with rfl|a
  ·exact u9 k
  ·rw[o.blk _ (aI (s.st.jk x a))];exact s.st.jk x a
 ·intro x a
  rcases gq.1 a with rfl|a
  ·exact ed s.st.sz p
  ·exact s.st.lo x a
 ·refine gs.2 ⟨fun C=>?_,s.st.nd⟩
  obtain ⟨y,K,I⟩:=ga.1 C;have:=aI (s.st.jk y K);have J:y.b=b:=I
  omega
theorem SS.pubr (s:SS w0 h0 w h B R F)(j:Nat){ty:TypeId}{sz c:Nat}{A:Z9}{α:Type}{f:α->List Value}{l:List α}(d:α)(hf:∀ x,(f x).length=sz)(hr:R.getD j default=⟨ty,sz,A,c,l.length,l.flatMap f⟩:=by kernel_rfl)(L:decide (j<R.length)=true:=by kernel_rfl) :
  ∃ o,SS w0 h0 w o B (R.eraseIdx j) ((fun h=>SlO sz f d h A l)::F)/\l.length<=c:=by
 have a:=oT L;have D:R[j]=⟨ty,sz,A,c,l.length,l.flatMap f⟩:=by rw[<-hr];simp[a]
 have I:R[j]∈R:=e5 a;have z:=s.ro _ I;rw[D] at z
 obtain ⟨o,M,gw,K,_,J,hz,H⟩:=Gro.pub3 s.st z
 have k:∀ r∈R.eraseIdx j,Apart r.v R[j].v:=by
  intro r hr;obtain ⟨i,hi,e⟩:=pt.1 hr;rw[vb] at e
  have b:=yy.1 s.ap
  split at e
  ·rename_i C;rw[<-e];exact b i j oM a C
  ·rename_i C
   rw[<-e];have y:i+1<R.length:=by rw[vl a] at hi;omega
   exact (b j (i+1) a y oM).symm
 refine ⟨o,⟨s.g0,M,fun r hr=>(s.ro r (wl hr)).pubo K (by have:=k r hr;rw[D] at this;exact this),s.ap.sublist (yh R j),fun p b=>by
  rcases gq.1 b with rfl|b
  ·exact fun _ _ u x=>x.gw u
  ·exact s.mo p b,SlO.of_pub hf hz H,s.f.gw s.mo gw⟩,J⟩
theorem SS.grown (s:SS w0 h0 w h B R F){j:Nat}(H:j<R.length){w':World}{v':Value}{m2:Nat}{news:List Value}(M:w'.ownsRow h0.size R[j].ty R[j].sz v' (R[j].n+m2) (R[j].cs++news))(Q:w.grownBy w' R[j].v.ownBlock)(O:v'.ownBlock=R[j].v.ownBlock\/v'.ownBlock=some w.heap.size) :
    ∃ z A c,v'=.slice A (R[j].n+m2) c/\Gr h z/\SS w0 h0 w' z B (R.set j ⟨R[j].ty,R[j].sz,A,c,R[j].n+m2,R[j].cs++news⟩) F:=by
  have S:R[j]∈R:=e5 H;have r:=s.ro _ S;obtain ⟨z,C,X,D⟩:=oE s.st s.g0 r Q;have U:=r.grown s.st M O C D
  have J:∃ A c,v'=.slice A (R[j].n+m2) c:=by
    rcases M with ⟨_,⟨e,e2⟩|⟨g,cap,cur,e,_⟩⟩
    . exact ⟨none,0,by rw[e,e2]⟩
    . exact ⟨_,_,e⟩
  obtain ⟨A,c,e⟩:=J;subst e;have K:=yy.1 s.ap
  have l:∀ i (hi:i<R.length),i≠j->Apart R[j].v R[i].v:=fun i hi o=>by
    rcases Nat.lt_or_gt_of_ne o with hl|hl
    . exact (K i j hi H hl).symm
    . exact K j i H hi hl
  have d:∀ i (hi:i<R.length),i≠j->Apart (.slice A (R[j].n+m2) c) R[i].v:=fun i hi o =>
    Apart.grown (w:=w) (l i hi o) O (fun b p=>j0 (s.ro _ (e5 hi)).own p)
  refine ⟨z,A,c,rfl,C,⟨s.g0,X,?_,?_,s.mo,s.f.gw s.mo C.gw⟩⟩
  . intro x V
    obtain ⟨i,hi,y⟩:=pt.1 V;have a:i<R.length:=by simpa using hi
    by_cases e:j=i
    . subst e
      simp at y
      rw[<-y];exact U
    . rw[yz e] at y
      rw[<-y];exact (s.ro _ (e5 a)).app Q C (fun b p I=>l i a (Ne.symm e) b I p)
  . refine yy.2 (fun i k hi W L=>?_)
    have a:i<R.length:=by simpa using hi
    have u:k<R.length:=by simpa using W
    by_cases e:j=i
    . subst e
      rw[yY,yz oM];exact d k u oM
    . by_cases e2:j=k
      . subst e2
        rw[yY,yz oM];exact (d i a oM).symm
      . rw[yz e,yz e2]
        exact K i k a u L
end ss
theorem SS.aS {α:Type}{sz:Nat}{f:α->List Value}{x:α}{A:Z9}{l:List α}{w0 w:World}{h0 h:Hp}{B:List Bx}{R:List Rw}{F:List (Hp->Prop)}(s:SS w0 h0 w h B R F)(p:SlO sz f x h A l):SS w0 h0 w h B R ((fun h=>SlO sz f x h A l)::F):=s.a_SlO p
theorem SS.aP {α β:Type}{sz a:Nat}{f:α->List Value}{x:α}{A:Z9}{l:List α}{g:β->List Value}{y:β}{D:Z9}{m:List β}{w0 w:World}{h0 h:Hp}{B:List Bx}{R:List Rw}{F:List (Hp->Prop)}(s:SS w0 h0 w h B R F)(p:SlO sz f x h A l)(q:SlO a g y h D m):SS w0 h0 w h B R ((fun h=>SlO a g y h D m)::(fun h=>SlO sz f x h A l)::F):=(s.a_SlO p).a_SlO q
section
variable {P:Program}{n:Nat}{N R:Po}{X:Nat->Po}{Γ:ck}{w:World}{h:Hp}
theorem cQ {x y:Code}(H:CG P n (fun a w=>y.wp P (iH N R X) a w) R X x Γ w):CG P n N R X (.seq x y) Γ w:=CG.seq H
theorem cK {y:Code}{N' R':Po}{X':Nat->Po}(H:CG P n N' R' X' y Γ w):CG P n (fun a w=>y.wp P (iH N' R' X') a w) R X .skip Γ w:=CG.skipN H
theorem kQ {id:Nat}{ops:Array Oper}(H:LG P n N R X ops 0 Γ w):CG P n N R X (.region id ops false) Γ w:=CG.listed H
theorem kZ {id:Nat}{c:Code}(H:CG P n N R (fun i=>if i=id then N else X i) c Γ w):CG P n N R X (.block id c) Γ w:=CG.block H
theorem kX (H:∀ a,Kn n a Γ->R a w):CG P n N R X .ret Γ w:=CG.ret H
theorem sS (g:G w h):SS w h w h [] [] []:=SS.start g
end
theorem nR (n:Nat):n<=n:=eb n
theorem dS {n:Int}(h0 : -9223372036854775808<=n)(h1:n<=9223372036854775807):IntKind.wrap .i64 n=n:=by rw[IntKind.wrap_i64];omega
def BL (P:Program)(ρ:Operand->Value)(o:Oper):Option (Value × Value × Nat) :=
  match o.op with
  | .indexAddr t x ix=>match P.underlying t with
    | some (.slice e)=>(P.info? e).map fun i=>(ρ x,ρ ix,i.size)
    | _=>none
  | _=>none
theorem gk {P:Program}{Γ:ck}{o:Oper}{A:Z9}{len cap sz:Nat}{i:Int}{k:Nat}(h:BL P (ev Γ) o=some (.slice A len cap,.int .i64 i,sz))(c:A=some ⟨aB A,aO A,none⟩)(b:i=k)(a:k<len)(w:World) :
    (execOp (ev Γ) o).run P w=.ok (.value (.pointer (some ⟨aB A,aO A+k*sz,none⟩))) w:=by
  unfold BL at h
  split at h
  . rename_i t x ix d
    split at h
    . rename_i e hu
      cases hi:P.info? e with
      | none=>rw[hi] at h;cases h
      | some inf =>
        rw[hi] at h
        simp only[pc,Option.some.injEq,Prod.mk.injEq] at h
        exact Ef (P:=P) k d h.1 h.2.1 hu (by rw[hi];simp[h.2.2]) c b a w
    . cases h
  . cases h
def DH (P:Program)(ρ:Operand->Value)(o:Oper):Option (Value × Option Value × Option Value × Nat) :=
  match o.op with
  | .slice t x lo' hi' none=>match P.underlying t with
    | some (.slice e)=>(P.info? e).map fun i=>(ρ x,lo'.map ρ,hi'.map ρ,i.size)
    | _=>none
  | _=>none
theorem DQ {P:Program}{Γ:ck}{o:Oper}{A:Z9}{len cap sz:Nat}{i:Int}(k:Nat)(h:DH P (ev Γ) o=some (.slice A len cap,none,some (.int .i64 i),sz))(b:i=k)(a:k<=cap)(w:World) :
    (execOp (ev Γ) o).run P w=.ok (.value (.slice A k cap)) w:=by
  unfold DH at h
  split at h
  . rename_i t x l r c
    split at h
    . rename_i e hu
      cases hi:P.info? e with
      | none=>rw[hi] at h;cases h
      | some inf =>
        rw[hi] at h
        simp only[pc,Option.some.injEq,Prod.mk.injEq,yZ,pa] at h
        obtain ⟨h1,rfl,⟨y,rfl,d⟩,f⟩:=h;exact HK (P:=P) k c h1 d hu (by rw[hi];rfl) b a w
    . cases h
  . cases h
theorem p4 {P:Program}{Γ:ck}{o:Oper}{A:Z9}{len cap sz:Nat}{i:Int}(k:Nat)(h:DH P (ev Γ) o=some (.slice A len cap,some (.int .i64 i),none,sz))(b:i=k)(a:k<=len)(w:World) :
    (execOp (ev Γ) o).run P w=.ok (.value (.slice (if cap=k then A else A.map (·.add (k*sz))) (len-k) (cap-k))) w:=by
  unfold DH at h
  split at h
  . rename_i t x l r c
    split at h
    . rename_i e hu
      cases hi:P.info? e with
      | none=>rw[hi] at h;cases h
      | some inf =>
        rw[hi] at h
        simp only[pc,Option.some.injEq,Prod.mk.injEq,yZ,pa] at h
        obtain ⟨h1,⟨y,rfl,f⟩,rfl,d⟩:=h;exact E7 (P:=P) k c h1 f hu (by rw[hi];simp[d]) b a w
    . cases h
  . cases h
def mkE (P:Program)(ρ:Operand->Value)(o:Oper):Option (Value × Value × TypeId × Value × Nat × Nat) :=
  match o.op with
  | .makeSlice t x y=>match P.underlying t with
    | some (.slice e)=>match P.info? e with
      | some i=>i.zero.map fun z=>(ρ x,ρ y,e,z,i.size,i.bytes)
      | _=>none
    | _=>none
  | _=>none
theorem BF {P:Program}{Γ:ck}{o:Oper}{e:TypeId}{z:Value}{m sz i:Nat}{α:Type}{f:α->List Value}{j:α}(h:mkE P (ev Γ) o=some (.int .i64 (m:Int),.int .i64 (m:Int),e,z,sz,i))(b:z.cells.toList=f j)(c:z.cells.size=sz)(a:0<sz)(k:i*m<=140737488355328)(d:m<9223372036854775808)(w:World) :
    (execOp (ev Γ) o).run P w=.ok (.value (.slice (some ⟨w.heap.size,0,none⟩) m m)) (w.alloc (.cells ((ta m j).flatMap f).toArray e (0,0))):=by
  unfold mkE at h
  split at h
  . rename_i t x y l
    split at h
    . rename_i D hu
      split at h
      . rename_i u hi
        simp only[pa,Prod.mk.injEq] at h
        obtain ⟨F,hz,h1,p,rfl,rfl,C,B⟩:=h;exact Id (P:=P) l h1 p hu (by rw[hi];simp[hz,C,B]) b c a k d w
      . cases h
    . cases h
  . cases h
def vC (P:Program)(ρ:Operand->Value)(o:Oper):Option (Value × Value × TypeId × Value × Nat × Nat) :=
  match o.op with
  | .call { callee:=.builtin .append,args:=⟨[x,y]⟩,argTypes:=⟨[t,u]⟩ }=>if t=u then match P.underlying t with
    | some (.slice e)=>match P.info? e with
      | some i=>i.zero.map fun z=>(ρ x,ρ y,e,z,i.size,i.bytes)
      | _=>none
    | _=>none else none
  | _=>none
theorem nh {P:Program}{ρ:Operand->Value}{o:Oper}{r:Value × Value × TypeId × Value × Nat × Nat}(h:vC P ρ o=some r):∃ x y t,o.op=.call { callee:=.builtin .append,args:=#[x,y],argTypes:=#[t,t] }/\ρ x=r.1/\ρ y=r.2.1/\P.underlying t=some (.slice r.2.2.1)/\(P.info? r.2.2.1).map (fun i=>(i.zero,i.size,i.bytes))=some (some r.2.2.2.1,r.2.2.2.2.1,r.2.2.2.2.2):=by
  unfold vC at h
  split at h
  . rename_i x y t u b
    split at h
    . rename_i a
      subst a
      split at h
      . rename_i e hu
        split at h
        . rename_i c hi
          simp only[pa] at h
          obtain ⟨z,hz,rfl⟩:=h;exact ⟨x,y,t,b,rfl,rfl,hu,by rw[hi];simp[hz]⟩
        . cases h
      . cases h
    . cases h
  . cases h
section listed
variable {P:Program}{n:Nat}{N R:Po}{X:Nat->Po}{ops:Array Oper}{k:Nat}{Γ:ck}{w:World}{h:Hp}{w0:World}{h0:Hp}{B:List Bx}{Rs:List Rw}{F:List (Hp->Prop)}
def cL (ops:Array Oper)(Γ:ck)(k t n:Nat):Bool:=gu ops Γ k && ((av ops k).dst == some t) && decide (t<n) && (bu ops Γ (av ops k) == some true)
def cS (ops:Array Oper)(Γ:ck)(k:Nat):Bool:=gu ops Γ k && ((av ops k).dst == none) && (bu ops Γ (av ops k) == some true)
theorem bS {t:Nat}(h:cL ops Γ k t n=true):(gu ops Γ k && ((av ops k).dst == some t) && decide (t<n))=true/\bu ops Γ (av ops k)=some true:=by
 unfold cL at h
 rw[hI] at h
 exact ⟨h.1,by simpa using h.2⟩
theorem kl (h:cS ops Γ k=true):(gu ops Γ k && ((av ops k).dst == none))=true/\bu ops Γ (av ops k)=some true:=by
 unfold cS at h
 rw[hI] at h
 exact ⟨h.1,by simpa using h.2⟩
theorem lV (t:Nat)(v:Value)(H:LG P n N R X ops (k+1) ((t,v)::Γ) w)(a:cL ops Γ k t n=true:=by kernel_rfl)(hr:(execOp (ev Γ) (av ops k)).run P w=.ok (.value v) w:=by kernel_rfl):LG P n N R X ops k Γ w :=
 LG.val t v w (bS a).1 (bS a).2 hr H
theorem lB (t:Nat){e b:Bool}(c:e=b)(H:LG P n N R X ops (k+1) ((t,.bool b)::Γ) w)(a:cL ops Γ k t n=true:=by kernel_rfl)(hr:(execOp (ev Γ) (av ops k)).run P w=.ok (.value (.bool e)) w:=by kernel_rfl):LG P n N R X ops k Γ w :=
 LG.val t _ w (bS a).1 (bS a).2 (c▸hr) H
theorem lI (t:Nat)(m:Int)(H:LG P n N R X ops (k+1) ((t,.int .i64 m)::Γ) w)(a:cL ops Γ k t n=true:=by kernel_rfl)(hr:(execOp (ev Γ) (av ops k)).run P w=.ok (.value (.int .i64 (IntKind.wrap .i64 m))) w:=by kernel_rfl)(h0 : -9223372036854775808<=m:=by omega)(h1:m<=9223372036854775807:=by omega):LG P n N R X ops k Γ w :=
 LG.val t _ w (bS a).1 (bS a).2 (by rw[dS h0 h1] at hr;exact hr) H
theorem bg (t:Nat)(m:Int)(j:Nat)(H:LG P n N R X ops (k+1) ((t,.int .i64 (j:Int))::Γ) w)(a:cL ops Γ k t n=true:=by kernel_rfl)(hr:(execOp (ev Γ) (av ops k)).run P w=.ok (.value (.int .i64 (IntKind.wrap .i64 m))) w:=by kernel_rfl)(b:m=j:=by omega)(h1:m<=9223372036854775807:=by omega):LG P n N R X ops k Γ w :=
 LG.val t _ w (bS a).1 (bS a).2 (by rw[dS oM h1,b] at hr;exact hr) H
theorem lO (t:Nat)(ps:List (Nat × Nat × Nat))(v:Value)(s:SS w0 h0 w h B Rs F)(H:LG P n N R X ops (k+1) ((t,v)::Γ) w)(a:cL ops Γ k t n=true:=by kernel_rfl)(b:bR B ps=true:=by kernel_rfl)(c:bP P (execOp (ev Γ) (av ops k)) (cg B ps)=some (.value v,bO B ps):=by kernel_rfl):LG P n N R X ops k Γ w :=
 LG.own t ps v s.st (bS a).1 (bS a).2 b c H
def GL (P:Program)(ops:Array Oper)(B:List Bx):ck->Nat->List (Nat × Value × List (Nat × Nat × Nat))->List (Option (Next × List Addr))
  | _,_,[]=>[]
  | Γ,k,x::l=>bP P (execOp (ev Γ) (av ops k)) (cg B x.2.2)::GL P ops B ((x.1,x.2.1)::Γ) (k+1) l
def Gn (n:Nat)(ops:Array Oper)(B:List Bx):ck->Nat->List (Nat × Value × List (Nat × Nat × Nat))->Bool
  | _,_,[]=>true
  | Γ,k,x::l=>cL ops Γ k x.1 n && bR B x.2.2 && Gn n ops B ((x.1,x.2.1)::Γ) (k+1) l
def sP (Γ:ck):List (Nat × Value × List (Nat × Nat × Nat))->ck
  | []=>Γ
  | x::l=>sP ((x.1,x.2.1)::Γ) l
theorem lS (s:SS w0 h0 w h B Rs F)(l:List (Nat × Value × List (Nat × Nat × Nat)))(H:LG P n N R X ops (k+l.length) (sP Γ l) w)(a:Gn n ops B Γ k l=true:=by kernel_rfl)(b:GL P ops B Γ k l=l.map (fun x=>some (.value x.2.1,bO B x.2.2)):=by kernel_rfl):LG P n N R X ops k Γ w:=by
  induction l generalizing Γ k with
  | nil=>exact H
  | cons x l ih =>
    unfold Gn at a
    simp only[hI] at a
    unfold GL at b
    rw[un] at b
    injection b with e1 e2
    refine lO x.1 x.2.2 x.2.1 s (ih ?_ a.2 e2) a.1.1 a.1.2 e1;have:k+1+l.length=k+(x::l).length:=by simp;omega
    rw[this];exact H
inductive It where
  | c
  | v (x:Value)
  | o (x:Value) (j a n:Nat)
def nT (ops:Array Oper)(k:Nat):Nat:=(av ops k).dst.getD 0
def nX (ops:Array Oper)(k:Nat)(Γ:ck):Value:=match (av ops k).op with
  | .move x=>ev Γ x
  | .assign x=>ev Γ x
  | _=>.tuple #[]
def It.to (ops:Array Oper)(k:Nat)(Γ:ck):It->Nat × Value × List (Nat × Nat × Nat)
  | .c=>(nT ops k,nX ops k Γ,[])
  | .v x=>(nT ops k,x,[])
  | .o x j a n=>(nT ops k,x,[(j,a,n)])
def uG (ops:Array Oper):Nat->ck->List It->List (Nat × Value × List (Nat × Nat × Nat))
  | _,_,[]=>[]
  | k,Γ,x::l=>x.to ops k Γ::uG ops (k+1) (((x.to ops k Γ).1,(x.to ops k Γ).2.1)::Γ) l
theorem AN (ops:Array Oper)(k:Nat)(Γ:ck)(l:List It):(uG ops k Γ l).length=l.length:=by
 induction l generalizing k Γ with
 | nil=>rfl
 | cons x l ih=>show (uG _ _ _ l).length+1=_;rw[ih];rfl
abbrev ac:List It:=[.c]
abbrev aF:List It:=[.c,.c]
abbrev dL:List It:=[.c,.c,.c]
abbrev m4:List It:=[.c,.c,.c,.c]
abbrev m5:List It:=[.c,.c,.c,.c,.c]
abbrev m6:List It:=[.c,.c,.c,.c,.c,.c]
theorem lL (s:SS w0 h0 w h B Rs F)(l:List It)(H:LG P n N R X ops (k+l.length) (sP Γ (uG ops k Γ l)) w)(a:Gn n ops B Γ k (uG ops k Γ l)=true:=by kernel_rfl)(b:GL P ops B Γ k (uG ops k Γ l)=(uG ops k Γ l).map (fun x=>some (.value x.2.1,bO B x.2.2)):=by kernel_rfl):LG P n N R X ops k Γ w :=
 lS s (uG ops k Γ l) (by rw[AN];exact H) a b
theorem lP (j o:Nat)(cs:List Value)(s:SS w0 h0 w h B Rs F)(H:∀ w',SS w0 h0 w' h (fO B j o cs) Rs F->LG P n N R X ops (k+1) Γ w')(c:cS ops Γ k=true:=by kernel_rfl)
  (a:(decide (j<B.length) && decide (o+cs.length<=(aA B j).vs.length))=true:=by kernel_rfl)(e:dq P (execOp (ev Γ) (av ops k))=some (.skip,mj (aA B j).b o cs):=by kernel_rfl):LG P n N R X ops k Γ w :=
 LG.put j o cs s.st s.g0 (kl c).1 (kl c).2 a e (fun w' p d=>H w' (s.put0 (oT (hI _ _▸a).1) p d (l9 (oT (hI _ _▸a).1))))
theorem lA (t:Nat)(ty:TypeId)(vs:List Value)(s:SS w0 h0 w h B Rs F)(H:∀ b w' a,SS w0 h0 w' a (⟨b,ty,vs⟩::B) Rs F->LG P n N R X ops (k+1) ((t,.pointer (some ⟨b,0,none⟩))::Γ) w')(c:cL ops Γ k t n=true:=by kernel_rfl)
  (hr:(execOp (ev Γ) (av ops k)).run P w=.ok (.value (.pointer (some ⟨w.heap.size,0,none⟩))) (w.alloc (.cells vs.toArray ty (0,0))):=by kernel_rfl):LG P n N R X ops k Γ w :=
 LG.var t ty vs s.st (bS c).1 (bS c).2 hr (fun b w' a e u d=>H b w' a (s.new u e d))
theorem lC (t:Nat){f:FuncId}{args:Array Value}{Φ:Value->Hp->Prop}(s:SS w0 h0 w h B Rs F)(c:Calls P f args w (Ret w h Φ))(H:∀ v w' a,SS w0 h0 w' a B Rs F->Φ v a->LG P n N R X ops (k+1) ((t,v)::Γ) w')(d:cL ops Γ k t n=true:=by kernel_rfl)(hr:(execOp (ev Γ) (av ops k)).run P w=.ok (.enter f args) w:=by kernel_rfl):LG P n N R X ops k Γ w :=
 LG.call t f args (bS d).1 (bS d).2 hr (c.mono fun e w' ⟨v,a,i,u,b⟩=>⟨v,i,H v w' a (s.step u) b⟩)
theorem d7 (t:Nat){f:FuncId}{args:Array Value}{Φ:Value->Hp->Prop}(c:Calls P f args w (Ret w h Φ))(H:∀ v w' a,Up w h w' a->Φ v a->LG P n N R X ops (k+1) ((t,v)::Γ) w')(d:cL ops Γ k t n=true:=by kernel_rfl)(hr:(execOp (ev Γ) (av ops k)).run P w=.ok (.enter f args) w:=by kernel_rfl):LG P n N R X ops k Γ w :=
 LG.call t f args (bS d).1 (bS d).2 hr (c.mono fun e w' ⟨v,a,i,u,b⟩=>⟨v,i,H v w' a u b⟩)
theorem bj (t:Nat){f:FuncId}{args:Array Value}{rb:Nat}{Φ:Value->World->Hp->Prop}(c:Calls P f args w (bW rb w h Φ))(H:∀ v w' a,UpM [rb] w h w' a->Φ v w' a->LG P n N R X ops (k+1) ((t,v)::Γ) w')(d:cL ops Γ k t n=true:=by kernel_rfl)(hr:(execOp (ev Γ) (av ops k)).run P w=.ok (.enter f args) w:=by kernel_rfl):LG P n N R X ops k Γ w :=
 LG.call t f args (bS d).1 (bS d).2 hr (c.mono fun e w' ⟨v,a,i,u,b⟩=>⟨v,i,H v w' a u b⟩)
theorem lH (t:Nat)(v:Value){b o:Nat}{cs:List Value}(s:SS w0 h0 w h B Rs F)(c:Seg h b o cs)(H:LG P n N R X ops (k+1) ((t,v)::Γ) w)(a:cL ops Γ k t n=true:=by kernel_rfl)(d:bP P (execOp (ev Γ) (av ops k)) cs=some (.value v,kI b o cs.length):=by kernel_rfl):LG P n N R X ops k Γ w :=
 LG.val t v w (bS a).1 (bS a).2 (Seg.run c s.g (Ext.refl _) d) H
theorem IY (t:Nat)(v:Value){u:Value}{b o:Nat}{cs:List Value}(s:SS w0 h0 w h B Rs F)(c:Seg h b o cs)(e:v=u)(H:LG P n N R X ops (k+1) ((t,u)::Γ) w)(a:cL ops Γ k t n=true:=by kernel_rfl)(d:bP P (execOp (ev Γ) (av ops k)) cs=some (.value v,kI b o cs.length):=by kernel_rfl):LG P n N R X ops k Γ w :=
 LG.val t u w (bS a).1 (bS a).2 (e▸Seg.run c s.g (Ext.refl _) d) H
theorem lX (t:Nat)(A:Z9)(len cap sz:Nat)(i:Int)(j:Nat)(c:A=some ⟨aB A,aO A,none⟩)(H:LG P n N R X ops (k+1) ((t,.pointer (some ⟨aB A,aO A+j*sz,none⟩))::Γ) w)(b:cL ops Γ k t n=true:=by kernel_rfl)(d:BL P (ev Γ) (av ops k)=some (.slice A len cap,.int .i64 i,sz):=by kernel_rfl)(e:i=j:=by omega)(a:j<len:=by omega):LG P n N R X ops k Γ w :=
 LG.val t _ w (bS b).1 (bS b).2 (gk d c e a w) H
theorem lT (t:Nat)(A:Z9)(len cap sz:Nat)(i:Int)(j:Nat)(H:LG P n N R X ops (k+1) ((t,.slice A j cap)::Γ) w)(b:cL ops Γ k t n=true:=by kernel_rfl)(c:DH P (ev Γ) (av ops k)=some (.slice A len cap,none,some (.int .i64 i),sz):=by kernel_rfl)(d:i=j:=by omega)(a:j<=cap:=by omega):LG P n N R X ops k Γ w :=
 LG.val t _ w (bS b).1 (bS b).2 (DQ j c d a w) H
theorem lF (t:Nat)(A:Z9)(len cap sz:Nat)(i:Int)(j:Nat)(H:LG P n N R X ops (k+1) ((t,.slice (if cap=j then A else A.map (·.add (j*sz))) (len-j) (cap-j))::Γ) w)(b:cL ops Γ k t n=true:=by kernel_rfl)(c:DH P (ev Γ) (av ops k)=some (.slice A len cap,some (.int .i64 i),none,sz):=by kernel_rfl)(d:i=j:=by omega)(a:j<=len:=by omega):LG P n N R X ops k Γ w :=
 LG.val t _ w (bS b).1 (bS b).2 (p4 j c d a w) H
theorem lR (t:Nat)(ty:TypeId)(m:Nat)(cs:List Value)(s:SS w0 h0 w h B Rs F)(H:∀ b w' a,SS w0 h0 w' a B Rs ((fun h=>Seg h b 0 cs)::F)->LG P n N R X ops (k+1) ((t,.slice (some ⟨b,0,none⟩) m m)::Γ) w')(c:cL ops Γ k t n=true:=by kernel_rfl)
  (hr:(execOp (ev Γ) (av ops k)).run P w=.ok (.value (.slice (some ⟨w.heap.size,0,none⟩) m m)) (w.alloc (.cells cs.toArray ty (0,0))):=by kernel_rfl):LG P n N R X ops k Γ w :=
 LG.row t ty m cs s.g (bS c).1 (bS c).2 hr (fun b w' a u d=>H b w' a ((s.step u).a_Seg d))
theorem lK {α:Type}(t:Nat)(ty:TypeId)(m sz l:Nat)(z:Value)(f:α->List Value)(o:α)(s:SS w0 h0 w h B Rs F)(H:∀ b w' e,SS w0 h0 w' e (⟨b,ty,(ta m o).flatMap f⟩::B) Rs F->LG P n N R X ops (k+1) ((t,.slice (some ⟨b,0,none⟩) m m)::Γ) w')(j:cL ops Γ k t n=true:=by kernel_rfl)
  (x:mkE P (ev Γ) (av ops k)=some (.int .i64 (m:Int),.int .i64 (m:Int),ty,z,sz,l):=by kernel_rfl)(c:z.cells.toList=f o:=by kernel_rfl)(d:z.cells.size=sz:=by kernel_rfl)(a:0<sz:=by decide)(p:l*m<=140737488355328:=by omega)(i:m<9223372036854775808:=by omega):LG P n N R X ops k Γ w :=
 LG.arr t ty m _ s.st (bS j).1 (bS j).2 (BF x c d a p i w) (fun b w' e C u y=>H b w' e (s.new u C y))
theorem lQ {α:Type}(t j:Nat)(l:List α)(f:α->List Value)(sz:Nat)(d:α)(e:Nat)(v:Value)(s:SS w0 h0 w h B Rs F)(o:e<l.length)(H:LG P n N R X ops (k+1) ((t,v)::Γ) w)(a:cL ops Γ k t n=true:=by kernel_rfl)
  (i:decide (j<B.length)=true:=by kernel_rfl)(hB:(aA B j).vs=l.flatMap f:=by kernel_rfl)(hf:∀ x,(f x).length=sz:=by intro _;rfl)
  (c:bP P (execOp (ev Γ) (av ops k)) (f (l.getD e d))=some (.value v,kI (aA B j).b (0+e*sz) (f (l.getD e d)).length):=by kernel_rfl):LG P n N R X ops k Γ w :=
 LG.ownA t j l f sz d e v s.st (bS a).1 (bS a).2 i hB hf o c H
theorem lW {α:Type}(j:Nat)(l:List α)(f:α->List Value)(sz e:Nat)(x:α)(s:SS w0 h0 w h B Rs F)(o:e<l.length)(H:∀ w',SS w0 h0 w' h (gB B j ((l.set e x).flatMap f)) Rs F->LG P n N R X ops (k+1) Γ w')(c:cS ops Γ k=true:=by kernel_rfl)
  (a:decide (j<B.length)=true:=by kernel_rfl)(hB:(aA B j).vs=l.flatMap f:=by kernel_rfl)(hf:∀ x,(f x).length=sz:=by intro _;rfl)
  (i:dq P (execOp (ev Γ) (av ops k))=some (.skip,mj (aA B j).b (0+e*sz) (f x)):=by kernel_rfl):LG P n N R X ops k Γ w :=
 LG.putA j l f sz e x s.st s.g0 (kl c).1 (kl c).2 a hB hf o i (fun w' p d=>H w' (s.put0 (oT a) p d (jJ (oT a))))
theorem gg {R:List Rw}{j:Nat}{r:Rw}(hr:R.getD j default=r)(a:j<R.length):R[j]=r:=by rw[<-hr];simp[a]
theorem Ii (t j:Nat){ty:TypeId}{sz c m:Nat}{A:Z9}{cs:List Value}{I m2 c2:Nat}{z:Value}{a:Addr}(news:List Value)(s:SS w0 h0 w h B Rs F)(b:∀ i u,news[i]?=some u->w.cell? (a.add i)=some u)(O:news.length=m2*sz)(h1:∀ u∈news,u.oneCell'=true)(D:j<Rs.length)(hr:Rs[j]=⟨ty,sz,A,c,m,cs⟩)
  (C:cL ops Γ k t n=true)(S:vC P (ev Γ) (av ops k)=some (.slice A m c,.slice (some a) m2 c2,ty,z,sz,I))(o:z.cells.size=sz)(e:0<sz)(L:m+m2<=1099511627776)(W:(m+m2)*I<=140737488355328)
  (H:∀ l c' w' p,SS w0 h0 w' p B (Rs.set j ⟨ty,sz,l,c',m+m2,cs++news⟩) F->LG P n N R X ops (k+1) ((t,.slice l (m+m2) c')::Γ) w'):LG P n N R X ops k Γ w:=by
 obtain ⟨x,y,U,Q,M,Z,hu,hi⟩:=nh S;have r:=s.ro _ (e5 D);rw[hr] at r
 obtain ⟨v',w',d,K,Y,f⟩:=sl (P:=P) Q M Z hu hi o e s.st r O b h1 L W;have J:=s.grown (j:=j) D (w':=w') (v':=v') (m2:=m2) (news:=news) (by rw[hr];exact K) (by rw[hr];exact Y) (by rw[hr];exact f);rw[hr] at J
 obtain ⟨p,l,c',rfl,_,V⟩:=J;exact LG.val t _ w' (bS C).1 (bS C).2 d (H l c' w' p V)
theorem pK {α:Type}{f:α->List Value}{l:List α}{x:α}:l.flatMap f++f x=(l++[x]).flatMap f:=by simp
theorem lY {α:Type}(t j:Nat)(ty:TypeId)(sz c:Nat)(A:Z9)(l:List α)(f:α->List Value)(x:α)(y b:Nat)(z:Value)(s:SS w0 h0 w h B Rs F)(D:Seg h b 0 (f x))
  (H:∀ e c' w' o,SS w0 h0 w' o B (Rs.set j ⟨ty,sz,e,c',(l++[x]).length,(l++[x]).flatMap f⟩) F->LG P n N R X ops (k+1) ((t,.slice e (l++[x]).length c')::Γ) w')
  (J:cL ops Γ k t n=true:=by kernel_rfl)(M:vC P (ev Γ) (av ops k)=some (.slice A l.length c,.slice (some ⟨b,0,none⟩) 1 1,ty,z,sz,y):=by kernel_rfl)(i:z.cells.size=sz:=by kernel_rfl)(a:0<sz:=by decide)
  (hr:Rs.getD j default=⟨ty,sz,A,c,l.length,l.flatMap f⟩:=by kernel_rfl)(L:decide (j<Rs.length)=true:=by kernel_rfl)(h1:(f x).all (·.oneCell')=true:=by kernel_rfl)(K:(f x).length=1*sz:=by kernel_rfl)(I:l.length+1<=1099511627776:=by omega)(O:(l.length+1)*y<=140737488355328:=by omega):LG P n N R X ops k Γ w:=by
 have d:=oT L;refine Ii t j (f x) s (lb s.g D) K (fun u hu=>(hS.1 h1) u hu) d (gg hr d) J M i a I O (fun e c' w' o C=>?_);have p:l.length+1=(l++[x]).length:=by simp
 rw[pK,p] at C
 rw[p];exact H e c' w' o C
end listed
section code
variable {P:Program}{n:Nat}{N R:Po}{X:Nat->Po}{Γ:ck}{w:World}
theorem aG {id:Nat}{ops:Array Oper}{y:Code}(H:LG P n (fun a w=>y.wp P (iH N R X) a w) R X ops 0 Γ w):CG P n N R X (.seq (.region id ops false) y) Γ w:=CG.seq (CG.listed H)
theorem ci {c:Operand}{x y:Code}(b:CG P n N R X x Γ w)(a:gW Γ c=true:=by kernel_rfl)(hv:ev Γ c=.bool true:=by kernel_rfl):CG P n N R X (.cond c x y) Γ w:=CG.condT a hv b
theorem da {c:Operand}{x y:Code}(b:CG P n N R X y Γ w)(a:gW Γ c=true:=by kernel_rfl)(hv:ev Γ c=.bool false:=by kernel_rfl):CG P n N R X (.cond c x y) Γ w:=CG.condF a hv b
theorem bG {c:Code}(Γ':ck)(H:CG P n N R X c Γ' w)(b:jn Γ (Γ'.map (·.1))=Γ':=by kernel_rfl)(a:iD Γ'=iD Γ:=by kernel_rfl):CG P n N R X c Γ w:=CG.to Γ' b a H
theorem lN {ops:Array Oper}{k:Nat}{y:Code}{N' R':Po}{X':Nat->Po}(H:CG P n N' R' X' y Γ w)(b:(k == ops.size)=true:=by kernel_rfl):LG P n (fun a w=>y.wp P (iH N' R' X') a w) R X ops k Γ w:=LG.next b H
theorem aE {ops:Array Oper}{k:Nat}{id:Nat}{b:Array Oper}{y:Code}{N' R':Po}{X':Nat->Po}(H:LG P n (fun a w=>y.wp P (iH N' R' X') a w) R' X' b 0 Γ w)(c:(k == ops.size)=true:=by kernel_rfl):LG P n (fun a w=>(Code.seq (.region id b false) y).wp P (iH N' R' X') a w) R X ops k Γ w:=lN (aG H) c
theorem lD {ops:Array Oper}{k:Nat}(H:∀ a,Kn n a Γ->N a w)(b:(k == ops.size)=true:=by kernel_rfl):LG P n N R X ops k Γ w:=LG.done b H
theorem lG {ops:Array Oper}{k:Nat}(t:Nat)(H:LG P n N R X ops (k+1) ((t,undef)::Γ) w)(b:(decide (k<ops.size) && ((av ops k).dst == some t) && decide (t<n))=true:=by kernel_rfl)(a:bu ops Γ (av ops k)=some false:=by kernel_rfl):LG P n N R X ops k Γ w:=LG.out t b a H
theorem SS.ret {b:Func}{Φ:Value->Hp->Prop}{w0:World}{h0:Hp}{h:Hp}{B:List Bx}{Rs:List Rw}{F:List (Hp->Prop)}(s:SS w0 h0 w h B Rs F)(ps:List (Nat × Nat × Nat))(v:Value)(c:Φ v h)(e:(kW b Γ && bR B ps)=true:=by kernel_rfl)(d:bP P (mm b Γ) (cg B ps)=some (v,bO B ps):=by kernel_rfl):∀ a,Kn n a Γ->lf P b (Ret w0 h0 Φ) a w:=HL s.st ps v e d c
theorem SS.retM {b:Func}{rb:Nat}{Φ:Value->World->Hp->Prop}{w0 wz:World}{h0 hz:Hp}{h:Hp}{B:List Bx}{Rs:List Rw}{F:List (Hp->Prop)}(s:SS wz hz w h B Rs F)(d:UpM [rb] w0 h0 w h)(ps:List (Nat × Nat × Nat))(v:Value)(c:Φ v w h)(f:(kW b Γ && bR B ps)=true:=by kernel_rfl)(e:bP P (mm b Γ) (cg B ps)=some (v,bO B ps):=by kernel_rfl):∀ a,Kn n a Γ->lf P b (bW rb w0 h0 Φ) a w:=Go.Proofs.YtffiihfdjnmhpaaGreatDoor.retM s.st d ps v f e c
theorem go {f:FuncId}{a:Func}{c:Code}{args:Array Value}{d:Ending->World->Prop}(hf:P.funcs[f]?=some a)(Γ0:ck)(i:a.body=some c)(H:CG P a.ntmps (lf P a d) (lf P a d) (fun _ _ _=>False) c Γ0 w)(h:Nat.ble args.size a.ntmps=true:=by kernel_rfl)(b:Γ0=envOf args.toList:=by kernel_rfl)(e:Nat.ble a.ntmps 1000000=true:=by kernel_rfl):Calls P f args w d :=
 enter hf i rfl (y3 h) (y3 e) Γ0 b H
end code
section
variable {P:Program}{n:Nat}{N R N' R' R2:Po}{X X' X2:Nat->Po}{Γ:ck}{w w0:World}{h h0:Hp}{B:List Bx}{Rs:List Rw}{F:List (Hp->Prop)}{ops:Array Oper}{k:Nat}
theorem aq (t:Nat){f:FuncId}{args:Array Value}{x:Value}(s:SS w0 h0 w h B Rs F)(c:Calls P f args w (Ret w h fun v _=>v=x))(H:∀ w1 h1,SS w0 h0 w1 h1 B Rs F->LG P n N R X ops (k+1) ((t,x)::Γ) w1)(b:cL ops Γ k t n=true:=by kernel_rfl)(hr:(execOp (ev Γ) (av ops k)).run P w=.ok (.enter f args) w:=by kernel_rfl):LG P n N R X ops k Γ w:=lC t s c (fun v w1 h1 a e=>by subst e;exact H w1 h1 a) b hr
theorem aa {id:Nat}{y:Code}(s:SS w0 h0 w h B Rs F)(l:List It)(H:LG P n (fun a w=>y.wp P (iH N R X) a w) R X ops (0+l.length) (sP Γ (uG ops 0 Γ l)) w)(b:Gn n ops B Γ 0 (uG ops 0 Γ l)=true:=by kernel_rfl)(c:GL P ops B Γ 0 (uG ops 0 Γ l)=(uG ops 0 Γ l).map (fun x=>some (.value x.2.1,bO B x.2.2)):=by kernel_rfl):CG P n N R X (.seq (.region id ops false) y) Γ w:=aG (lL s l H b c)
theorem ai {x y:Code}(H:CG P n (fun a w=>y.wp P (iH N' R' X') a w) R' X' x Γ w)(b:(k==ops.size)=true:=by kernel_rfl):LG P n (fun a w=>(Code.seq x y).wp P (iH N' R' X') a w) R X ops k Γ w:=lN (CG.seq H) b
theorem bE {id:Nat}{c:Code}(H:CG P n N' R' (fun i=>if i=id then N' else X' i) c Γ w)(b:(k==ops.size)=true:=by kernel_rfl):LG P n (fun a w=>(Code.block id c).wp P (iH N' R' X') a w) R X ops k Γ w:=lN (CG.block H) b
theorem ah {c:Operand}{x y:Code}(H:CG P n N' R' X' y Γ w)(b:(k==ops.size)=true:=by kernel_rfl)(hi:gW Γ c=true:=by kernel_rfl)(hv:ev Γ c=.bool false:=by kernel_rfl):LG P n (fun a w=>(Code.cond c x y).wp P (iH N' R' X') a w) R X ops k Γ w:=lN (da H hi hv) b
theorem aj {c:Operand}{x y:Code}(H:CG P n N' R' X' x Γ w)(b:(k==ops.size)=true:=by kernel_rfl)(hi:gW Γ c=true:=by kernel_rfl)(hv:ev Γ c=.bool true:=by kernel_rfl):LG P n (fun a w=>(Code.cond c x y).wp P (iH N' R' X') a w) R X ops k Γ w:=lN (ci H hi hv) b
theorem af {b:Func}{Φ:Value->Hp->Prop}(s:SS w0 h0 w h B Rs F)(ps:List (Nat×Nat×Nat))(v:Value)(c:Φ v h)(d:(k==ops.size)=true:=by kernel_rfl)(f:(kW b Γ&&bR B ps)=true:=by kernel_rfl)(e:bP P (mm b Γ) (cg B ps)=some (v,bO B ps):=by kernel_rfl):LG P n (fun a w=>Code.ret.wp P (iH N' (lf P b (Ret w0 h0 Φ)) X') a w) R X ops k Γ w:=lN (CG.ret (s.ret ps v c f e)) d
end
section drawn
variable {M:Ms}{P:Program}{n:Nat}{N R:Po}{X:Nat->Po}{ops:Array Oper}{k0:Nat}{hr:Hp}{AL:List Al}{L:Array Bool}{Γ:ck}{w:World}{h:Hp}{w0:World}{h0:Hp}{B:List Bx}{Rs:List Rw}{F:List (Hp->Prop)}
def cE (n:Nat)(ops:Array Oper)(k0:Nat)(AL:List Al)(L:Array Bool)(Γ:ck)(i t:Nat):Bool:=dj n ops k0 AL L i t && ba Γ (av ops i) && (bu ops Γ (av ops i) == some true)
def AB (n:Nat)(ops:Array Oper)(k0:Nat)(AL:List Al)(L:Array Bool)(Γ:ck)(i t:Nat):Bool:=dj n ops k0 AL L i t && ba Γ (av ops i) && ij ops k0 i && (bu ops Γ (av ops i) == some true)
def AC (n:Nat)(ops:Array Oper)(k0:Nat)(AL:List Al)(L:Array Bool)(Γ:ck)(i t:Nat):Bool:=kS n ops k0 AL L i t && ba Γ (av ops i) && (bu ops Γ (av ops i) == some true)
theorem jR {i t:Nat}(h:cE n ops k0 AL L Γ i t=true):(dj n ops k0 AL L i t && ba Γ (av ops i))=true/\bu ops Γ (av ops i)=some true:=by
 unfold cE at h;rw[hI] at h;exact ⟨h.1,by simpa using h.2⟩
theorem hJ {i t:Nat}(h:AB n ops k0 AL L Γ i t=true):(dj n ops k0 AL L i t && ba Γ (av ops i) && ij ops k0 i)=true/\bu ops Γ (av ops i)=some true:=by
 unfold AB at h;rw[hI] at h;exact ⟨h.1,by simpa using h.2⟩
theorem fA {i t:Nat}(h:AC n ops k0 AL L Γ i t=true):(kS n ops k0 AL L i t && ba Γ (av ops i))=true/\bu ops Γ (av ops i)=some true:=by
 unfold AC at h;rw[hI] at h;exact ⟨h.1,by simpa using h.2⟩
theorem eV (i t:Nat)(v:Value)(H:EG M P n N R X ops k0 hr AL (L.setIfInBounds i true) ((t,v)::Γ) w h)(a:cE n ops k0 AL L Γ i t=true:=by kernel_rfl)(hv:∀ w,(execOp (ev Γ) (av ops i)).run P w=.ok (.value v) w:=by intro _;kernel_rfl):EG M P n N R X ops k0 hr AL L Γ w h :=
 Rg.pure i t v (jR a).1 (jR a).2 hv H
theorem eB (i t:Nat){e b:Bool}(c:e=b)(H:EG M P n N R X ops k0 hr AL (L.setIfInBounds i true) ((t,.bool b)::Γ) w h)(a:cE n ops k0 AL L Γ i t=true:=by kernel_rfl)(hv:∀ w,(execOp (ev Γ) (av ops i)).run P w=.ok (.value (.bool e)) w:=by intro _;kernel_rfl):EG M P n N R X ops k0 hr AL L Γ w h :=
 Rg.pure i t _ (jR a).1 (jR a).2 (fun w=>c▸hv w) H
theorem eI (i t:Nat)(m:Int)(H:EG M P n N R X ops k0 hr AL (L.setIfInBounds i true) ((t,.int .i64 m)::Γ) w h)(a:cE n ops k0 AL L Γ i t=true:=by kernel_rfl)(hv:∀ w,(execOp (ev Γ) (av ops i)).run P w=.ok (.value (.int .i64 (IntKind.wrap .i64 m))) w:=by intro _;kernel_rfl)(h0 : -9223372036854775808<=m:=by omega)(h1:m<=9223372036854775807:=by omega):EG M P n N R X ops k0 hr AL L Γ w h :=
 Rg.pure i t _ (jR a).1 (jR a).2 (fun w=>by have:=hv w;rw[dS h0 h1] at this;exact this) H
theorem iO (i t:Nat)(m:Int)(j:Nat)(H:EG M P n N R X ops k0 hr AL (L.setIfInBounds i true) ((t,.int .i64 (j:Int))::Γ) w h)(a:cE n ops k0 AL L Γ i t=true:=by kernel_rfl)(hv:∀ w,(execOp (ev Γ) (av ops i)).run P w=.ok (.value (.int .i64 (IntKind.wrap .i64 m))) w:=by intro _;kernel_rfl)(b:m=j:=by omega)(h1:m<=9223372036854775807:=by omega):EG M P n N R X ops k0 hr AL L Γ w h :=
 Rg.pure i t _ (jR a).1 (jR a).2 (fun w=>by have:=hv w;rw[dS oM h1,b] at this;exact this) H
theorem eG (i t:Nat)(H:EG M P n N R X ops k0 hr AL (L.setIfInBounds i true) ((t,undef)::Γ) w h)(b:dj n ops k0 AL L i t=true:=by kernel_rfl)(a:bu ops Γ (av ops i)=some false:=by kernel_rfl):EG M P n N R X ops k0 hr AL L Γ w h:=Rg.skip i t b a H
theorem eO (i t:Nat)(ps:List (Nat × Nat × Nat))(v:Value)(s:SS w0 h0 w h B Rs F)(H:EG M P n N R X ops k0 hr AL (L.setIfInBounds i true) ((t,v)::Γ) w h)(hM:∀ p∈ps,(aA B p.1).b ∉ M.l:=by intro _ _;exact List.not_mem_nil)(a:AB n ops k0 AL L Γ i t=true:=by kernel_rfl)(c:bR B ps=true:=by kernel_rfl)(d:bP P (execOp (ev Γ) (av ops i)) (cg B ps)=some (.value v,bO B ps):=by kernel_rfl):EG M P n N R X ops k0 hr AL L Γ w h :=
 Rg.own i t ps v s.st (hJ a).1 (hJ a).2 hM c d H
theorem eH (i t:Nat)(v:Value){b o:Nat}{cs:List Value}(s:SS w0 h0 w h B Rs F)(c:Seg h b o cs)(H:EG M P n N R X ops k0 hr AL (L.setIfInBounds i true) ((t,v)::Γ) w h)(hM:∀ b∈M.l,h[b]?=some junk:=by intro _ hb;cases hb)(a:AB n ops k0 AL L Γ i t=true:=by kernel_rfl)(d:bP P (execOp (ev Γ) (av ops i)) cs=some (.value v,kI b o cs.length):=by kernel_rfl):EG M P n N R X ops k0 hr AL L Γ w h :=
 Rg.load i t v (hJ a).1 (hJ a).2 (fun _ e=>Seg.runM c s.g hM e d) H
theorem IU (i t:Nat)(v:Value){u:Value}{b o:Nat}{cs:List Value}(s:SS w0 h0 w h B Rs F)(c:Seg h b o cs)(e:v=u)(H:EG M P n N R X ops k0 hr AL (L.setIfInBounds i true) ((t,u)::Γ) w h)(hM:∀ b∈M.l,h[b]?=some junk:=by intro _ hb;cases hb)(a:AB n ops k0 AL L Γ i t=true:=by kernel_rfl)(d:bP P (execOp (ev Γ) (av ops i)) cs=some (.value v,kI b o cs.length):=by kernel_rfl):EG M P n N R X ops k0 hr AL L Γ w h :=
 Rg.load i t u (hJ a).1 (hJ a).2 (fun _ f=>e▸Seg.runM c s.g hM f d) H
theorem eX (i t:Nat)(A:Z9)(len cap sz:Nat)(x:Int)(j:Nat)(c:A=some ⟨aB A,aO A,none⟩)(H:EG M P n N R X ops k0 hr AL (L.setIfInBounds i true) ((t,.pointer (some ⟨aB A,aO A+j*sz,none⟩))::Γ) w h)(b:cE n ops k0 AL L Γ i t=true:=by kernel_rfl)(d:BL P (ev Γ) (av ops i)=some (.slice A len cap,.int .i64 x,sz):=by kernel_rfl)(e:x=j:=by omega)(a:j<len:=by omega):EG M P n N R X ops k0 hr AL L Γ w h :=
 Rg.pure i t _ (jR b).1 (jR b).2 (gk d c e a) H
theorem eQ {α:Type}(i t j:Nat)(l:List α)(f:α->List Value)(sz:Nat)(d:α)(e:Nat)(v:Value)(s:SS w0 h0 w h B Rs F)(k:e<l.length)(H:EG M P n N R X ops k0 hr AL (L.setIfInBounds i true) ((t,v)::Γ) w h)(hM:(aA B j).b ∉ M.l:=by exact List.not_mem_nil)(a:AB n ops k0 AL L Γ i t=true:=by kernel_rfl)
  (c:decide (j<B.length)=true:=by kernel_rfl)(hB:(aA B j).vs=l.flatMap f:=by kernel_rfl)(hf:∀ x,(f x).length=sz:=by intro _;rfl)
  (o:bP P (execOp (ev Γ) (av ops i)) (f (l.getD e d))=some (.value v,kI (aA B j).b (0+e*sz) (f (l.getD e d)).length):=by kernel_rfl):EG M P n N R X ops k0 hr AL L Γ w h :=
 Rg.ownA i t j l f sz d e v s.st (hJ a).1 (hJ a).2 hM c hB hf k o H
theorem eC (i t:Nat){f:FuncId}{args:Array Value}{Φ:World->Hp->Value->Hp->Prop}(s:SS w0 h0 w h B Rs F)(c:∀ w1 h1,SS w0 h0 w1 h1 B Rs F->Calls P f args w1 (Ret w1 h1 (Φ w1 h1)))(H:∀ w1 h1 v w' a,SS w0 h0 w' a B Rs F->Φ w1 h1 v a->EG M P n N R X ops k0 hr AL (L.setIfInBounds i true) ((t,v)::Γ) w' a)(j:AC n ops k0 AL L Γ i t=true:=by kernel_rfl)(hv:∀ w,(execOp (ev Γ) (av ops i)).run P w=.ok (.enter f args) w:=by intro _;kernel_rfl):EG M P n N R X ops k0 hr AL L Γ w h :=
 Rg.call i t f args (fA j).1 (fA j).2 hv (fun w1 h1 u=>(c w1 h1 (s.step u)).mono fun e w' ⟨v,a,k,d,b⟩=>⟨v,a,k,d.m M.l,H w1 h1 v w' a ((s.step u).step d) b⟩)
theorem eR (i t:Nat)(ty:TypeId)(m:Nat)(cs:List Value)(s:SS w0 h0 w h B Rs F)(H:∀ b w' a,SS w0 h0 w' a B Rs ((fun h=>Seg h b 0 cs)::F)->EG M P n N R X ops k0 hr AL (L.setIfInBounds i true) ((t,.slice (some ⟨b,0,none⟩) m m)::Γ) w' a)(c:AC n ops k0 AL L Γ i t=true:=by kernel_rfl)
  (hv:∀ w,(execOp (ev Γ) (av ops i)).run P w=.ok (.value (.slice (some ⟨w.heap.size,0,none⟩) m m)) (w.alloc (.cells cs.toArray ty (0,0))):=by intro _;kernel_rfl):EG M P n N R X ops k0 hr AL L Γ w h :=
 Rg.row i t ty m cs (fA c).1 (fA c).2 hv (fun b w' a u d=>H b w' a ((s.step u).a_Seg d))
theorem eY {α:Type}(i t j:Nat)(ty:TypeId)(sz c:Nat)(A:Z9)(l:List α)(f:α->List Value)(x:α)(W b:Nat)(z:Value)(s:SS w0 h0 w h B Rs F)(sg:∀ h,AllF F h->Seg h b 0 (f x))(Q:∀ b,(Value.slice A l.length c).ownBlock=some b->b∈M.l)
  (H:∀ K c' w' C,SS w0 h0 w' C B (Rs.set j ⟨ty,sz,K,c',(l++[x]).length,(l++[x]).flatMap f⟩) F->EG M P n N R X ops k0 hr AL (L.setIfInBounds i true) ((t,.slice K (l++[x]).length c')::Γ) w' C)
  (J:AC n ops k0 AL L Γ i t=true:=by kernel_rfl)(he:vC P (ev Γ) (av ops i)=some (.slice A l.length c,.slice (some ⟨b,0,none⟩) 1 1,ty,z,sz,W):=by kernel_rfl)(U:z.cells.size=sz:=by kernel_rfl)(o:0<sz:=by decide)
  (S:Rs.getD j default=⟨ty,sz,A,c,l.length,l.flatMap f⟩:=by kernel_rfl)(hj:decide (j<Rs.length)=true:=by kernel_rfl)(h1:(f x).all (·.oneCell')=true:=by kernel_rfl)(hl:(f x).length=1*sz:=by kernel_rfl)(hm:l.length+1<=1099511627776:=by omega)(hb:(l.length+1)*W<=140737488355328:=by omega):EG M P n N R X ops k0 hr AL L Γ w h:=by
 have d:=oT hj;refine Rg.event i t (fA J).1 (fA J).2 (fun w1 h1' u=>?_);have D:=s.step u;obtain ⟨x',y,ty',ho,hx,hy,hu,hi⟩:=nh he;have r:=D.ro _ (e5 d);have I:=gg S d;rw[I] at r
 obtain ⟨v',w',a,Z,k,p⟩:=sl (P:=P) ho hx hy hu hi U o D.st r hl (lb D.g (sg _ D.f)) (fun u hu=>(hS.1 h1) u hu) hm hb;have Y:=D.grown (j:=j) d (w':=w') (v':=v') (m2:=1) (news:=f x) (by rw[I];exact Z) (by rw[I];exact k) (by rw[I];exact p);rw[I] at Y
 obtain ⟨C,K,c',rfl,e2,O⟩:=Y;have V:l.length+1=(l++[x]).length:=by simp
 simp only[] at O
 rw[pK,V] at O
 rw[V] at a
 exact .inl ⟨_,w',C,a,⟨⟨k.os,k.tape,k.output,k.size,fun c J hn=>k.block c J (fun e=>hn (Q c e.symm))⟩,e2,O.g⟩,H K c' w' C O⟩
theorem cG (s:SS w0 h0 w h B Rs F)(H:∀ w' a,SS w0 h0 w' a B Rs F->AG M P n N R X ops k0 L Γ w')(b:fl ops [] L=true:=by kernel_rfl):EG M P n N R X ops k0 hr [] L Γ w h:=Rg.fin0 b (fun w' a u=>H w' a (s.step u))
def cT (n:Nat)(ops:Array Oper)(k0:Nat)(L:Array Bool)(Γ:ck)(i t:Nat):Bool:=gR ops k0 L i && ba Γ (av ops i) && ((av ops i).dst == some t) && decide (t<n) && (bu ops Γ (av ops i) == some true)
def FL (ops:Array Oper)(k0:Nat)(L:Array Bool)(Γ:ck)(i:Nat):Bool:=gR ops k0 L i && ba Γ (av ops i) && ((av ops i).dst == none) && (bu ops Γ (av ops i) == some true)
theorem oP {i t:Nat}(h:cT n ops k0 L Γ i t=true):(gR ops k0 L i && ba Γ (av ops i) && ((av ops i).dst == some t) && decide (t<n))=true/\bu ops Γ (av ops i)=some true:=by
 unfold cT at h;rw[hI] at h;exact ⟨h.1,by simpa using h.2⟩
theorem j7 {i:Nat}(h:FL ops k0 L Γ i=true):(gR ops k0 L i && ba Γ (av ops i) && ((av ops i).dst == none))=true/\bu ops Γ (av ops i)=some true:=by
 unfold FL at h;rw[hI] at h;exact ⟨h.1,by simpa using h.2⟩
theorem tV (i t:Nat)(v:Value)(H:AG M P n N R X ops k0 (L.setIfInBounds i true) ((t,v)::Γ) w)(a:cT n ops k0 L Γ i t=true:=by kernel_rfl)(hv:(execOp (ev Γ) (av ops i)).run P w=.ok (.value v) w:=by kernel_rfl):AG M P n N R X ops k0 L Γ w:=T.val i t v w (oP a).1 (oP a).2 hv H
theorem tP (i j o:Nat)(cs:List Value)(s:SS w0 h0 w h B Rs F)(H:∀ w',SS w0 h0 w' h (fO B j o cs) Rs F->AG M P n N R X ops k0 (L.setIfInBounds i true) Γ w')(c:FL ops k0 L Γ i=true:=by kernel_rfl)
  (a:(decide (j<B.length) && decide (o+cs.length<=(aA B j).vs.length))=true:=by kernel_rfl)(f:dq P (execOp (ev Γ) (av ops i))=some (.skip,mj (aA B j).b o cs):=by kernel_rfl)(hz:∀ K bs,M.z=some (K,bs)->K<=(aA B j).b\/(aA B j).b∈bs:=by intro _ _ e;cases e):AG M P n N R X ops k0 L Γ w :=
 T.put i j o cs s.st s.g0 (j7 c).1 (j7 c).2 a f (fun w' p d=>H w' (s.put0 (oT (hI _ _▸a).1) p d (l9 (oT (hI _ _▸a).1)))) hz
theorem tW {α:Type}(i j:Nat)(l:List α)(f:α->List Value)(sz e:Nat)(x:α)(s:SS w0 h0 w h B Rs F)(d:e<l.length)(H:∀ w',SS w0 h0 w' h (gB B j ((l.set e x).flatMap f)) Rs F->AG M P n N R X ops k0 (L.setIfInBounds i true) Γ w')(c:FL ops k0 L Γ i=true:=by kernel_rfl)
  (a:decide (j<B.length)=true:=by kernel_rfl)(hB:(aA B j).vs=l.flatMap f:=by kernel_rfl)(hf:∀ x,(f x).length=sz:=by intro _;rfl)
  (k:dq P (execOp (ev Γ) (av ops i))=some (.skip,mj (aA B j).b (0+e*sz) (f x)):=by kernel_rfl)(hz:∀ K bs,M.z=some (K,bs)->K<=(aA B j).b\/(aA B j).b∈bs:=by intro _ _ e;cases e):AG M P n N R X ops k0 L Γ w :=
 T.putA i j l f sz e x s.st s.g0 (j7 c).1 (j7 c).2 a hB hf d k (fun w' p o=>H w' (s.put0 (oT a) p o (jJ (oT a)))) hz
theorem tN {y:Code}{N' R':Po}{X':Nat->Po}(H:CG P n N' R' X' y Γ w)(b:(Region.ready .any ops L).isEmpty=true:=by kernel_rfl):AG M P n (fun a w=>y.wp P (iH N' R' X') a w) R X ops k0 L Γ w:=T.next b H
theorem Av {id:Nat}{b:Array Oper}{y:Code}{N' R':Po}{X':Nat->Po}(H:LG P n (fun a w=>y.wp P (iH N' R' X') a w) R' X' b 0 Γ w)(c:(Region.ready .any ops L).isEmpty=true:=by kernel_rfl):AG M P n (fun a w=>(Code.seq (.region id b false) y).wp P (iH N' R' X') a w) R X ops k0 L Γ w:=tN (aG H) c
theorem tD (H:∀ a,Kn n a Γ->N a w)(b:(Region.ready .any ops L).isEmpty=true:=by kernel_rfl):AG M P n N R X ops k0 L Γ w:=T.done b H
theorem cR {id:Nat}{d:Bool}(k0:Nat)(AL:List Al)(c:P.follows .mixedOrders=true)(s:SS w0 h0 w h B Rs F)(b:∀ x∈AL,AlOk P ops k0 x)(H:EG ⟨[],none⟩ P n N R X ops k0 h AL (ow ops.size false) Γ w h)(a:kG ops=true:=by kernel_rfl):CG P n N R X (.region id ops d) Γ w :=
 CG.region ⟨[],none⟩ k0 AL c a s.g b (fun _ e=>by cases e) H
end drawn
theorem aK {M:Ms}{P:Program}{n:Nat}{N R:Po}{X:Nat->Po}{ops:Array Oper}{k0:Nat}{hr:Hp}{AL:List Al}{L:Array Bool}{Γ:ck}{w w0:World}{h h0:Hp}{B:List Bx}{Rs:List Rw}{F:List (Hp->Prop)}(i t:Nat){f:FuncId}{args:Array Value}{x:Value}(s:SS w0 h0 w h B Rs F)(c:∀ w1 h1,SS w0 h0 w1 h1 B Rs F->Calls P f args w1 (Ret w1 h1 fun v _=>v=x))(H:∀ w1 h1,SS w0 h0 w1 h1 B Rs F->EG M P n N R X ops k0 hr AL (L.setIfInBounds i true) ((t,x)::Γ) w1 h1)(a:AC n ops k0 AL L Γ i t=true:=by kernel_rfl)(hv:∀ w,(execOp (ev Γ) (av ops i)).run P w=.ok (.enter f args) w:=by intro _;kernel_rfl):EG M P n N R X ops k0 hr AL L Γ w h:=eC i t s c (fun _ _ v w1 h1 b e=>by subst e;exact H w1 h1 b) a hv
theorem AU {w:World}{h:Hp}(g:G w h){b:Nat}{ty:TypeId}{vs:List Value}(j:h[b]?=some junk)(o:Own w b ty vs):∃ d,G w d/\Gw h d/\Seg d b 0 vs/\∀ c,c≠b->d[c]?=h[c]?:=by
 have a:=aI j;refine ⟨h.setIfInBounds b (.cells vs.toArray ty (0,0)),⟨by simp;exact g.size,fun c=>?_⟩,⟨by simp,fun c f=>?_⟩,fun i v hv=>?_,fun c f=>g6 (Ne.symm f)⟩
 ·by_cases e:b=c
  ·subst e;left;rw[u9 a];exact o.symm
  ·rw[g6 e];exact g.blk c
 ·by_cases e:b=c
  ·subst e;exact .inr j
  ·left;rw[g6 e]
 ·unfold ee
  rw[u9 a]
  simpa using hv
theorem rt {w w':World}{h i j:Hp}{b:Nat}(k:h[b]?=some junk)(l:∀ c,c≠b->i[c]?=h[c]?)(f:i.size=h.size)(u:Up w i w' j):∃ d,Up w h w' d:=by
 have o:=aI k;have a:b<j.size:=ep oM u.gr.size;refine ⟨j.setIfInBounds b junk,u.ext,⟨by simp;rw[<-f];exact u.gr.size,fun c p=>?_⟩,⟨by simp;exact u.g.size,fun c=>?_⟩⟩
 ·by_cases e:b=c
  ·subst e;rw[u9 a,k]
  ·rw[g6 e,u.gr.blk c oM,l c (Ne.symm e)]
 ·by_cases e:b=c
  ·subst e;right;rw[u9 a]
  ·rw[g6 e];exact u.g.blk c
theorem G.sz {w:World}{h a:Hp}(g:G w h)(b:G w a):a.size=h.size:=by rw[<-g.size,<-b.size]
section lent
variable {M:Ms}{P:Program}{n:Nat}{N R:Po}{X:Nat->Po}{ops:Array Oper}{k k0:Nat}{hr:Hp}{AL:List Al}{L:Array Bool}{Γ:ck}{w:World}{h:Hp}{w0:World}{h0:Hp}{B:List Bx}{Rs:List Rw}{F:List (Hp->Prop)}
theorem SS.lends (s:SS w0 h0 w h B Rs F){j:Nat}(o:j<B.length){f:FuncId}{args:Array Value}{Φ:Value->Prop}(c:∀ a,G w a->AllF F a->Seg a (aA B j).b 0 (aA B j).vs->Calls P f args w (Ret w a (fun v _=>Φ v))):Calls P f args w (Ret w h (fun v _=>Φ v)):=by
 have i:=bA o;obtain ⟨a,g,gw,l,p⟩:=AU s.g (s.st.jk _ i) (s.st.own _ i);refine (c a g (s.f.gw s.mo gw) l).mono ?_;rintro e w' ⟨v,z,x,u,k⟩;obtain ⟨d,y⟩:=rt (s.st.jk _ i) p (s.g.sz g) u;exact ⟨v,d,x,y,k⟩
theorem Ia (t j:Nat){f:FuncId}{args:Array Value}{Φ:Value->Prop}(s:SS w0 h0 w h B Rs F)(c:∀ hp,G w hp->AllF F hp->Seg hp (aA B j).b 0 (aA B j).vs->Calls P f args w (Ret w hp (fun v _=>Φ v)))(H:∀ v w' h',SS w0 h0 w' h' B Rs F->Φ v->LG P n N R X ops (k+1) ((t,v)::Γ) w')(d:decide (j<B.length)=true:=by kernel_rfl)(a:cL ops Γ k t n=true:=by kernel_rfl)(hr:(execOp (ev Γ) (av ops k)).run P w=.ok (.enter f args) w:=by kernel_rfl):LG P n N R X ops k Γ w :=
 lC t s (s.lends (oT d) c) H a hr
end lent
section unroll
variable {P:Program}{n:Nat}{N R:Po}{X:Nat->Po}{Γ:ck}{w:World}
def IE (P:Program)(N R:Po)(X:Nat->Po)(c:Code)(a:Act)(w:World):Prop:=∀ (b:Frame) (k:List Item) (cs:List Frame),∃ e a' w',iH N R X e a' w'/\Arrives P (lone (b.at a (.code c::.inLoop c::k)) cs w) b k cs e a' w'
def CL (P:Program)(n:Nat)(N R:Po)(X:Nat->Po)(c:Code)(Γ:ck)(w:World):Prop:=∀ a,Kn n a Γ->IE P N R X c a w
theorem cU {c:Code}(H:CL P n N R X c Γ w):CG P n N R X (.loop c) Γ w:=fun a h b k cs=>by
 obtain ⟨e,f,w',i,d⟩:=H a h b k cs;exact ⟨e,f,w',i,.of_steps (.one step_loop) d⟩
theorem cN {c:Code}(H:CG P n (IE P N R X c) R X c Γ w):CL P n N R X c Γ w:=fun a z b k cs=>by
  obtain ⟨e,i,h,o,d⟩:=H a z b (.inLoop c::k) cs;cases e with
  | normal =>
    obtain ⟨u,y,p,j,f⟩:=o b k cs;exact ⟨u,y,p,j,.of_steps (Steps.trans d (.one step_inLoop)) f⟩
  | exit id=>exact ⟨.exit id,i,h,o,.pass (x:=.inLoop c) rfl (fun _ _=>.inl (by simp)) d⟩
  | goto l=>exact o.elim
  | ret=>exact ⟨.ret,i,h,o,.pass (x:=.inLoop c) rfl (fun _ _=>.inl (by simp)) d⟩
  | panic ch=>exact o.elim
  | outgrown=>exact o.elim
theorem CL.to {c:Code}(Γ':ck)(H:CL P n N R X c Γ' w)(d:jn Γ (Γ'.map (·.1))=Γ':=by kernel_rfl)(b:iD Γ'=iD Γ:=by kernel_rfl):CL P n N R X c Γ w:=fun a e=>H a (e.to Γ' d b)
end unroll
theorem mixed:Tryz.prog.follows .mixedOrders=true:=by kernel_rfl
theorem rb {s:Result Next}{e b:Bool}{w:World}(h:s=.ok (.value (.bool e)) w)(a:e=b):s=.ok (.value (.bool b)) w:=a▸h
theorem aN {s:Result Next}{k:IntKind}{n m:Int}{w:World}(h:s=.ok (.value (.int k n)) w)(e:n=m):s=.ok (.value (.int k m)) w:=e▸h
theorem rU {s:Result Next}{m:Int}{w:World}(x:Int)(h:s=.ok (.value (.int .u64 (IntKind.wrap .u64 x))) w)(e:IntKind.wrap .u64 x=m):s=.ok (.value (.int .u64 m)) w:=aN (n:=IntKind.wrap .u64 x) h e
theorem rS {s:Result Next}{m:Int}{w:World}(x:Int)(h:s=.ok (.value (.int .i64 (IntKind.wrap .i64 x))) w)(e:IntKind.wrap .i64 x=m):s=.ok (.value (.int .i64 m)) w:=aN (n:=IntKind.wrap .i64 x) h e
theorem rT {s:Result Next}{m:Int}{w:World}(x:Int)(h:s=.ok (.value (.int .u32 (IntKind.wrap .u32 x))) w)(e:IntKind.wrap .u32 x=m):s=.ok (.value (.int .u32 m)) w:=aN (n:=IntKind.wrap .u32 x) h e
theorem xX (n:Nat):IntKind.wrap .u8 (n:Int)=((n%256:Nat):Int):=by rw[IntKind.wrap_u8];omega
theorem fV (n:Nat):IntKind.wrap .u32 (n:Int)=((n%4294967296:Nat):Int):=by rw[IntKind.wrap_u32];omega
theorem wO (n:Nat):IntKind.wrap .u64 (n:Int)=((n%18446744073709551616:Nat):Int):=by rw[IntKind.wrap_u64];omega
theorem G4 {n:Int}(h0:0<=n)(h:n<256):IntKind.wrap .u8 n=n:=by rw[IntKind.wrap_u8];omega
theorem ns {n:Int}(h0:0<=n)(h:n<4294967296):IntKind.wrap .u32 n=n:=by rw[IntKind.wrap_u32];omega
theorem az {n:Int}(h0:0<=n)(h:n<18446744073709551616):IntKind.wrap .u64 n=n:=by rw[IntKind.wrap_u64];omega
theorem jV {n:Int}(h0 : -9223372036854775808<=n)(h:n<9223372036854775808):IntKind.wrap .i64 n=n:=by rw[IntKind.wrap_i64];omega
theorem Dm {n:Nat}(h:n<4294967296):IntKind.wrap .u32 (n:Int)=(n:Int):=by rw[IntKind.wrap_u32];omega
theorem GP {n:Nat}(h:n<18446744073709551616):IntKind.wrap .u64 (n:Int)=(n:Int):=by rw[IntKind.wrap_u64];omega
theorem Gp {n:Nat}(h:n<9223372036854775808):IntKind.wrap .i64 (n:Int)=(n:Int):=by rw[IntKind.wrap_i64];omega
theorem dH (a b:Nat):Int.fdiv (a:Int) (b:Int)=((a/b:Nat):Int):=by rw[y4 _ oM];simp
theorem nC (a b:Nat):y5 (a:Int) (b:Int)=((a/b:Nat):Int):=rfl
theorem cM (a b:Nat):Int.tmod (a:Int) (b:Int)=((a%b:Nat):Int):=rfl
theorem uP (a b:Nat)(h:a<4294967296):IntKind.wrap .u32 (y5 (a:Int) (b:Int))=((a/b:Nat):Int):=by rw[nC];exact Dm (y6 (y7 _ _) h)
theorem jT (a b:Nat)(h:a<18446744073709551616):IntKind.wrap .u64 (y5 (a:Int) (b:Int))=((a/b:Nat):Int):=by rw[nC];exact GP (y6 (y7 _ _) h)
theorem dh (a b:Nat)(h:a<9223372036854775808):IntKind.wrap .i64 (y5 (a:Int) (b:Int))=((a/b:Nat):Int):=by rw[nC];exact Gp (y6 (y7 _ _) h)
section div
variable {P:Program}{Γ:ck}{o:Oper}
theorem cZ {t u:TypeId}{x y:Operand}{k:IntKind}{a b:Int}(c:o.op=.binOp .quo t x y u)(e:ev Γ x=.int k a)(d:ev Γ y=.int k b)(f:b≠0)(w:World) :
  (execOp (ev Γ) o).run P w=.ok (.value (.int k (k.wrap (a.tdiv b)))) w:=by
 unfold execOp;simp only[c];rw[e,d]
 simp[binOp,eqGuard,Op.intDiv,f,Result.andThen]
theorem dV {t u:TypeId}{x y:Operand}{k:IntKind}{a b:Int}(c:o.op=.binOp .rem t x y u)(e:ev Γ x=.int k a)(d:ev Γ y=.int k b)(f:b≠0)(w:World) :
  (execOp (ev Γ) o).run P w=.ok (.value (.int k (a.tmod b))) w:=by
 unfold execOp;simp only[c];rw[e,d]
 simp[binOp,eqGuard,Op.intDiv,f,Result.andThen]
theorem Gy {t u:TypeId}{x y:Operand}{k ky:IntKind}{a:Int}{n:Nat}(c:o.op=.binOp .shl t x y u)(e:ev Γ x=.int k a)(d:ev Γ y=.int ky (n:Int))(f:n<=k.bits)(w:World) :
  (execOp (ev Γ) o).run P w=.ok (.value (.int k (k.wrap (a*2^n)))) w:=by
 unfold execOp;simp only[c];rw[e,d]
 have b:min n k.bits=n:=by omega
 have hz:¬((n:Int)<0):=by omega
 simp[binOp,eqGuard,Op.shift,Result.andThen,b,hz]
theorem gl {t u:TypeId}{x y:Operand}{a b:Nat}(c:o.op=.binOp .or t x y u)(f:ev Γ x=.int .u64 (a:Int))(d:ev Γ y=.int .u64 (b:Int))(ha:a<18446744073709551616)(h:b<18446744073709551616)(w:World) :
  (execOp (ev Γ) o).run P w=.ok (.value (.int .u64 ((a ||| b:Nat):Int))) w:=by
 unfold execOp;simp only[c];rw[f,d]
 have e:bits .or .u64 (a:Int) (b:Int)=((a ||| b:Nat):Int):=by
  unfold bits
  have h1:(BitVec.ofInt 64 (a:Int) ||| BitVec.ofInt 64 (b:Int)).toNat=a ||| b:=by
   rw[BitVec.toNat_or]
   congr 1<;>(simp[BitVec.toNat_ofInt];omega)
  show IntKind.wrap .u64 (((BitVec.ofInt 64 (a:Int) ||| BitVec.ofInt 64 (b:Int)).toNat:Nat):Int)=_
  rw[h1];have:=y8 (n:=64) ha h;exact az oM oM
 simp[binOp,eqGuard,Result.andThen,intBits_or,e]
theorem Fi {t u:TypeId}{x y:Operand}{a b:Nat}(c:o.op=.binOp .or t x y u)(f:ev Γ x=.int .u32 (a:Int))(d:ev Γ y=.int .u32 (b:Int))(ha:a<4294967296)(h:b<4294967296)(w:World) :
  (execOp (ev Γ) o).run P w=.ok (.value (.int .u32 ((a ||| b:Nat):Int))) w:=by
 unfold execOp;simp only[c];rw[f,d]
 have e:bits .or .u32 (a:Int) (b:Int)=((a ||| b:Nat):Int):=by
  unfold bits
  have h1:(BitVec.ofInt 32 (a:Int) ||| BitVec.ofInt 32 (b:Int)).toNat=a ||| b:=by
   rw[BitVec.toNat_or]
   congr 1<;>(simp[BitVec.toNat_ofInt];omega)
  show IntKind.wrap .u32 (((BitVec.ofInt 32 (a:Int) ||| BitVec.ofInt 32 (b:Int)).toNat:Nat):Int)=_
  rw[h1];have:=y8 (n:=32) ha h;exact ns oM oM
 simp[binOp,eqGuard,Result.andThen,intBits_or,e]
end div
def lo (n:Nat):Int:=((n%18446744073709551616:Nat):Int)
def wb:Nat->Nat->List UInt8
  | 0,_=>[]
  | f+1,m=>if m=0 then [] else (i0 8).map (fun k=>UInt8.ofNat (m/256^k))++wb f (m/18446744073709551616)
def hi (n:Nat):ByteArray:=⟨(wb n (n/18446744073709551616)).toArray⟩
abbrev uX (r k:Rat)(s b t:Int)(d:Nat):Value:=.agg #[.bool (au r.num),uV (lo (ab r.num)),.string (hi (ab r.num)),uV (lo (qd r)),.string (hi (qd r)),.bool (au k.num),uV (lo (ab k.num)),.string (hi (ab k.num)),uV (lo (qd k)),.string (hi (qd k)),iV s,iV b,iV t,mV d]
abbrev uC (r k:Rat)(s b t:Int)(d:Nat):List Value:=[.bool (au r.num),uV (lo (ab r.num)),.string (hi (ab r.num)),uV (lo (qd r)),.string (hi (qd r)),.bool (au k.num),uV (lo (ab k.num)),.string (hi (ab k.num)),uV (lo (qd k)),.string (hi (qd k)),iV s,iV b,iV t,mV d]
abbrev qX (q:Rat):Value:=.agg #[.bool (au q.num),uV (lo (ab q.num)),.string (hi (ab q.num)),uV (lo (qd q)),.string (hi (qd q))]
abbrev qC (q:Rat):List Value:=[.bool (au q.num),uV (lo (ab q.num)),.string (hi (ab q.num)),uV (lo (qd q)),.string (hi (qd q))]
abbrev qY (q:Rat)(A:Z9)(m c:Nat):Value:=.agg #[.bool (au q.num),uV (lo (ab q.num)),.string (hi (ab q.num)),uV (lo (qd q)),.string (hi (qd q)),.slice A m c]
abbrev qZ (q:Rat)(A:Z9)(m c:Nat):List Value:=[.bool (au q.num),uV (lo (ab q.num)),.string (hi (ab q.num)),uV (lo (qd q)),.string (hi (qd q)),.slice A m c]
abbrev wX (b:Value)(m:Nat):Value:=.agg #[b,uV (lo m),.string (hi m)]
abbrev wC (b:Value)(m:Nat):List Value:=[b,uV (lo m),.string (hi m)]
def nc (n:Nat):List Value:=[.int .u64 (lo n),.string (hi n)]
def nv (n:Nat):Value:=.agg #[.int .u64 (lo n),.string (hi n)]
def ic (z:Int):List Value:=[.bool (au z),.int .u64 (lo (ab z)),.string (hi (ab z))]
def iv (z:Int):Value:=.agg #[.bool (au z),.int .u64 (lo (ab z)),.string (hi (ab z))]
def qc (q:Rat):List Value:=[.bool (au q.num),.int .u64 (lo (ab q.num)),.string (hi (ab q.num)),.int .u64 (lo (qd q)),.string (hi (qd q))]
abbrev Sq (A:Z9)(l:List Rat):Hp->Prop:=fun h_=>SlO 5 qc 0 h_ A l
def qv (q:Rat):Value:=.agg #[.bool (au q.num),.int .u64 (lo (ab q.num)),.string (hi (ab q.num)),.int .u64 (lo (qd q)),.string (hi (qd q))]
theorem gQ {n:Nat}(h:n<18446744073709551616):lo n=(n:Int):=by unfold lo;rw[tv h]
theorem ma {n:Nat}(h:n<18446744073709551616):hi n=⟨#[]⟩:=by
 unfold hi;rw[y9 h];cases n<;>rfl
def dR:List Nat->Nat
  | []=>0
  | x::l=>x+4294967296*dR l
def pz:Nat->Nat->List Nat
  | 0,_=>[]
  | f+1,n=>if n=0 then [] else n%4294967296::pz f (n/4294967296)
def lim (n:Nat):List Nat:=pz n n
abbrev gA (q:Rat)(A:Z9)(c:Nat)(D:Z9)(d:Nat):List Value:=[.bool (au q.num),.slice A (lim (ab q.num)).length c,.slice D (lim q.den).length d]
abbrev rG (q:Rat)(A:Z9)(c:Nat)(D:Z9)(d:Nat):Value:=.agg #[.bool (au q.num),.slice A (lim (ab q.num)).length c,.slice D (lim q.den).length d]
theorem rO:∀ (f g n:Nat),n<=f->n<=g->pz f n=pz g n
  | 0,g,n,hf,hg=>by
    have:n=0:=by omega
    subst this;cases g<;>rfl
  | f+1,0,n,hf,hg=>by
    have:n=0:=by omega
    subst this
    rfl
  | f+1,g+1,n,hf,hg=>by
    unfold pz
    split
    . rfl
    . rw[rO f g (n/4294967296) oM oM]
theorem fZ:lim 0=[]:=rfl
theorem ec {n:Nat}(h:0<n):lim n=n%4294967296::lim (n/4294967296):=by
 unfold lim
 obtain ⟨m,rfl⟩:∃ m,n=m+1:=⟨n-1,by omega⟩;rw[pz,if_neg oM];rw[rO m _ _ oM (eb _)]
theorem Cj {n:Nat}(h0:0<n)(h:n<4294967296):lim n=[n]:=by
 rw[ec h0,tv h,y9 h,fZ]
theorem gJ (n:Nat):dR (lim n)=n:=by
  induction n using g2 with
  | _ n ih =>
    rcases va n with h|h
    . subst h;rfl
    . rw[ec h,dR,ih (n/4294967296) oM]
      omega
theorem qx (n:Nat):∀ x∈lim n,x<4294967296:=by
  induction n using g2 with
  | _ n ih =>
    rcases va n with h|h
    . subst h;intro x a;cases a
    . rw[ec h]
      intro x a
      rcases gq.1 a with rfl|a
      . omega
      . exact ih _ oM x a
theorem bI {n:Nat}:0<(lim n).length↔0<n:=by
 rcases va n with h|h
 ·subst h;simp[fZ]
 ·rw[ec h];simp[h]
theorem q7 {n:Nat}:lim n=[]↔n=0:=by
 constructor
 ·intro h;rcases va n with h0|h0;exact h0;rw[ec h0] at h;cases h
 ·rintro rfl;rfl
theorem du {n k:Nat}(h:n<4294967296^k):(lim n).length<=k:=by
  induction k generalizing n with
  | zero => have:n=0:=by simpa using h
            subst this;simp[fZ]
  | succ k ih =>
    rcases va n with h0|h0
    . subst h0;simp[fZ]
    . rw[ec h0]
      have:n/4294967296<4294967296^k:=zh (by rw[zy,zz] at h;exact h);have:=ih this
      simp
      omega
def tl (l:List Nat):Nat->Nat
  | 0=>0
  | n+1=>if l.getD n 0=0 then tl l n else n+1
theorem fY (l:List Nat):∀ n,tl l n<=n
 | 0=>eb _
 | n+1=>by unfold tl;split;exact Nat.le_succ_of_le (fY l n);exact eb _
theorem mI {l:List Nat}{n:Nat}(h:n=0\/l.getD (n-1) 0≠0):tl l n=n:=by
 cases n with
 | zero=>rfl
 | succ n=>unfold tl;rw[if_neg];rcases h with h|h;omega;exact h
theorem oJ (a b:List Nat):dR (a++b)=dR a+4294967296^a.length*dR b:=by
  induction a with
  | nil=>simp[dR]
  | cons x a ih =>
    simp only[zF,dR,ih,List.length_cons,zy,zT]
    rw[<-zY,zz (4294967296^a.length) 4294967296]
    omega
theorem sQ {l:List Nat}(h:∀ x∈l,x<4294967296):dR l<4294967296^l.length:=by
  induction l with
  | nil=>simp[dR]
  | cons x l ih =>
    have h1:=h x (by simp);have b:=ih (fun y a=>h y (by simp[a]))
    simp only[dR,List.length_cons,zy]
    omega
theorem iz (x:Nat)(l:List Nat):∀ n,tl l n=0->tl (x::l) (n+1)=if x=0 then 0 else 1
  | 0,_=>by simp[tl]
  | n + 1,h=>by
    unfold tl at h
    split at h
    . rename_i h0
      show tl (x::l) (n+2)=_
      unfold tl
      rw[if_pos (by simpa using h0)];exact iz x l n h
    . omega
theorem kB (l:List Nat)(n:Nat):tl l (n+1)=if l.getD n 0=0 then tl l n else n+1:=rfl
theorem kc (x:Nat)(l:List Nat):∀ n,0<tl l n->tl (x::l) (n+1)=tl l n+1
  | 0,h=>by simp[tl] at h
  | n + 1,h=>by
    rw[kB l n] at h ⊢
    rw[kB (x::l) (n+1),sc]
    by_cases h0:l.getD n 0=0
    . rw[if_pos h0] at h ⊢
      rw[if_pos h0];exact kc x l n h
    . rw[if_neg h0,if_neg h0]
theorem nA (l:List Nat):dR l=0->tl l l.length=0:=by
  intro h
  have key:∀ n,n<=l.length->tl l n=0:=by
    have hz:∀ k,l.getD k 0=0:=by
      induction l with
      | nil=>intro k;simp
      | cons x l ih =>
        simp only[dR] at h
        intro k;cases k with
        | zero=>simp;omega
        | succ k=>simpa using ih oM k
    intro n
    induction n with
    | zero=>intro _;rfl
    | succ n ih=>intro a;unfold tl;rw[if_pos (hz n)];exact ih oM
  exact key _ (eb _)
theorem wG {l:List Nat}(h:∀ x∈l,x<4294967296):lim (dR l)=l.take (tl l l.length):=by
  induction l with
  | nil=>rfl
  | cons x l ih =>
    have h1:=h x (by simp);have a:=ih (fun y e=>h y (by simp[e]))
    rcases va (dR (x::l)) with h0|h0
    . rw[h0,fZ,nA _ h0];rfl
    . rw[ec h0]
      have c:dR (x::l)%4294967296=x:=by simp only[dR];omega
      have d:dR (x::l)/4294967296=dR l:=by simp only[dR];omega
      rw[c,d,a]
      rcases va (tl l l.length) with ht|ht
      . have b:x≠0:=by
          intro b;have:lim (dR l)=[]:=by rw[a,ht];rfl
          have:=q7.1 this
          simp only[dR] at h0
          omega
        rw[List.length_cons,iz x l _ ht,if_neg b,ht];rfl
      . rw[List.length_cons,kc x l _ ht];rfl
theorem kK (n:Nat)(h:0<n):(lim n).getD ((lim n).length-1) 0≠0:=by
  induction n using g2 with
  | _ n ih =>
    rw[ec h]
    rcases va (n/4294967296) with h0|h0
    . rw[h0,fZ];simp;omega
    . have:=ih (n/4294967296) oM h0
      have a:=bI.2 h0;rw[List.length_cons,show (lim (n/4294967296)).length+1-1=((lim (n/4294967296)).length-1)+1 by omega,sc];exact this
theorem lZ {l:List Nat}{k:Nat}(h:k<l.length):dR (l.take (k+1))=dR (l.take k)+4294967296^k*l.getD k 0:=by
 have e:l.take (k+1)=l.take k++[l.getD k 0]:=by
  rw[zZ];simp[h]
 rw[e,oJ,z1,z2 oM]
 show dR (l.take k)+4294967296^k*(l.getD k 0+4294967296*0)=_
 rw[z6,ri]
def nb (n:Nat):Nat:=if n=0 then 0 else Nat.log2 n+1
theorem BA:nb 0=0:=rfl
theorem cl {n:Nat}(h:0<n):2^(nb n-1)<=n/\n<2^nb n/\0<nb n:=by
 unfold nb
 rw[if_neg oM];have:=(z7 (n:=n) (k:=n.log2) oM).1 rfl;exact ⟨this.1,this.2,by omega⟩
theorem jI {n k:Nat}(h1:2^k<=n)(a:n<2^(k+1)):nb n=k+1:=by
 have b:0<2^k:=z8 k
 unfold nb
 rw[if_neg oM,(z7 oM).2 ⟨h1,a⟩]
theorem Dn (n:Nat):n<2^nb n:=by
 rcases va n with h|h
 ·subst h;simp[nb]
 ·exact (cl h).2.1
theorem jg {n k:Nat}(h:n<2^k):nb n<=k:=by
 rcases va n with h0|h0
 ·subst h0;simp[nb]
 ·have:=cl h0
  rcases co k (nb n) with hl|hl
  ·have:2^k<=2^(nb n-1):=Aa oM oM
   omega
  ·exact hl
theorem CH {n:Nat}(h:0<n):nb n=nb (n/2)+1:=by
 rcases co n 2 with h2|h2
 ·have:n=1:=by omega
  subst this;decide
 ·obtain ⟨a,c,b⟩:=cl (n:=n/2) oM
  apply jI
  ·have:2^nb (n/2)=2*2^(nb (n/2)-1):=by rw[<-Ab,show (nb (n/2)-1).succ=nb (n/2) by omega]
   omega
  ·rw[zy];omega
theorem x7 {lo tK k:Nat}(b:lo<2^k)(d:0<tK):nb (lo+2^k*tK)=k+nb tK:=by
 obtain ⟨a,c,e⟩:=cl d;rw[show k+nb tK=(k+(nb tK-1))+1 by omega]
 apply jI
 ·rw[Am]
  have:=Ao (2^k) a
  omega
 ·rw[show k+(nb tK-1)+1=k+nb tK by omega,Am]
  have:=Ao (2^k) (show tK+1<=2^nb tK from c);rw[Nat.mul_succ] at this
  omega
theorem ww {a:Nat}(h:0<a):nb a=32*((lim a).length-1)+nb ((lim a).getD ((lim a).length-1) 0):=by
 have i:=bI.2 h;have e:=lZ (l:=lim a) (k:=(lim a).length-1) oM;rw[show (lim a).length-1+1=(lim a).length by omega,r9,gJ] at e
 have b:=sQ (l:=(lim a).take ((lim a).length-1)) (fun x d=>qx a x (Az d));rw[z1,z2 oM] at b
 have c:(4294967296:Nat)^((lim a).length-1)=2^(32*((lim a).length-1)):=by rw[A4]
 rw[c] at e b
 have f:=kK a h;have:=x7 b (Nat.pos_of_ne_zero f);rw[<-e] at this
 exact this
def fx (n:Nat):Nat->List Nat
  | 0=>[]
  | m+1=>n/256^m%256::fx n m
theorem jb (n m:Nat):(fx n m).length=m:=by induction m with|zero=>rfl|succ m ih=>simp[fx,ih]
theorem it (n:Nat):∀ (m k:Nat),k<m->(fx n m).getD k 0=n/256^(m-1-k)%256
  | 0,k,h=>by omega
  | m+1,0,h=>by simp[fx]
  | m+1,k+1,h=>by
    rw[fx,sc,it n m k oM]
    congr 3
    omega
theorem j9 (n m k:Nat):(fx n m).getD k 0<256:=by
 rcases co k m with h|h
 ·rw[it n m k h];exact ua _ oM
 ·simp[o1 (show (fx n m).length<=k by rw[jb];exact h)]
theorem xU (n i:Nat):n%256^(i+1)=n%256^i+256^i*(n/256^i%256):=by
 rw[zy,Nat.mod_mul]
theorem Fd (a:Nat):nb a<=32*(lim a).length:=by
 apply jg
 have:=sQ (qx a);rw[gJ] at this
 rw[A4];exact this
theorem iS {l:List Nat}{m k x:Nat}{f:Nat->Nat}(c:l.length=m)(h:k<m)(hv:∀ j,j<k->l.getD (m-1-j) 0=f j)(b:x=f k:=by rfl):∀ j,j<k+1->(l.set (m-1-k) x).getD (m-1-j) 0=f j:=by
 intro j d
 by_cases e:j=k
 ·subst e
  have:m-1-j<l.length:=by omega
  simp[this,b]
 ·have a:m-1-k≠m-1-j:=by omega
  have:=hv j oM
  simp only[A6] at this ⊢
  rw[pr a];exact this
theorem vB {l:List Nat}{n m:Nat}(b:l.length=m)(hv:∀ j,j<m->l.getD (m-1-j) 0=n/256^j%256):l=fx n m:=by
 apply List.ext_getElem
 ·rw[jb,b]
 ·intro i h1 a
  have c:=it n m i oM;have:=hv (m-1-i) oM;rw[show m-1-(m-1-i)=i by omega,<-c] at this
  simpa [h1,a] using this
def eL (n k j:Nat):Nat:=n/256^k*256^k/4294967296^j%4294967296
theorem tm (n j:Nat):eL n 0 j=n/4294967296^j%4294967296:=by unfold eL;simp
theorem ve {n k:Nat}(h:n<256^k)(j:Nat):eL n k j=0:=by unfold eL;rw[y9 h];simp
theorem nH (n k j:Nat):eL n k j<4294967296:=ua _ oM
theorem ux (k:Nat):(256:Nat)^k=4294967296^(k/4)*2^(8*(k%4)):=by
 have:k=4*(k/4)+k%4:=by omega
 conv=>lhs;rw[this,Am,A4]
 rw[A4 2 8]
theorem su (y q j:Nat):y*4294967296^q/4294967296^j%4294967296=if j<q then 0 else y/4294967296^(j-q)%4294967296:=by
 split
 ·rename_i h
  have e:(4294967296:Nat)^q=4294967296^j*(4294967296^(q-j-1)*4294967296):=by
   rw[<-zy,<-Am];congr 1;omega
  rw[e,<-zY,zz y,zY,Nat.mul_div_cancel_left _ (A8 oM),<-zY];exact A9 _ _
 ·rename_i h
  have e:(4294967296:Nat)^j=4294967296^q*4294967296^(j-q):=by rw[<-Am];congr 1;omega
  rw[e,<-Bs,Nat.mul_div_cancel _ (A8 oM)]
theorem Bb (x b:Nat)(a:b<256):∀ r,r<4->(256*x+b)*2^(8*r)%4294967296=256*x*2^(8*r)%4294967296+b*2^(8*r)/\(256*x+b)*2^(8*r)/4294967296=256*x*2^(8*r)/4294967296/\256*x*2^(8*r)%4294967296%2^(8*r+8)=0/\b*2^(8*r)<4294967296:=by
 intro r hr;have:r=0\/r=1\/r=2\/r=3:=by omega
 rcases this with rfl|rfl|rfl|rfl<;>omega
theorem mQ (n k j:Nat):eL n k j=if j=k/4 then eL n (k+1) j ||| (n/256^k%256)*2^(8*(k%4)) else eL n (k+1) j:=by
  have u:n/256^k=256*(n/256^(k+1))+n/256^k%256:=by
    rw[zy,<-Bs];omega
  have i:n/256^k%256<256:=ua _ oM;have h:=ux k;have e:(256:Nat)^(k+1)=4294967296^(k/4)*2^(8*(k%4))*256:=by rw[zy,h]
  obtain ⟨p,l2,l3,z⟩:=Bb (n/256^(k+1)) _ i (k%4) oM
  unfold eL
  generalize n/256^(k+1)=x at *
  generalize hb2:n/256^k%256=b at *
  rw[u,h,e];have l:(256*x+b)*(4294967296^(k/4)*2^(8*(k%4)))=(256*x+b)*2^(8*(k%4))*4294967296^(k/4):=by ac_rfl
  have o:x*(4294967296^(k/4)*2^(8*(k%4))*256)=256*x*2^(8*(k%4))*4294967296^(k/4):=by ac_rfl
  rw[l,o,su,su]
  by_cases h1:j<k/4
  . rw[if_pos h1,if_pos h1,if_neg oM]
  . rw[if_neg h1,if_neg h1]
    by_cases h2:j=k/4
    . rw[if_pos h2,h2,o2,Nat.pow_zero,Nat.div_one,Nat.div_one,p]
      obtain ⟨c,hc⟩:∃ c,256*x*2^(8*(k%4))%4294967296=2^(8*(k%4)+8)*c:=⟨_,(Nat.mul_div_cancel' (Nat.dvd_of_mod_eq_zero l3)).symm⟩;rw[hc]
      have a:b*2^(8*(k%4))<2^(8*(k%4)+8):=by
        rw[Am,zz];exact F2 i (z8 _)
      exact Nat.two_pow_add_eq_or_of_lt a c
    . rw[if_neg h2]
      obtain ⟨d,hd⟩:∃ d,j-k/4=d+1:=⟨j-k/4-1,by omega⟩;have f:∀ y:Nat,y/4294967296^(d+1)=y/4294967296/4294967296^d:=fun y=>by rw[Ab,Bs]
      rw[hd,f,f,l2]
theorem gZ:∀ (l:List Nat) (n:Nat),(∀ j,j<l.length->l.getD j 0=n/4294967296^j%4294967296)->n<4294967296^l.length->dR l=n
  | [],n,_,h=>by simp at h;simp[dR,h]
  | x :: l,n,hd,h=>by
    have h0:=hd 0 (by simp)
    simp at h0
    have a:=gZ l (n/4294967296) (fun j b=>by
      have:=hd (j+1) (by simpa using b);rw[sc,Ab,<-Bs] at this
      exact this) (zh (by rw[List.length_cons,Ab] at h;exact h))
    rw[dR,a,h0]
    omega
def am (b:Nat):List Nat->Nat
  | []=>0
  | x::l=>x+b*am b l
def Dg (b:Nat)(l:List Nat):Prop:=∀ x∈l,x<b
theorem jF (l:List Nat):dR l=am 4294967296 l:=by
 induction l with
 | nil=>rfl
 | cons x l ih=>simp only[dR,am,ih]
theorem Dg.nil {b:Nat}:Dg b []:=fun _ h=>by cases h
theorem Dg.getD {b:Nat}{l:List Nat}(h:Dg b l)(a:0<b)(k:Nat):l.getD k 0<b:=by
 rcases co k l.length with hk|hk
 ·have:=h (l[k]) (e5 hk);simpa [hk] using this
 ·simpa [o1 hk] using a
theorem Dg.set {b:Nat}{l:List Nat}(h:Dg b l)(k:Nat){x:Nat}(c:x<b):Dg b (l.set k x):=fun y a=>by
 rcases List.mem_or_eq_of_mem_set a with h1|h1
 ·exact h y h1
 ·rw[h1];exact c
theorem Dg.take {b:Nat}{l:List Nat}(h:Dg b l)(k:Nat):Dg b (l.take k):=fun x a=>h x (Az a)
theorem Dg.drop {b:Nat}{l:List Nat}(h:Dg b l)(k:Nat):Dg b (l.drop k):=fun x a=>h x (s6 a)
theorem Dg.append {b:Nat}{l m:List Nat}(h:Dg b l)(k:Dg b m):Dg b (l++m):=fun x a=>by
 rcases fo.1 a with h1|h1
 ·exact h x h1
 ·exact k x h1
theorem Dg.one {b x:Nat}(h:x<b):Dg b [x]:=fun y a=>by rw[n1.1 a];exact h
theorem Dg.cons {b x:Nat}{l:List Nat}(h:x<b)(k:Dg b l):Dg b (x::l):=fun y a=>by
 rcases gq.1 a with rfl|h1
 ·exact h
 ·exact k y h1
theorem Dg.rep {b n:Nat}(c:0<b):Dg b (ta n 0):=fun y a=>by rw[(List.mem_replicate.1 a).2];exact c
theorem cC (b:Nat)(x y:List Nat):am b (x++y)=am b x+b^x.length*am b y:=by
  induction x with
  | nil=>simp[am]
  | cons a x ih =>
    simp only[zF,am,ih,List.length_cons,zy,zT]
    rw[<-zY,zz (b^x.length) b]
    omega
theorem bV {b:Nat}{l:List Nat}(h:Dg b l):am b l<b^l.length:=by
  induction l with
  | nil=>simp[am]
  | cons x l ih =>
    have h1:=h x (by simp);have c:=ih (fun y d=>h y (by simp[d]))
    simp only[am,List.length_cons,zy]
    have a:b*(am b l+1)<=b*b^l.length:=Ao _ c;rw[zT,HA,zz b (b^l.length)] at a
    omega
theorem bX (b:Nat){l:List Nat}{k:Nat}(h:k<=l.length):am b l=am b (l.take k)+b^k*am b (l.drop k):=by
 have e:=cC b (l.take k) (l.drop k);rw[List.take_append_drop,z1,z2 h] at e
 exact e
theorem gK {l:List Nat}{k:Nat}(h:k<l.length):l.take (k+1)=l.take k++[l.getD k 0]:=by
 rw[zZ];simp[h]
theorem aJ (b:Nat){l:List Nat}{k:Nat}(h:k<l.length):am b (l.take (k+1))=am b (l.take k)+b^k*l.getD k 0:=by
 rw[gK h,cC,z1,z2 oM]
 show am b (l.take k)+b^k*(l.getD k 0+b*0)=_
 rw[z6,ri]
theorem e7 (b:Nat){l:List Nat}{k:Nat}(h:k<l.length):am b (l.drop k)=l.getD k 0+b*am b (l.drop (k+1)):=by
 rw[List.drop_eq_getElem_cons h]
 simp[am,h]
theorem ct (b:Nat){l:List Nat}{k:Nat}(x:Nat)(h:k<l.length):am b (l.set k x)+b^k*l.getD k 0=am b l+b^k*x:=by
  induction l generalizing k with
  | nil=>simp at h
  | cons y l ih =>
    cases k with
    | zero=>simp[am];omega
    | succ k =>
      have:=ih (k:=k) (by simpa using h);rw[s3,sc,am,am,zy,zz (b^k) b,zY,zY];have e:b*(am b (l.set k x)+b^k*l.getD k 0)=b*(am b l+b^k*x):=by rw[this]
      rw[zT,zT] at e
      omega
theorem di (b n:Nat):am b (ta n 0)=0:=by
 induction n with
 | zero=>rfl
 | succ n ih=>simp[tu,am,ih]
theorem m0 {b:Nat}(c:0<b){l:List Nat}(h:am b l=0)(k:Nat):l.getD k 0=0:=by
  induction l generalizing k with
  | nil=>simp
  | cons x l ih =>
    simp only[am] at h
    have h1:b*am b l=0:=by omega
    have a:am b l=0:=by
      rcases Nat.mul_eq_zero.1 h1 with a|a
      . omega
      . exact a
    cases k with
    | zero=>simp;omega
    | succ k=>simpa using ih a k
theorem gn (b:Nat){l:List Nat}(h:∀ k,l.getD k 0=0):am b l=0:=by
  induction l with
  | nil=>rfl
  | cons x l ih =>
    have h0:=h 0
    simp at h0
    rw[am,ih (fun k=>by have:=h (k+1);simpa using this),h0];simp
theorem iI {l:List Nat}{k n:Nat}(h:k<n):(l.take n).getD k 0=l.getD k 0:=by
 simp only[A6,List.getElem?_take,if_pos h]
theorem bJ {l:List Nat}{k n:Nat}:(l.drop n).getD k 0=l.getD (n+k) 0:=by
 simp only[A6,p2]
theorem bC {l:List Nat}{k j x:Nat}(h:k<l.length):(l.set k x).getD j 0=if k=j then x else l.getD j 0:=by
 simp only[A6,List.getElem?_set,h,if_true]
 split<;>simp
theorem dG {n k:Nat}:(ta n 0).getD k 0=0:=by
 simp only[A6,List.getElem?_replicate]
 split<;>rfl
theorem cP {l:List Nat}{k:Nat}(h:l.length<=k):l.getD k 0=0:=by simp[o1 h]
theorem iR (b:Nat)(l:List Nat):∀ n,n<=l.length->am b (l.take (tl l n))=am b (l.take n)
  | 0,_=>rfl
  | n + 1,h=>by
    unfold tl
    split
    . rename_i h0
      rw[aJ b oM,h0,iR b l n oM];simp
    . rfl
theorem sE {l:List Nat}:∀ n,tl l n=0\/l.getD (tl l n-1) 0≠0
  | 0=>.inl rfl
  | n+1=>by
    unfold tl
    split
    . exact sE n
    . rename_i h;exact .inr h
def pA (b:Nat):Nat->Nat->List Nat
  | 0,_=>[]
  | f+1,n=>if n=0 then [] else n%b::pA b f (n/b)
def f5 (b n:Nat):List Nat:=pA b n n
theorem sN {b:Nat}(a:2<=b):∀ (f g n:Nat),n<=f->n<=g->pA b f n=pA b g n
  | 0,g,n,hf,hg=>by
    have:n=0:=by omega
    subst this;cases g<;>rfl
  | f+1,0,n,hf,hg=>by
    have:n=0:=by omega
    subst this
    rfl
  | f + 1,g+1,n,hf,hg=>by
    unfold pA
    split
    . rfl
    . rename_i h0
      have:=H1 (n:=n) (k:=b) oM oM;rw[sN a f g (n/b) oM oM]
theorem jt (b:Nat):f5 b 0=[]:=rfl
theorem d5 {b n:Nat}(a:2<=b)(h:0<n):f5 b n=n%b::f5 b (n/b):=by
 unfold f5
 obtain ⟨m,rfl⟩:∃ m,n=m+1:=⟨n-1,by omega⟩;have:=H1 (n:=m+1) (k:=b) oM oM;rw[pA,if_neg oM];rw[sN a m _ _ oM (eb _)]
theorem iy {b:Nat}(a:2<=b)(n:Nat):am b (f5 b n)=n:=by
  induction n using g2 with
  | _ n ih =>
    rcases va n with h|h
    . subst h;rfl
    . rw[d5 a h,am,ih (n/b) (H1 h oM)]
      exact Nat.mod_add_div n b
theorem xC {b:Nat}(a:2<=b)(n:Nat):Dg b (f5 b n):=by
  induction n using g2 with
  | _ n ih =>
    rcases va n with h|h
    . subst h;exact Dg.nil
    . rw[d5 a h]
      exact Dg.cons (ua _ oM) (ih _ (H1 h oM))
theorem nj {b n:Nat}(a:2<=b):0<(f5 b n).length↔0<n:=by
 rcases va n with h|h
 ·subst h;simp[jt]
 ·rw[d5 a h];simp[h]
theorem qI {b:Nat}(k:2<=b){l:List Nat}(d:Dg b l)(a:l=[]\/l.getD (l.length-1) 0≠0):f5 b (am b l)=l:=by
  induction l with
  | nil=>rfl
  | cons x l ih =>
    have e:=d x (by simp);have f:(x+b*am b l)%b=x:=by rw[Nat.add_mul_mod_self_left,tv e]
    have h:(x+b*am b l)/b=am b l:=by rw[I5 _ _ oM,y9 e,s4]
    have c:l=[]\/l.getD (l.length-1) 0≠0:=by
      rcases List.eq_nil_or_concat l with h0|⟨m,y,rfl⟩
      . exact .inl h0
      . right
        rcases a with a|a
        . cases a
        . rw[show (x::m.concat y).length-1=((m.concat y).length-1)+1 by simp,sc] at a
          exact a
    have i:0<am b (x::l):=by
      rcases va (am b (x::l)) with h0|h0
      . rcases a with a|a
        . cases a
        . exact absurd (m0 oM h0 _) a
      . exact h0
    rw[d5 k i]
    simp only[am]
    rw[f,h,ih (fun y j=>d y (by simp[j])) c]
theorem FC {b:Nat}(d:2<=b){l:List Nat}(c:Dg b l):f5 b (am b l)=l.take (tl l l.length):=by
 have e:=iR b l l.length (eb _);rw[r9] at e
 have a:=fY l l.length
 have:=qI d (c.take (tl l l.length)) (by
  by_cases h0:tl l l.length=0
  ·left;rw[h0];rfl
  ·right
   rw[z1,z2 a,iI oM]
   rcases sE (l:=l) l.length with h|h
   ·exact absurd h h0
   ·exact h)
 rw[e] at this
 exact this
theorem kP {b:Nat}(a:2<=b)(n:Nat)(h:0<n):(f5 b n).getD ((f5 b n).length-1) 0≠0:=by
  induction n using g2 with
  | _ n ih =>
    rw[d5 a h]
    rcases va (n/b) with h0|h0
    . rw[h0,jt]
      have:n<b:=by
        rcases co n b with h1|h1
        . exact h1
        . have:=Nat.div_pos h1 oM;omega
      simp[tv this];omega
    . have:=ih (n/b) (H1 h oM) h0
      have c:=(nj a).2 h0;rw[List.length_cons,show (f5 b (n/b)).length+1-1=((f5 b (n/b)).length-1)+1 by omega,sc];exact this
theorem gx {b n k:Nat}(a:2<=b)(h:n<b^k):(f5 b n).length<=k:=by
 rcases va n with h0|h0
 ·subst h0;simp[jt]
 ·rcases co k (f5 b n).length with hk|hk
  ·exfalso
   have h1:=aJ b (l:=f5 b n) (k:=(f5 b n).length-1) oM;rw[show (f5 b n).length-1+1=(f5 b n).length by omega,r9,iy a] at h1
   have e:=kP a n h0;have d:b^((f5 b n).length-1)*1<=b^((f5 b n).length-1)*(f5 b n).getD ((f5 b n).length-1) 0:=Ao _ oM;have c:b^k<=b^((f5 b n).length-1):=Aa oM oM
   omega
  ·exact hk
theorem iN {b:Nat}(a:2<=b)(n:Nat):n<b^(f5 b n).length:=by
 have:=bV (xC a n)
 rwa [iy a] at this
theorem qV {b n:Nat}(a:2<=b)(h:0<n):b^((f5 b n).length-1)<=n:=by
 have d:=(nj a).2 h;have h1:=aJ b (l:=f5 b n) (k:=(f5 b n).length-1) oM;rw[show (f5 b n).length-1+1=(f5 b n).length by omega,r9,iy a] at h1
 have e:=kP a n h;have c:b^((f5 b n).length-1)*1<=b^((f5 b n).length-1)*(f5 b n).getD ((f5 b n).length-1) 0:=Ao _ oM
 omega
theorem gU (b:Nat){l:List Nat}{k m:Nat}(p:k+m<=l.length)(c:0<b)(f:Dg b l)(h:am b l<b^(k+m)):am b l/b^k=am b ((l.drop k).take m)/\∀ i,k+m<=i->l.getD i 0=0:=by
 have d:=bX b (l:=l) (k:=k) oM;have a:=bX b (l:=l.drop k) (k:=m) (by rw[List.length_drop];omega);have h1:=bV (f.take k);rw[z1,z2 oM] at h1
 have j:0<b^k:=A8 c
 have hz:am b ((l.drop k).drop m)=0:=by
  rcases va (am b ((l.drop k).drop m)) with h0|h0
  ·exact h0
  ·exfalso
   have o:b^m*1<=b^m*am b ((l.drop k).drop m):=Ao _ h0;have e:b^k*b^m<=b^k*am b (l.drop k):=Ao _ oM;rw[<-Am] at e
   omega
 rw[hz,z6,ri] at a
 refine ⟨?_,fun i hi=>?_⟩
 ·rw[d,I5 _ _ j,y9 h1,s4,a]
 ·have:=m0 c hz (i-k-m)
  rw[bJ,bJ,show k+(m+(i-k-m))=i by omega] at this
  exact this
theorem xq {b P u v U V G:Nat}(j:0<P)(o:U*P<=u)(l:u<(U+1)*P)(c:V*P<=v)(i:v<(V+1)*P)(e:b*P<=v)(d:u<b*v)(p:G*V<=U)(a:G+1=b\/U<(G+1)*V)(k:G<b) :
    u/v<=G/\G<=u/v+1:=by
  have hv:0<v:=ep (Nat.mul_pos oM j) e
  constructor
  . have x:u/v<G+1:=by
      rw[Nat.div_lt_iff_lt_mul hv]
      rcases a with h|h
      . rw[h];exact d
      . have h1:(U+1)*P<=(G+1)*V*P:=s5 _ h
        have f:(G+1)*(V*P)<=(G+1)*v:=Ao _ c;rw[zY] at h1
        omega
    omega
  . have h1:G*v<=u+v:=by
      have z:G*v<=G*((V+1)*P):=Ao _ oM;have B:G*((V+1)*P)=G*V*P+G*P:=by rw[<-zY,zT,HA,I6]
      have y:G*V*P<=U*P:=s5 _ p;have C:G*P<=b*P:=s5 _ oM
      omega
    have f:G<=(u+v)/v:=(Nat.le_div_iff_mul_le hv).2 h1;rw[Nat.add_div_right _ hv] at f
    omega
theorem aR (b:Nat)(l:List Nat)(k:Nat):am b (l.take (k+1))=am b (l.take k)+b^k*l.getD k 0:=by
 rcases co k l.length with h|h
 ·exact aJ b h
 ·rw[I7 oM,I7 h]
  simp[o1 h]
theorem fS {b:Nat}{l y:List Nat}{i c c' s X:Nat}(hi:i<l.length)(a:am b l+b^i*c=X+am b (y.take i))(e:s+b*c'=l.getD i 0+y.getD i 0+c) :
  am b (l.set i s)+b^(i+1)*c'=X+am b (y.take (i+1)):=by
 have h1:=ct b s hi;rw[aR,zy]
 generalize b^i=P at *
 generalize am b (l.set i s)=S at *
 have d:P*(s+b*c')=P*(l.getD i 0+y.getD i 0+c):=by rw[e]
 simp only[zT,<-zY] at d ⊢
 omega
theorem pE {b:Nat}{l y:List Nat}{i c c' s X:Nat}(hi:i<l.length)(a:am b l+am b (y.take i)=X+b^i*c)(e:s+y.getD i 0+c=l.getD i 0+b*c') :
  am b (l.set i s)+am b (y.take (i+1))=X+b^(i+1)*c':=by
 have h1:=ct b s hi;rw[aR,zy]
 generalize b^i=P at *
 generalize am b (l.set i s)=S at *
 have d:P*(s+y.getD i 0+c)=P*(l.getD i 0+b*c'):=by rw[e]
 simp only[zT,<-zY] at d ⊢
 omega
theorem lp {b:Nat}{l y:List Nat}{k j m c c' s X:Nat}(hi:k+j<l.length)(a:am b l+b^(k+j)*c=X+b^k*(m*am b (y.take j)))(e:s+b*c'=l.getD (k+j) 0+m*y.getD j 0+c) :
  am b (l.set (k+j) s)+b^(k+(j+1))*c'=X+b^k*(m*am b (y.take (j+1))):=by
 have h1:=ct b s hi;rw[aR,<-rc,zy];have h:b^(k+j)=b^k*b^j:=Am _ _ _;have f:b^(k+j)*(s+b*c')=b^(k+j)*(l.getD (k+j) 0+m*y.getD j 0+c):=by rw[e]
 have d:b^k*(m*(am b (y.take j)+b^j*y.getD j 0))=b^k*(m*am b (y.take j))+b^(k+j)*(m*y.getD j 0):=by
  rw[h,zT,zT,<-zY m,zz m (b^j),zY (b^j),<-zY (b^k) (b^j)]
 rw[d]
 generalize b^(k+j)=P at *
 generalize am b (l.set (k+j) s)=S at *
 generalize b^k*(m*am b (y.take j))=Y at *
 simp only[zT,<-zY] at f ⊢
 omega
theorem sJ {b:Nat}{l y:List Nat}{k m c X:Nat}(hi:k+y.length<l.length)(a:am b l+b^(k+y.length)*c=X+b^k*(m*am b (y.take y.length)))(h0:l.getD (k+y.length) 0=0) :
  am b (l.set (k+y.length) c)=X+b^k*(m*am b y):=by
 have h1:=ct b c hi;rw[r9] at a
 rw[h0] at h1
 omega
theorem rY {b:Nat}{x:List Nat}{i X Y:Nat}(h:X=am b (x.take i)*Y):X+b^i*(x.getD i 0*Y)=am b (x.take (i+1))*Y:=by
 rw[aR,I6,h,zY]
theorem rL {b:Nat}{l:List Nat}{i d r a q X:Nat}(hi:i<l.length)(c:X=d*(b^(i+1)*am b (l.drop (i+1)))+(b^(i+1)*r+am b (l.take (i+1))))(e:r*b+l.getD i 0=d*q+a) :
  X=d*(b^i*am b ((l.set i q).drop i))+(b^i*a+am b ((l.set i q).take i)):=by
 have f:(l.set i q).take i=l.take i:=by rw[List.take_set_of_le (eb _)]
 have k:am b ((l.set i q).drop i)=q+b*am b (l.drop (i+1)):=by
  rw[e7 b (by simpa using hi),bC hi,if_pos rfl,List.drop_set_of_lt oM]
 rw[f,k,c,aJ b hi,zy];have h:b^i*(r*b+l.getD i 0)=b^i*(d*q+a):=by rw[e]
 have o:d*(b^i*(q+b*am b (l.drop (i+1))))=b^i*(d*q)+d*(b^i*b*am b (l.drop (i+1))):=by
  rw[zT,zT,<-zY (b^i) b,Nat.mul_left_comm d (b^i) q]
 have j:b^i*b*r=b^i*(r*b):=by rw[zY,zz b r]
 rw[o,j]
 simp only[zT] at h
 omega
theorem rM {b:Nat}{u v:List Nat}{j i G c c' d bo' t s X:Nat}(hi:j+i<u.length)(a:am b u+b^j*(G*am b (v.take i))=X+b^(j+i)*(c+d))(e:t+b*c'=G*v.getD i 0+c)(k:s+t+d=u.getD (j+i) 0+b*bo') :
  am b (u.set (j+i) s)+b^j*(G*am b (v.take (i+1)))=X+b^(j+(i+1))*(c'+bo'):=by
 have h1:=ct b s hi;rw[aR,<-rc,zy];have l:b^(j+i)=b^j*b^i:=Am _ _ _
 have f:b^j*(G*(am b (v.take i)+b^i*v.getD i 0))=b^j*(G*am b (v.take i))+b^(j+i)*(G*v.getD i 0):=by
  rw[l,zT,zT,<-zY G,zz G (b^i),zY (b^i),<-zY (b^j) (b^i)]
 rw[f];have h:b^(j+i)*(t+b*c')=b^(j+i)*(G*v.getD i 0+c):=by rw[e]
 have o:b^(j+i)*(s+t+d)=b^(j+i)*(u.getD (j+i) 0+b*bo'):=by rw[k]
 generalize b^(j+i)=P at *
 generalize am b (u.set (j+i) s)=S at *
 generalize b^j*(G*am b (v.take i))=Y at *
 simp only[zT,<-zY] at h o a ⊢
 omega
theorem vn {b:Nat}{u v:List Nat}{j G c d bo' s X:Nat}(hi:j+v.length<u.length)(a:am b u+b^j*(G*am b (v.take v.length))=X+b^(j+v.length)*(c+d))(e:s+c+d=u.getD (j+v.length) 0+b*bo') :
  am b (u.set (j+v.length) s)+b^j*(G*am b v)=X+b^(j+v.length+1)*bo':=by
 have h1:=ct b s hi;rw[r9] at a
 rw[zy];have f:b^(j+v.length)*(s+c+d)=b^(j+v.length)*(u.getD (j+v.length) 0+b*bo'):=by rw[e]
 generalize b^(j+v.length)=P at *
 generalize am b (u.set (j+v.length) s)=S at *
 generalize b^j*(G*am b v)=Y at *
 simp only[zT,<-zY] at f a ⊢
 omega
theorem rX {b:Nat}{u v:List Nat}{j i c c' s X:Nat}(hi:j+i<u.length)(a:am b u+b^(j+i)*c=X+b^j*am b (v.take i))(e:s+b*c'=u.getD (j+i) 0+v.getD i 0+c) :
  am b (u.set (j+i) s)+b^(j+(i+1))*c'=X+b^j*am b (v.take (i+1)):=by
 have:=lp (b:=b) (l:=u) (y:=v) (k:=j) (j:=i) (m:=1) (c:=c) (c':=c') (s:=s) (X:=X) hi (by rw[I8];exact a) (by rw[I8];exact e);rw[I8] at this
 exact this
theorem uI {b:Nat}{u v:List Nat}{j c c' s X:Nat}(hi:j+v.length<u.length)(a:am b u+b^(j+v.length)*c=X+b^j*am b (v.take v.length))(e:s+b*c'=u.getD (j+v.length) 0+c) :
  am b (u.set (j+v.length) s)+b^(j+v.length+1)*c'=X+b^j*am b v:=by
 have h1:=ct b s hi;rw[r9] at a
 rw[zy];have d:b^(j+v.length)*(s+b*c')=b^(j+v.length)*(u.getD (j+v.length) 0+c):=by rw[e]
 generalize b^(j+v.length)=P at *
 generalize am b (u.set (j+v.length) s)=S at *
 generalize b^j*am b v=Y at *
 simp only[zT,<-zY] at d a ⊢
 omega
def Above (u u0:List Nat)(k:Nat):Prop:=u.length=u0.length/\∀ i,k<=i->u.getD i 0=u0.getD i 0
theorem Above.refl (u:List Nat)(k:Nat):Above u u k:=⟨rfl,fun _ _=>rfl⟩
theorem Above.set {u a:List Nat}{k i x:Nat}(h:Above u a k)(hi:i<k)(b:i<u.length):Above (u.set i x) a k:=⟨by rw[List.length_set];exact h.1,fun j c=>by rw[bC b,if_neg oM];exact h.2 j c⟩
theorem d9 {b:Nat}(j:0<b){u a:List Nat}{k:Nat}(h:Above u a k)(f:Dg b u)(c:Dg b a)(d:k<=u.length)(h0:am b a<b^k):am b u<b^k:=by
 have e:=bX b d;have h1:=bV (f.take k);rw[z1,z2 d] at h1
 have hz:am b (u.drop k)=0:=gn b (fun i=>by
  rw[bJ,h.2 _ oM];exact (gU b (l:=a) (k:=k) (m:=0) (by rw[<-h.1];exact d) j c h0).2 _ oM)
 rw[hz] at e
 omega
theorem eW {b n j R v d G f:Nat}(I:2<=b)(J:2<=n)(l:b^(n-1)<=v)(c:v<b^n)(D:R<b^(j+1)*v)(C:d<b^(j+n+1))(e:d+b^j*(G*v)=R+b^(j+n+1)*f)(z:f<=1)
    (F:R/(b^j*v)<=G/\G<=R/(b^j*v)+1) :
    (f=0->G=R/(b^j*v)/\d=R-b^j*(G*v)/\d<b^j*v/\b^j*(G*v)<=R)/\(f=1->G=R/(b^j*v)+1/\d+b^j*v=(R-b^j*((G-1)*v))+b^(j+n+1)/\R-b^j*((G-1)*v)<b^j*v/\b^j*((G-1)*v)<=R):=by
  have u:0<b^j:=A8 oM;have o:0<v:=ep (A8 oM) l;have y:0<b^j*v:=Nat.mul_pos u o;have i:∀ g,b^j*(g*v)=g*(b^j*v):=fun g=>by rw[<-zY,zz (b^j) g,zY]
  have k:=I9 R (b^j*v);have x:=ua R y;rw[zz] at k
  rw[i] at e
  have p:b^j*v<b^(j+n+1):=by
    have h1:b^j*v<b^j*b^n:=F2 c u;rw[<-Am] at h1
    have H:b^(j+n)<=b^(j+n+1):=Aa oM oM
    omega
  have B:R<b^(j+n+1):=by
    have h1:b^(j+1)*v<b^(j+1)*b^n:=F2 c (A8 oM);rw[<-Am,show j+1+n=j+n+1 by omega] at h1
    omega
  generalize b^(j+n+1)=T at *
  generalize hWe:b^j*v=W at *
  generalize hQ:R/W=Q at *
  refine ⟨fun h=>?_,fun h=>?_⟩
  . subst h
    rw[i]
    have a:G=Q:=by
      rcases co Q G with h1|h1
      . exfalso
        have:G=Q+1:=by omega
        subst this;rw[I6] at e
        omega
      . omega
    subst a
    omega
  . subst h
    have a:G=Q+1:=by
      rcases co Q G with h1|h1
      . omega
      . exfalso
        have:G=Q:=by omega
        subst this
        omega
    subst a;rw[i,Nat.add_sub_cancel];rw[I6] at e
    omega
theorem mJ {b n j G:Nat}{u v:List Nat}(O:2<=b)(S:2<=n)(K:v.length=n)(f:Dg b v)(z:Dg b u)(hu:j+n<u.length)(D:v.getD (n-1) 0≠0)(B:am b u<b^(j+1)*am b v)
  (M:G*(v.getD (n-1) 0*b+v.getD (n-2) 0)<=u.getD (j+n) 0*b*b+u.getD (j+n-1) 0*b+u.getD (j+n-2) 0)
  (p:G+1=b\/u.getD (j+n) 0*b*b+u.getD (j+n-1) 0*b+u.getD (j+n-2) 0<(G+1)*(v.getD (n-1) 0*b+v.getD (n-2) 0))(o:G<b) :
  am b u/(b^j*am b v)<=G/\G<=am b u/(b^j*am b v)+1:=by
 have c:=bV f;rw[K] at c
 have H:0<b^(j+n-2):=A8 oM
 have y:am b u<b^(j+n-2+3):=by
  have h1:b^(j+1)*am b v<b^(j+1)*b^n:=F2 c (A8 oM);rw[<-Am,show j+1+n=j+n-2+3 by omega] at h1
  omega
 have d:∀ {l:List Nat} {k:Nat},k+3<=l.length->am b ((l.drop k).take 3)=l.getD (k+2) 0*b*b+l.getD (k+1) 0*b+l.getD k 0:=fun {l k} L=>by
  rw[aR,aR,aR,bJ,bJ,bJ]
  simp[am,zy]
  rw[zz b (l[k+1]?.getD 0),zz (b*b) (l[k+2]?.getD 0),zY]
  omega
 have two:∀ {l:List Nat} {k:Nat},k+2<=l.length->am b ((l.drop k).take 2)=l.getD (k+1) 0*b+l.getD k 0:=fun {l k} L=>by
  rw[aR,aR,bJ,bJ]
  simp[am]
  rw[zz b (l[k+1]?.getD 0)]
  omega
 have I:=(gU b (l:=u) (k:=j+n-2) (m:=3) oM oM z y).1;have C:=(gU b (l:=v) (k:=n-2) (m:=2) oM oM f (by rw[show n-2+2=n by omega];exact c)).1;rw[d oM,show j+n-2+2=j+n by omega,show j+n-2+1=j+n-1 by omega] at I
 rw[two oM,show n-2+1=n-1 by omega] at C
 have a:b^(j+n-2)=b^j*b^(n-2):=by rw[<-Am];congr 1;omega
 have x:0<b^(n-2):=A8 oM;have h:=I9 (am b u) (b^(j+n-2));have J:=ua (am b u) H;have i:=I9 (am b v) (b^(n-2));have F:=ua (am b v) x;rw[I] at h
 rw[C] at i
 have e:b^(n-1)<=am b v:=by
  have:=aJ b (l:=v) (k:=n-1) oM;rw[show n-1+1=v.length by omega,r9] at this
  have Q:b^(n-1)*1<=b^(n-1)*v.getD (n-1) 0:=Ao _ oM
  omega
 generalize hU:u.getD (j+n) 0*b*b+u.getD (j+n-1) 0*b+u.getD (j+n-2) 0=U at *
 generalize hV:v.getD (n-1) 0*b+v.getD (n-2) 0=V at *
 generalize am b u%b^(j+n-2)=mu at *
 generalize am b v%b^(n-2)=mv at *
 refine xq (b:=b) (P:=b^(j+n-2)) (U:=U) (V:=V) H ?_ ?_ ?_ ?_ ?_ ?_ M p o
 ·rw[zz];omega
 ·rw[I6,I8,zz U];omega
 ·rw[a,zz V,zY]
  exact Ao _ oM
 ·rw[a,zz (V+1),zY,zT,HA]
  exact F2 oM (A8 oM)
 ·rw[a,zz b (b^j*b^(n-2)),zY]
  refine Ao _ ?_;rw[<-zy,show (n-2).succ=n-1 by omega];exact e
 ·rw[zy] at B
  rw[<-zY,zz b (b^j)];exact B
def ak (s:ByteArray)(i:Nat):Nat:=(s.data.toList.getD i 0).toNat
theorem bh (s:ByteArray)(i:Nat):ak s i<256:=UInt8.toNat_lt _
def wv (s:ByteArray):Nat:=ak s 0+ak s 1*256+ak s 2*65536+ak s 3*16777216+ak s 4*4294967296+ak s 5*1099511627776+ak s 6*281474976710656+ak s 7*72057594037927936
theorem Dc (s:ByteArray):wv s<18446744073709551616:=by
 have h0:=bh s 0;have h1:=bh s 1;have e:=bh s 2;have b:=bh s 3;have c:=bh s 4;have d:=bh s 5;have f:=bh s 6;have a:=bh s 7
 unfold wv;omega
section ops
variable {P:Program}{Γ:ck}{o:Oper}
theorem aU {tx:TypeId}{x i:Operand}{k:IntKind}{s:ByteArray}{n:Nat}{j:Int}(c:o.op=.index tx x i)(d:ev Γ x=.string s)(hi:ev Γ i=.int k j)(hu:P.underlying tx=some .string)(e:j=(n:Int))(b:n<s.size)(w:World) :
  (execOp (ev Γ) o).run P w=.ok (.value (.int .u8 (ak s n:Nat))) w:=by
 unfold execOp;simp only[c];rw[d,hi,e]
 have h0:(0:Int)<=(n:Int):=Int.natCast_nonneg n;have a:n<s.data.size:=b
 have h1:s[n]?=some (s.data.toList.getD n 0):=by
  simp[b,a,ByteArray.getElem_eq_getElem_data]
 simp[Instr.index,asIntOf,run_underlying hu,h1,ak,Result.andThen]
theorem fF {tx:TypeId}{x i:Operand}{k:IntKind}{s:ByteArray}{n:Nat}{j:Int}(a:o.op=.slice tx x (some i) none none)(c:ev Γ x=.string s)(hi:ev Γ i=.int k j)(hu:P.underlying tx=some .string)(d:j=(n:Int))(b:n<=s.size)(w:World) :
  (execOp (ev Γ) o).run P w=.ok (.value (.string (s.extract n s.size))) w:=by
 unfold execOp;simp only[a]
 subst d;have h0:(n:Int)<=(s.size:Int):=by omega
 simp[Instr.sliceAt,c,hi,Instr.slice,run_underlying hu,Instr.sliceBounds,Instr.sliceBound,asIntOf,Result.andThen,h0,b]
theorem f8 {t u:TypeId}{x y:Operand}{ky:IntKind}{a n:Nat}(d:o.op=.binOp .shl t x y u)(j:ev Γ x=.int .u64 (a:Int))(i:ev Γ y=.int ky (n:Int))(w:World) :
    (execOp (ev Γ) o).run P w=.ok (.value (.int .u64 ((a*2^n%18446744073709551616:Nat):Int))) w:=by
  unfold execOp;simp only[d];rw[j,i]
  have hz:¬((n:Int)<0):=by omega
  have e:IntKind.wrap .u64 ((a:Int)*2^(min n IntKind.u64.bits))=((a*2^n%18446744073709551616:Nat):Int):=by
    have b:(a:Int)*2^(min n IntKind.u64.bits)=((a*2^(min n 64):Nat):Int):=by
      rw[show IntKind.u64.bits=64 from rfl];push_cast;rfl
    rw[b,wO]
    rcases co n 64 with h|h
    . rw[z2 oM]
    . rw[Ja h]
      have f:(2:Nat)^n=18446744073709551616*2^(n-64):=by
        rw[show (18446744073709551616:Nat)=2^64 from rfl,<-Am];congr 1;omega
      have c:a*2^n%18446744073709551616=0:=by rw[f,<-zY,zz a,zY,Nat.mul_mod_right]
      rw[c,show (2:Nat)^64=18446744073709551616 from rfl,A9]
  simp[binOp,eqGuard,Op.shift,Result.andThen,hz,e]
theorem fK {t u:TypeId}{x y:Operand}{ky:IntKind}{a n:Nat}(c:o.op=.binOp .shr t x y u)(i:ev Γ x=.int .u64 (a:Int))(f:ev Γ y=.int ky (n:Int))(ha:a<18446744073709551616)(w:World) :
  (execOp (ev Γ) o).run P w=.ok (.value (.int .u64 ((a/2^n:Nat):Int))) w:=by
 unfold execOp;simp only[c];rw[i,f]
 have hz:¬((n:Int)<0):=by omega
 have d:(0:Int)<=2^(min n IntKind.u64.bits):=Int.pow_nonneg kD
 have e:(a:Int)/2^(min n IntKind.u64.bits)=((a/2^n:Nat):Int):=by
  have b:(a:Int)/2^(min n IntKind.u64.bits)=((a/2^(min n 64):Nat):Int):=by
   rw[show IntKind.u64.bits=64 from rfl];push_cast;rfl
  rw[b]
  rcases co n 64 with h|h
  ·rw[z2 oM]
  ·have h1:(2:Nat)^64<=2^n:=Aa oM h
   rw[Ja h,y9 oM,y9 oM]
 simp[binOp,eqGuard,Op.shift,Result.andThen,hz,y4 _ d,e]
theorem qK {t u:TypeId}{x y:Operand}{a:Nat}{m:Int}(p:Nat)(c:o.op=.binOp .and t x y u)(f:ev Γ x=.int .u64 (a:Int))(d:ev Γ y=.int .u64 m)(ha:a<18446744073709551616)(b:p<=64/\m=((2^p-1:Nat):Int))(w:World) :
  (execOp (ev Γ) o).run P w=.ok (.value (.int .u64 ((a%2^p:Nat):Int))) w:=by
 unfold execOp;simp only[c];rw[f,d,b.2]
 have h:(2^p-1:Nat)<2^64:=by
  have:(2:Nat)^p<=2^64:=Aa oM b.1;have:=z8 p
  omega
 have e:bits .and .u64 (a:Int) ((2^p-1:Nat):Int)=((a%2^p:Nat):Int):=by
  unfold bits
  have h1:(BitVec.ofInt 64 (a:Int) &&& BitVec.ofInt 64 ((2^p-1:Nat):Int)).toNat=a%2^p:=by
   rw[BitVec.toNat_and,<-Nat.and_two_pow_sub_one_eq_mod]
   congr 1
   ·simp[BitVec.toNat_ofInt];omega
   ·rw[BitVec.toNat_ofInt,<-Int.natCast_emod,ub,tv h]
  show IntKind.wrap .u64 (((BitVec.ofInt 64 (a:Int) &&& BitVec.ofInt 64 ((2^p-1:Nat):Int)).toNat:Nat):Int)=_
  rw[h1,wO];have:a%2^p<=a:=Nat.mod_le _ _;rw[tv oM]
 simp[binOp,eqGuard,Result.andThen,intBits_and,e]
end ops
theorem wt (a b:Nat):IntKind.wrap .u64 ((a:Int)+(b:Int))=(((a+b)%18446744073709551616:Nat):Int):=by rw[IntKind.wrap_u64];omega
theorem j5 (a b:Nat)(h:b<=18446744073709551616):IntKind.wrap .u64 ((a:Int)-(b:Int))=(((a+(18446744073709551616-b))%18446744073709551616:Nat):Int):=by rw[IntKind.wrap_u64];omega
theorem iQ (a b:Nat):IntKind.wrap .u64 ((a:Int)*(b:Int))=((a*b%18446744073709551616:Nat):Int):=by
 rw[<-Int.natCast_mul,wO]
theorem fu (a b:Nat)(h:a*b<18446744073709551616):IntKind.wrap .u64 ((a:Int)*(b:Int))=((a*b:Nat):Int):=by rw[iQ,tv h]
theorem fc (a b:Nat)(h:b<=a)(ha:a<18446744073709551616):IntKind.wrap .u64 ((a:Int)-(b:Int))=((a-b:Nat):Int):=by rw[IntKind.wrap_u64];omega
theorem dr (a b:Nat)(h:a+b<18446744073709551616):IntKind.wrap .u64 ((a:Int)+(b:Int))=((a+b:Nat):Int):=by rw[IntKind.wrap_u64];omega
theorem Df (a b:Nat)(h:a+b<4294967296):IntKind.wrap .u32 ((a:Int)+(b:Int))=((a+b:Nat):Int):=by rw[IntKind.wrap_u32];omega
theorem iG {s:ByteArray}(h:s=⟨#[]⟩):(s.toList == (⟨#[]⟩:ByteArray).toList)=true:=by rw[h,Lib.toList_data];rfl
theorem mh {s:ByteArray}(h:s.size≠0):s.data.toList≠[]:=fun e=>h (by
 have:s.data.size=s.data.toList.length:=by simp
 show s.data.size=0
 rw[this,e];rfl)
theorem g7 {s:ByteArray}(h:s.size≠0):(s.toList == (⟨#[]⟩:ByteArray).toList)=false:=by
 rw[Lib.toList_data,Lib.toList_data];have:=mh h;cases e:s.data.toList with
 | nil=>exact absurd e this
 | cons a l=>rfl
theorem vK {s:ByteArray}(h:s=⟨#[]⟩):(!(s.toList == (⟨#[]⟩:ByteArray).toList))=false:=by rw[iG h];rfl
theorem Ac {s:ByteArray}(h:s.size≠0):(!(s.toList == (⟨#[]⟩:ByteArray).toList))=true:=by rw[g7 h];rfl
theorem dd (s:ByteArray)(k i:Nat):ak (s.extract k s.size) i=ak s (k+i):=by
 unfold ak
 rw[Lib.extract_to_end]
 simp only[A6,p2]
def kn (s t:ByteArray):Bool:=s.toList == t.toList
def j4 (s t:ByteArray):Bool:=!(s.toList == t.toList)
theorem f7 {s t:ByteArray}(h:kn s t=true):s=t:=by
 have e:=eq_of_beq (show (s.toList == t.toList)=true from h);rw[Lib.toList_data,Lib.toList_data] at e
 cases s;cases t;congr 1;exact Array.toList_inj.1 e
theorem gt {s t:ByteArray}(h:kn s t=false):¬s=t:=fun e=>by
 subst e;have:kn s s=true:=beq_self_eq_true _;rw[this] at h;cases h
theorem kF {s t:ByteArray}(h:j4 s t=true):¬s=t:=gt (by unfold j4 at h;unfold kn;cases e:(s.toList == t.toList)<;>rw[e] at h<;>first|rfl|cases h)
theorem ku {s t:ByteArray}(h:j4 s t=false):s=t:=f7 (by unfold j4 at h;unfold kn;cases e:(s.toList == t.toList)<;>rw[e] at h<;>first|rfl|cases h)
def wds (n:Nat):List Nat:=f5 18446744073709551616 n
def aD (l:List Nat):Nat:=am 18446744073709551616 l
def Wd (l:List Nat):Prop:=Dg 18446744073709551616 l
theorem aZ (n:Nat):aD (wds n)=n:=iy kD n
theorem Wd.wds (n:Nat):Wd (wds n):=xC kD n
theorem Wd.get {l:List Nat}(h:Wd l)(k:Nat):l.getD k 0<18446744073709551616:=Dg.getD h kD k
theorem wM {p : Prop} (h : p := by first | omega | exact Wd.get (by assumption) _ | exact Dc _) : p := h
end Go.Proofs.YtffiihfdjnmhpaaGreatDoor
