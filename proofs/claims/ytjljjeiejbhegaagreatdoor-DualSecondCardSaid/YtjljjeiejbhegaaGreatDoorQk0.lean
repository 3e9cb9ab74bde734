/- Laws of this claim, part 1. -/
import Derived.Below
import Derived.WalkKit
import Derived.Lib.Hide
import Derived.Deep.Draws
import Derived.Orders
import Derived.OrdersHeld
import Derived.KernelRfl
import Derived.Laws.MakeOwn
import Derived.Maps.AppendAt
import Derived.Test.YtjljjeiejbhegaaGreatDoorProg
import Derived.Lib.IndexBytes
import Derived.Lib.Builder
import Derived.Lib.UnsafeStr
import Derived.Test.YtjljjeiejbhegaaGreatDoorShelf
import Derived.Shelf.Spec.BitsCarry
import Derived.Lib.BitFns
import Derived.Laws.CopyRow
import Derived.Shelf.Strings.Builder1
import Derived.Shelf.Strings.Builder2
import Derived.Lib.TrailingZeros
import Derived.Laws.Bits64b
import Derived.WideMake
import Derived.ArgAppend
import Derived.DeepKeys5
import Derived.StringKeys
import Derived.Shelf.SlIter.Nil
import Derived.Shelf.SortM.Plain
import Derived.Shelf.SortM.SortNone
import Derived.RangeFuncBox
import Derived.OwnWalkIn
import Derived.TacticsInMore
import Derived.LoopNIn
import Derived.LoopIn
import Derived.Sort.KeysCollected
import Derived.Deep.Upon
import Derived.Shelf.SortM.Walk0sIn
set_option maxRecDepth 100000
set_option maxHeartbeats 4000000
namespace Go.Proofs.YtjljjeiejbhegaaGreatDoor
open _root_.Array renaming all_eq_true_iff_forall_mem -> ov, any_eq_true -> pR, getD -> fo, getElem?_append_left -> ub, getElem?_append_right -> A0, getElem?_eq_getElem -> e5, getElem?_eq_none -> eb, getElem?_eq_some_iff -> i2, getElem?_extract -> A9, getElem?_push_lt -> e4, getElem?_push_size -> e6, getElem?_replicate -> A6, getElem?_setIfInBounds_ne -> la, getElem?_setIfInBounds_self_of_lt -> Bs, getElem_mem -> ri, mapM_eq_mapM_toList -> yZ, replicate -> tw, setIfInBounds_comm -> gq
open Bool renaming and_eq_true -> lu, false_eq_true -> sA, not_true -> tf, or_eq_true -> po
open Int renaming fdiv_eq_ediv_of_nonneg -> Hj, pow_nonneg -> My, tdiv -> HA, toNat_natCast -> Aw
open List renaming all_cons -> wi, all_eq_true -> o0, any_eq_true -> s9, cons_append -> MR, drop_eq_getElem_cons -> MY, drop_sublist -> Ab, drop_zero -> y6, eq_nil_of_length_eq_zero -> z1, eraseIdx_sublist -> D2, ext_getElem? -> va, flatMap_cons -> y4, getD_cons_succ -> y9, getD_eq_getElem?_getD -> Nc, getElem?_append_left -> wj, getElem?_append_right -> yz, getElem?_drop -> yy, getElem?_eq_none -> ua, getElem?_set_ne -> vi, getElem?_set_self -> vb, getElem?_take_of_lt -> yh, getElem_eraseIdx -> Dw, getElem_inj -> v6, getElem_map -> vl, getElem_mem -> gg, getElem_set_ne -> F2, getElem_set_self -> Ga, length_append -> zY, length_cons -> uA, length_eraseIdx_of_lt -> D0, length_take -> MV, lookup_cons -> i3, mapM_cons -> yY, map_cons -> A7, map_set -> u9, mem_append -> gs, mem_cons -> hC, mem_iff_getElem -> vj, mem_map -> g3, mem_of_mem_drop -> z8, mem_of_mem_eraseIdx -> D1, mem_of_mem_take -> M6, mem_range -> pa, mem_singleton -> ti, nodup_cons -> hO, pairwise_iff_getElem -> Ft, perm_middle -> g4, range -> o2, range' -> tj, range'_succ -> tv, range_eq_range' -> tz, replicate -> Af, replicate_succ -> Ag, set_cons_succ -> z2, take_add_one -> MU, take_append_drop -> M8, take_append_of_le_length -> y7, take_length -> y8, take_of_length_le -> Nj
open Nat renaming add_assoc -> y3, add_comm -> zy, add_mul -> Ni, add_mul_div_left -> M9, add_zero -> y5, div_add_mod -> Nl, div_div_eq_div_mul -> Nb, div_eq_of_lt -> MN, div_le_self -> L2, div_lt_of_lt_mul -> MO, div_lt_self -> Nh, eq_zero_or_pos -> B2, le_of_ble_eq_true -> Hi, le_refl -> ek, le_trans -> ep, log2_eq_iff -> MZ, lt_of_le_of_lt -> H1, lt_of_lt_of_le -> er, lt_or_ge -> ea, min_eq_left -> MW, min_eq_right -> Nm, mod_eq_of_lt -> Am, mod_lt -> As, mul_add -> MS, mul_assoc -> MT, mul_comm -> MQ, mul_le_mul_left -> M5, mul_le_mul_right -> z7, mul_lt_mul_of_pos_left -> Nf, mul_mod_left -> Nd, mul_one -> Ng, mul_zero -> MX, one_mul -> Nk, or_lt_two_pow -> MM, pow_add -> M4, pow_le_pow_right -> M1, pow_mul -> M7, pow_pos -> Na, pow_succ -> MP, pow_succ' -> M3, strongRecOn -> hP, sub_self -> ue, succ_mul -> zh, two_pow_pos -> M0, zero_add -> z6, zero_mul -> zZ
open Option renaming isSome_iff_exists -> oi, map_eq_none_iff -> Gb, map_eq_some_iff -> ul, map_none -> AS, map_some -> um
abbrev Z9:=Option Addr
theorem kD {p : Prop}(h : p := by decide): p := h
theorem oM {p : Prop}(h : p := by omega): p := h
theorem kR {p : Prop}(h : p := by kernel_rfl): p := h
theorem aM {p : Prop}(h : p := by assumption): p := h
theorem de {p : Prop}(h : p := by first | assumption | omega): p := h
theorem sM {p : Prop}(h : p := by first | omega | (simp; done) | (simp; omega)): p := h
theorem oT {p : Prop}[Decidable p](h : decide p = true): p := of_decide_eq_true h
theorem oF {p : Prop}[Decidable p](h : decide p = false): ¬p := of_decide_eq_false h
theorem dT {p : Prop}[Decidable p](h : p): decide p = true /\ p := ⟨decide_eq_true h, h⟩
theorem dF {p : Prop}[Decidable p](h : ¬p): decide p = false /\ ¬p := ⟨decide_eq_false h, h⟩
open Go.RowKit
abbrev pB (b:Nat):Value:=.pointer (some ⟨b,0,none⟩)
abbrev qP (b o:Nat):Value:=.pointer (some ⟨b,o,none⟩)
abbrev qT:Value:=.bool true
abbrev qF:Value:=.bool false
abbrev qS (A:Z9)(n c:Nat):Value:=.slice A n c
abbrev sZ:Value:=.slice none 0 0
abbrev eS:Value:=.string ⟨#[]⟩
abbrev sB (b:Nat):Z9:=some ⟨b,0,none⟩
abbrev iV (n:Int):Value:=.int .i64 n
abbrev uV (n:Int):Value:=.int .u64 n
abbrev a6:List Value:=[qF,uV 0,eS,uV 0,eS]
abbrev ca:List Value:=[iV 0,iV 0,qF,uV 0,eS,uV 0,eS,eS,sZ]
abbrev cA:Value:=.agg #[qF,uV 0,eS,uV 0,eS]
abbrev cD:List Value:=[qF,sZ,sZ]
abbrev dS:List ByteArray:=[⟨#[120]⟩,⟨#[121]⟩,⟨#[122]⟩]
abbrev uW (n:Int):Value:=.int .u32 n
abbrev nV (n:Nat):Value:=.int .i64 (n:Int)
abbrev mV (n:Nat):Value:=.int .u64 (n:Int)
abbrev mW (n:Nat):Value:=.int .u32 (n:Int)
def Ext (w w':World):Prop:=Below w.heap.size w w'
theorem Ext.refl (w):Ext w w:=Below.refl _ _
theorem Ext.trans {a b c:World}(h:Ext a b)(k:Ext b c):Ext a c:=Below.trans h (Below.mono k h.size)
theorem Ext.alloc {a w:World}(h:Ext a w)(o:Obj):Ext a (w.alloc o):=Below.alloc h h.size o
theorem Ext.drew {a w:World}(h:Ext a w):Ext a w.drew:=Below.drew h
theorem Ext.size {a w:World}(h:Ext a w):a.heap.size<=w.heap.size:=Below.size h
theorem Ext.cell {a w:World}(h:Ext a w){p:Addr}(c:p.block<a.heap.size):w.cell? p=a.cell? p:=Below.cell h c
theorem Ext.some {a w:World}(h:Ext a w){p:Addr}{v:Value}(c:a.cell? p=.some v):w.cell? p=.some v:=by
 rcases ea p.block a.heap.size with hl|hl
 ·rw[h.cell hl];exact c
 ·unfold World.cell? at c
  rw[eb hl] at c;cases c
def af (z:Int):Bool:=decide (z<0)
def ab (z:Int):Nat:=z.natAbs
def qd (q:Rat):Nat:=if q.den=1 then 0 else q.den
def bD (neg:Bool)(a:Nat):Int:=if neg then -(a:Int) else a
theorem kw (neg:Bool)(a):af (bD neg a)=(neg && decide (0<a)):=by cases neg<;>simp[af,bD]<;>omega
theorem fH (neg:Bool)(a):ab (bD neg a)=a:=by cases neg<;>simp[ab,bD]
theorem nJ (z):bD (af z) (ab z)=z:=by unfold bD af ab;by_cases h:z<0<;>simp[h]<;>omega
theorem mt (z):bD (!af z) (ab z) = -z:=by unfold bD af ab;by_cases h:z<0<;>simp[h]<;>omega
theorem bx {z:Int}(h:af z=true):z<0:=by simpa [af] using h
theorem be {z:Int}(h:af z=false):0<=z:=by simpa [af] using h
abbrev Hp:=Array Obj
def bp:Obj:=.cells #[] 0 (0,0)
structure G (w:World) (h:Hp):Prop where
  size:w.heap.size=h.size
  blk:∀ b:Nat,h[b]?=w.heap[b]?\/h[b]?=some bp
structure Gr (h h':Hp):Prop where
  size:h.size<=h'.size
  blk:∀ b:Nat,b<h.size->h'[b]?=h[b]?
structure Up (w:World) (h:Hp) (w':World) (h':Hp):Prop where
  ext:Ext w w'
  gr:Gr h h'
  g:G w' h'
theorem Gr.refl (h):Gr h h:=⟨ek _,fun _ _=>rfl⟩
theorem Gr.trans {a b c:Hp}(h:Gr a b)(k:Gr b c):Gr a c :=
 ⟨ep h.size k.size,fun x d=>(k.blk x (er d h.size)).trans (h.blk x d)⟩
theorem Gr.push (h)(o:Obj):Gr h (h.push o) :=
 ⟨by simp,fun b a=>by rw[e4 a];exact (e5 a).symm⟩
theorem Up.refl {w:World}{h:Hp}(g:G w h):Up w h w h:=⟨Ext.refl _,Gr.refl _,g⟩
theorem Up.trans {w w1 w2:World}{h h1 c:Hp}(a:Up w h w1 h1)(b:Up w1 h1 w2 c):Up w h w2 c:=⟨a.ext.trans b.ext,a.gr.trans b.gr,b.g⟩
theorem G.drew {w:World}{h:Hp}(g:G w h):G w.drew h:=⟨g.size,g.blk⟩
theorem Up.drew {w w1:World}{h h1:Hp}(a:Up w h w1 h1):Up w h w1.drew h1:=⟨a.ext.drew,a.gr,a.g.drew⟩
theorem heap_alloc (w:World)(o:Obj):(w.alloc o).heap=w.heap.push o:=rfl
theorem Up.allocAny {w:World}{h:Hp}(g:G w h)(o o':Obj)(a:o'=o\/o'=bp):Up w h (w.alloc o) (h.push o'):=by
 refine ⟨(Ext.refl _).alloc _,Gr.push _ _,⟨by rw[heap_alloc];simp[g.size],fun b=>?_⟩⟩;rw[heap_alloc];have e:=g.size
 rcases Nat.lt_trichotomy b h.size with hb|hb|hb
 ·rw[e4 hb,e4 oM]
  have:=g.blk b
  rwa [e5 hb,e5 oM] at this
 ·subst hb
  rw[e6];have:(w.heap.push o)[h.size]?=some o:=by rw[<-e];exact e6
  rw[this];rcases a with rfl|rfl
  ·exact .inl rfl
  ·exact .inr rfl
 ·left
  rw[eb (by simp;omega),eb (by simp;omega)]
structure Mo (M:List Nat) (w w':World):Prop where
  os:w'.os=w.os
  tape:w'.tape=w.tape
  output:w'.output=w.output
  size:w.heap.size<=w'.heap.size
  blk:∀ b,b<w.heap.size->b ∉ M->w'.heap[b]?=w.heap[b]?
theorem Mo.refl (M w):Mo M w w:=⟨rfl,rfl,rfl,ek _,fun _ _ _=>rfl⟩
theorem Mo.trans {M:List Nat}{a b c:World}(h:Mo M a b)(k:Mo M b c):Mo M a c :=
 ⟨k.os.trans h.os,k.tape.trans h.tape,k.output.trans h.output,ep h.size k.size,fun x e d=>(k.blk x (er e h.size) d).trans (h.blk x e d)⟩
theorem Ext.mo {a b:World}(h:Ext a b)(M):Mo M a b:=⟨h.os,h.tape,h.output,h.size,fun x c _=>Below.block h x c⟩
theorem Mo.ext {a b:World}(h:Mo [] a b):Ext a b:=⟨h.os,h.tape,h.output,h.size,fun x c=>h.blk x c (by simp)⟩
structure UpM (M:List Nat) (w:World) (h:Hp) (w':World) (h':Hp):Prop where
  mo:Mo M w w'
  gr:Gr h h'
  g:G w' h'
theorem Up.m {w w':World}{h a:Hp}(u:Up w h w' a)(M):UpM M w h w' a:=⟨u.ext.mo M,u.gr,u.g⟩
theorem UpM.refl {M:List Nat}{w:World}{h:Hp}(g:G w h):UpM M w h w h:=⟨Mo.refl _ _,Gr.refl _,g⟩
theorem UpM.trans {M:List Nat}{w w1 w2:World}{h h1 c:Hp}(a:UpM M w h w1 h1)(b:UpM M w1 h1 w2 c):UpM M w h w2 c:=⟨a.mo.trans b.mo,a.gr.trans b.gr,b.g⟩
structure Ms where
  l:List Nat
  z:Option (Nat × List Nat)
def Tl (M:Ms)(w w':World):Prop:=∀ K bs,M.z=some (K,bs)->w.heap.size<=w'.heap.size/\∀ b,b<K->b ∉ bs->w'.heap[b]?=w.heap[b]?
theorem Tl.refl (M:Ms)(w):Tl M w w:=fun _ _ _=>⟨ek _,fun _ _ _=>rfl⟩
def Rl (M:Ms)(k0 i:Nat)(w w':World):Prop:=(i<k0->Mo M.l w w')/\(k0<=i->Tl M w w')
theorem Rl.refl (M:Ms)(k0 i w):Rl M k0 i w w:=⟨fun _=>Mo.refl _ _,fun _=>Tl.refl _ _⟩
theorem Rl.mo {M:Ms}{k0 i:Nat}{w w':World}(h:i<k0)(m:Mo M.l w w'):Rl M k0 i w w':=⟨fun _=>m,fun hk=>absurd hk oM⟩
theorem Rl.tl {M:Ms}{k0 i:Nat}{w w':World}(h:k0<=i)(m:Tl M w w'):Rl M k0 i w w':=⟨fun hk=>absurd hk oM,fun _=>m⟩
section region
variable (M:Ms)(P:Program)(ops:Array Oper)(Q:Exit->Act->World->Prop)(k0:Nat)
def tc:Nat->Array Bool->Act->World->Prop
  | 0,L,a,w=>Region.ready .any ops L=[]/\Q .normal a w
  | n + 1,L,a,w=>(Region.ready .any ops L=[]->Q .normal a w) /\
      ∀ i∈Region.ready .any ops L,wpOp P ops Q i (fun a' w'=>Rl M k0 i w w'/\tc n (L.setIfInBounds i true) a' w') a w
theorem mI:∀ (n:Nat) (L:Array Bool) (a:Act) (w:World),tc M P ops Q k0 n L a w->wpAny P .any ops Q n L a w
 | 0,_,_,_,h=>h
 | n+1,_,_,_,h=>⟨h.1,fun i hi=>wpOp_mono (fun a' w' h'=>mI n _ a' w' h'.2) (h.2 i hi)⟩
def rem (L:Array Bool):Nat:=L.toList.count false
def A (L:Array Bool)(a:Act)(w:World):Prop:=tc M P ops Q k0 (rem L) L a w
variable {M P ops Q k0}
theorem I9 {L:Array Bool}{i:Nat}(h:L.getD i true=false):∃ hi:i<L.size,L[i]=false:=by
 rcases ea i L.size with hi|hi
 ·exact ⟨hi,by simpa [fo,hi] using h⟩
 ·simp[fo,Nat.not_lt.2 hi] at h
theorem Fs {L:Array Bool}{i:Nat}(h:L.getD i true=false):rem L=rem (L.setIfInBounds i true)+1:=by
 obtain ⟨hi,e⟩:=I9 h
 unfold rem;rw[Array.toList_setIfInBounds,List.count_set (by simpa using hi)];have a:L.toList[i]'(by simpa using hi)=false:=by simpa using e
 have c:0<L.toList.count false:=List.count_pos_iff.2 (by rw[<-a];exact gg _);rw[a,if_pos (by rfl),if_neg kD]
 omega
theorem gi {L:Array Bool}{i:Nat}(h:i∈Region.ready .any ops L):rem L=rem (L.setIfInBounds i true)+1:=Fs (mem_ready.1 h).1
theorem A.intro {L:Array Bool}{a:Act}{w:World}(h0:Region.ready .any ops L=[]->Q .normal a w)
    (h1:∀ i∈Region.ready .any ops L,wpOp P ops Q i (fun a' w'=>Rl M k0 i w w'/\A M P ops Q k0 (L.setIfInBounds i true) a' w') a w):A M P ops Q k0 L a w:=by
  unfold A;cases hn:rem L with
  | zero =>
    have hr:Region.ready .any ops L=[]:=by
      cases hr:Region.ready .any ops L with
      | nil=>rfl
      | cons i l =>
        have:=gi (ops:=ops) (L:=L) (i:=i) (by rw[hr];simp)
        omega
    exact ⟨hr,h0 hr⟩
  | succ n =>
    refine ⟨h0,fun i hi=>?_⟩;have e:=gi hi;have c:=h1 i hi
    unfold A at c;have d:rem (L.setIfInBounds i true)=n:=by omega
    rw[d] at c;exact c
theorem A.done {L:Array Bool}{a:Act}{w:World}(hr:(Region.ready .any ops L).isEmpty=true)(h:Q .normal a w):A M P ops Q k0 L a w:=by
 have c:Region.ready .any ops L=[]:=by simpa using hr
 exact A.intro (fun _=>h) (fun i hi=>by rw[c] at hi;cases hi)
theorem nB {i:Nat}{D:Oper}{v:Value}{S:World->Prop}(hi:ops[i]?=some D)(z:∀ (j:Nat) (o:Oper) cs b,ops[j]?=some o->o.op≠.select cs b)
    (hQ:∀ c a w,Q (.panic c) (a.put D.dst v) w->Q (.panic c) a w)(J:∀ w w',S w->Mo M.l w w'->S w') :
    ∀ (n:Nat) (L:Array Bool) (a:Act) (w:World),
      (∀ j f,ops[j]?=some f->j≠i->L.getD j true=false->(∀ e∈f.after,Region.binds .any e=true->e.on≠i)->D.apart ops f=true) ->
      ((∀ w,S w)\/(∀ w w',S w->Tl M w w'->S w')\/∀ j f,ops[j]?=some f->k0<=j->j≠i->∃ e∈f.after,Region.binds .any e=true/\e.on=i) ->
      i∈Region.ready .any ops L->YieldsIf P ops S D v a->S w ->
      tc M P ops Q k0 n (L.setIfInBounds i true) (a.put D.dst v) w->(i<k0)->tc M P ops Q k0 (n+1) L a w:=by
  intro n;induction n with
  | zero =>
    intro L a w _ _ hr V F H _;refine ⟨fun h=>(by rw[h] at hr;cases hr),fun j U=>?_⟩
    by_cases hji:j=i
    . subst hji;exact V.wpOp hi F ⟨Rl.refl _ _ _ _,H⟩
    . have:=ready_mono U hji
      rw[H.1] at this;cases this
  | succ n ih =>
    intro L a w p d hr V F H hk;refine ⟨fun h=>(by rw[h] at hr;cases hr),fun j U=>?_⟩
    by_cases hji:j=i
    . subst hji;exact V.wpOp hi F ⟨Rl.refl _ _ _ _,H⟩
    . have h1:=H.2 j (ready_mono U hji)
      obtain ⟨B,f,x,I⟩:=mem_ready.1 U
      have C:∀ e∈f.after,Region.binds .any e=true->e.on≠i:=fun e he W heq=>by
        have h1:=I e he W;have h0:=(mem_ready.1 hr).1;rw[heq] at h1
        obtain ⟨y,h0'⟩:=I9 h0
        simp[fo,y,h0'] at h1
      have h2:=wpOp_putIf x (p j f x hji B C) (fun cs b=>z i D cs b hi) (fun cs b=>z j f cs b x) hQ V h1
      have u:∀ k ok,ops[k]?=some ok->k≠i->(L.setIfInBounds j true).getD k true=false ->
          (∀ e∈ok.after,Region.binds .any e=true->e.on≠i)->D.apart ops ok=true:=fun k ok hk Z K hno=>by
        refine p k ok hk Z ?_ hno
        by_cases hjk:j=k
        . subst hjk;exact B
        . rw[getD_set_ne true hjk] at K;exact K
      have X:∀ w',Rl M k0 j w w'->S w':=fun w' Y=>by
        rcases d with ht|ht|ht
        . exact ht w'
        . rcases ea j k0 with y|y
          . exact J _ _ F (Y.1 y)
          . exact ht _ _ F (Y.2 y)
        . rcases ea j k0 with y|y
          . exact J _ _ F (Y.1 y)
          . obtain ⟨e,he,W,ho⟩:=ht j f x y hji
            exact absurd ho (C e he W)
      refine wpOp_mono (fun a' w' O=>⟨O.2.1,ih (L.setIfInBounds j true) a' w' u d (ready_mono hr (Ne.symm hji)) O.1 (X w' O.2.1) ?_ hk⟩) h2;rw[gq _ _ hji];exact O.2.2
structure Al where
  i:Nat
  t:Nat
  o:Obj
structure AlOk (P:Program) (ops:Array Oper) (k0:Nat) (x:Al):Prop where
  ex:∃ o,ops[x.i]?=some o/\o.dst=some x.t/\o.guard=none/\o.after = #[]/\(∀ (ρ:Operand->Value) (w:World),(execOp ρ o).run P w=.ok (.value (.pointer (some ⟨w.heap.size,0,none⟩))) (w.alloc x.o))
  lt:x.i<k0
abbrev SA:=Al × Nat
def e7 (L:Array Bool)(S:List SA):Array Bool:=S.foldr (fun s L=>L.setIfInBounds s.1.i true) L
def addA (a:Act)(S:List SA):Act:=S.foldr (fun s a=>a.put (some s.1.t) (.pointer (some ⟨s.2,0,none⟩))) a
def Blk (h0:Hp)(w:World)(h:Hp)(s:SA):Prop:=w.heap[s.2]?=some s.1.o/\h[s.2]?=some bp/\h0.size<=s.2
theorem Blk.up {h0:Hp}{w w':World}{h f:Hp}{s:SA}(b:Blk h0 w h s)(u:UpM M.l w h w' f)(hM:∀ b∈M.l,b<h0.size):Blk h0 w' f s:=by
 obtain ⟨d,c,j⟩:=b
 have a:s.2<w.heap.size:=by
  rcases ea s.2 w.heap.size with a|a
  ·exact a
  ·rw[eb a] at d;cases d
 have e:s.2<h.size:=by
  rcases ea s.2 h.size with a|a
  ·exact a
  ·rw[eb a] at c;cases c
 exact ⟨(u.mo.blk _ a (fun i=>by have:=hM _ i;omega)).trans d,(u.gr.blk _ e).trans c,j⟩
theorem Blk.lt {h0:Hp}{w:World}{h:Hp}{s:SA}(b:Blk h0 w h s):s.2<w.heap.size:=by
 rcases ea s.2 w.heap.size with hl|hl
 ·exact hl
 ·have:=b.1;rw[eb hl] at this;cases this
variable (M P ops Q k0) in
def E (h0:Hp)(AL:List Al)(L:Array Bool)(a:Act)(w:World)(h:Hp):Prop :=
  ∀ w' h',Up w h w' h'->∀ (S:List SA) (T:List Al),(S.map (·.1)++T).Perm AL->(∀ s∈S,Blk h0 w' h' s)->(S.map (·.2)).Nodup ->
    A M P ops Q k0 (e7 L S) (addA a S) w'
theorem n3 (L:Array Bool)(S:List SA)(i)(hi:∀ s∈S,s.1.i≠i):e7 (L.setIfInBounds i true) S=(e7 L S).setIfInBounds i true:=by
  induction S with
  | nil=>rfl
  | cons s S ih =>
    have h1:s.1.i≠i:=hi s (by simp)
    show (e7 (L.setIfInBounds i true) S).setIfInBounds s.1.i true=((e7 L S).setIfInBounds s.1.i true).setIfInBounds i true
    rw[ih (fun t a=>hi t (by simp[a])),gq _ _ (Ne.symm h1)]
theorem mU (a:Act)(S:List SA)(d:Option Tmp)(v)(c:∀ s∈S,d≠some s.1.t):addA (a.put d v) S=(addA a S).put d v:=by
  induction S with
  | nil=>rfl
  | cons s S ih =>
    have h1:d≠some s.1.t:=c s (by simp)
    show (addA (a.put d v) S).put (some s.1.t) _=((addA a S).put (some s.1.t) _).put d v
    rw[ih (fun t e=>c t (by simp[e]))];exact Act.put_comm _ _ _ (fun x f h=>h1 (f.trans h.symm))
theorem ib {L:Array Bool}{S:List SA}{j:Nat}(h:(e7 L S).getD j true=false):L.getD j true=false:=by
  induction S with
  | nil=>exact h
  | cons s S ih =>
    apply ih
    have a:((e7 L S).setIfInBounds s.1.i true).getD j true=false:=h
    by_cases e:s.1.i=j
    . subst e
      obtain ⟨d,c⟩:=I9 a
      simp at c
    . rwa [getD_set_ne true e] at a
theorem jt {L:Array Bool}{S:List SA}{j:Nat}(d:Bool)(a:∀ s∈S,s.1.i≠j):(e7 L S).getD j d=L.getD j d:=by
  induction S with
  | nil=>rfl
  | cons s S ih =>
    show ((e7 L S).setIfInBounds s.1.i true).getD j d=_
    rw[getD_set_ne d (a s (by simp))];exact ih (fun t c=>a t (by simp[c]))
theorem kV {L:Array Bool}{S:List SA}{j:Nat}(h:L.getD j false=true):(e7 L S).getD j false=true:=by
 induction S with
 | nil=>exact h
 | cons s S ih=>exact getD_set_true (listed:=e7 L S) ih
theorem t8 {L:Array Bool}{S:List SA}{i:Nat}(hi:∀ s∈S,s.1.i≠i)(h:i∈Region.ready .any ops L):i∈Region.ready .any ops (e7 L S):=by
 rw[mem_ready] at *;obtain ⟨h0,o,d,a⟩:=h;exact ⟨by rw[jt true hi];exact h0,o,d,fun e f c=>kV (a e f c)⟩
theorem oI {o:Oper}(i:∀ cs b,o.op≠.select cs b)(a:Act)(S:List SA)(h:∀ s∈S,s.1.t ∉ o.looksAt ops):
    execOp (addA a S).eval o=execOp a.eval o/\Region.wanted o (yielded ops (addA a S).tmps)=Region.wanted o (yielded ops a.tmps):=by
  induction S with
  | nil=>exact ⟨rfl,rfl⟩
  | cons s S ih =>
    obtain ⟨i1,e⟩:=ih (fun t f=>h t (by simp[f]));have hn:∀ d,some s.1.t=some d->d ∉ o.looksAt ops:=fun d c=>by injection c with c;subst c;exact h s (by simp)
    exact ⟨(execOp_put (ops:=ops) o i _ _ _ hn).trans i1,(wanted_put (ops:=ops) o _ _ _ hn).trans e⟩
theorem je {S:List SA}{T AL:List Al}(a:(S.map (·.1)++T).Perm AL){s:SA}(c:s∈S):s.1∈AL :=
 a.mem_iff.1 (gs.2 (.inl (g3.2 ⟨s,c,rfl⟩)))
def OpR (P:Program)(ops:Array Oper)(o:Oper)(a:Act)(w:World)(R:Value->World->Prop):Prop :=
  Region.wanted o (yielded ops a.tmps)=true /\
  ((∃ v w',(execOp a.eval o).run P w=.ok (.value v) w'/\R v w')\/(∃ w',(execOp a.eval o).run P w=.ok .skip w'/\R undef w') \/
   (∃ f args,(execOp a.eval o).run P w=.ok (.enter f args) w/\Calls P f args w (fun e w'=>∃ v,e=.returned v/\R v w')))
theorem OpR.wpOp {i:Nat}{o:Oper}{a:Act}{w:World}{R:Value->World->Prop}{K:Act->World->Prop}(hi:ops[i]?=some o)(h:OpR P ops o a w R)
  (c:∀ v w',R v w'->K (a.put o.dst v) w'):wpOp P ops Q i K a w:=by
 obtain ⟨d,h⟩:=h
 unfold Go.wpOp;simp only[hi,d,if_true];left
 unfold Oper.wp;rcases h with ⟨v,w',hr,hR⟩|⟨w',hr,hR⟩|⟨f,args,hr,hc⟩
 ·rw[hr];exact c _ _ hR
 ·rw[hr];exact c _ _ hR
 ·rw[hr]
  refine Calls.mono hc fun e w' j=>?_
  obtain ⟨v,rfl,hR⟩:=j;exact c _ _ hR
theorem OpR.addA {o:Oper}{a:Act}{w:World}{R:Value->World->Prop}(h:OpR P ops o a w R)(f:∀ cs b,o.op≠.select cs b)(S:List SA)(e:∀ s∈S,s.1.t ∉ o.looksAt ops):
  OpR P ops o (addA a S) w R:=by
 obtain ⟨c,d⟩:=oI (ops:=ops) f a S e
 unfold OpR at *;rw[c,d];exact h
theorem FQ {x:Al}(ok:AlOk P ops k0 x){a:Act}{w:World}{K:Act->World->Prop}(h:K (a.put (some x.t) (.pointer (some ⟨w.heap.size,0,none⟩))) (w.alloc x.o)):wpOp P ops Q x.i K a w:=by
 obtain ⟨o,h1,c,e,_,d⟩:=ok.ex
 unfold Go.wpOp;simp only[h1];rw[if_pos (by simp[Region.wanted,e])]
 left
 unfold Oper.wp;rw[d];show K (a.put o.dst _) _
 rw[c];exact h
theorem rF {x:Al}(ok:AlOk P ops k0 x){L:Array Bool}(h:L.getD x.i true=false):x.i∈Region.ready .any ops L:=by
 obtain ⟨o,h1,_,_,c,_⟩:=ok.ex;exact mem_ready.2 ⟨h,o,h1,fun e a=>by rw[c] at a;simp at a⟩
theorem pp {h0:Hp}{AL:List Al}{L:Array Bool}{a:Act}{w':World}{e:Hp}{S:List SA}{T:List Al}{x:Al}
  (f:∀ x∈AL,AlOk P ops k0 x)(hM:∀ b∈M.l,b<h0.size)(g:G w' e)(j:h0.size<=e.size)(z:(S.map (·.1)++T).Perm AL)(p:∀ s∈S,Blk h0 w' e s)(hn:(S.map (·.2)).Nodup)(y:x∈T)
  (C:∀ (w1:World) (h1:Hp) (S1:List SA) (d:List Al),Up w' e w1 h1->(S1.map (·.1)++d).Perm AL->(∀ s∈S1,Blk h0 w1 h1 s)->(S1.map (·.2)).Nodup->d.length<T.length->A M P ops Q k0 (e7 L S1) (addA a S1) w1) :
  wpOp P ops Q x.i (fun F w1=>Rl M k0 x.i w' w1/\A M P ops Q k0 ((e7 L S).setIfInBounds x.i true) F w1) (addA a S) w':=by
 have c:x∈AL:=z.mem_iff.1 (gs.2 (.inr y))
 obtain ⟨d,hT⟩:∃ d,T.Perm (x::d):=by
  obtain ⟨B,l2,rfl⟩:=List.append_of_mem y;exact ⟨B++l2,g4⟩
 have u:Up w' e (w'.alloc x.o) (e.push bp):=Up.allocAny g _ _ (.inr rfl);refine FQ (f x c) ⟨Rl.mo (f x c).lt (u.m M.l).mo,?_⟩;refine C (w'.alloc x.o) (e.push bp) ((x,w'.heap.size)::S) d u ?_ ?_ ?_ ?_
 ·refine List.Perm.trans ?_ z
  show (x::(S.map (·.1)++d)).Perm _
  refine List.Perm.trans g4.symm ?_;exact List.Perm.append_left _ hT.symm
 ·intro s h
  rcases hC.1 h with rfl|h
  ·refine ⟨?_,?_,?_⟩
   ·rw[heap_alloc];exact e6
   ·rw[g.size];exact e6
   ·show h0.size<=w'.heap.size;rw[g.size];exact j
  ·exact (p s h).up (u.m M.l) hM
 ·show (w'.heap.size::S.map (·.2)).Nodup
  refine hO.2 ⟨fun D=>?_,hn⟩;obtain ⟨s,h,H⟩:=g3.1 D;have:=(p s h).lt
  omega
 ·have:=hT.length_eq
  simp at this;omega
theorem jm {AL:List Al}{L:Array Bool}{S:List SA}{T:List Al}{x:Al}(d:(S.map (·.1)++T).Perm AL)(h:x∈AL)(hr:x.i∈Region.ready .any ops (e7 L S)):x∈T:=by
  rcases gs.1 (d.mem_iff.2 h) with hm|hm
  . obtain ⟨s,f,c⟩:=g3.1 hm
    have h1:=(mem_ready.1 hr).1
    exfalso
    rw[<-c] at h1;clear hr d hm c;induction S with
    | nil=>cases f
    | cons t S ih =>
      have a:((e7 L S).setIfInBounds t.1.i true).getD s.1.i true=false:=h1
      by_cases e:t.1.i=s.1.i
      . rw[e] at a
        obtain ⟨j,c⟩:=I9 a
        simp at c
      . rw[getD_set_ne true e] at a
        rcases hC.1 f with rfl|hs'
        . exact e rfl
        . exact ih hs' a
  . exact hm
end region
section laws
variable {M:Ms}{P:Program}{ops:Array Oper}{Q:Exit->Act->World->Prop}{k0:Nat}
theorem wx (L:Array Bool)(S:List SA):(e7 L S).size=L.size:=by
 induction S with
 | nil=>rfl
 | cons s S ih=>show ((e7 L S).setIfInBounds s.1.i true).size=_;simp[ih]
theorem E.take0 {h0:Hp}{AL:List Al}{L:Array Bool}{a:Act}{w:World}{h:Hp}{i:Nat}{o:Oper}{v:Value}{S:World->Prop}
  (hi:ops[i]?=some o)(hk:i<k0)(p:Region.noSelect ops=true)(hf:Region.free .any ops L i=true)(hr:i∈Region.ready .any ops L)
  (I:∀ x∈AL,x.i≠i/\x.t ∉ o.looksAt ops/\o.dst≠some x.t)(X:∀ c a w,¬Q (.panic c) a w)
  (D:∀ w w',S w->Mo M.l w w'->S w')(hS:∀ w',Mo M.l w w'->S w')(hy:YieldsIf P ops S o v a)
  (y:(∀ w,S w)\/(∀ w w',S w->Tl M w w'->S w')\/∀ j C,ops[j]?=some C->k0<=j->j≠i->∃ e∈C.after,Region.binds .any e=true/\e.on=i)
  (H:E M P ops Q k0 h0 AL (L.setIfInBounds i true) (a.put o.dst v) w h):E M P ops Q k0 h0 AL L a w h:=by
 intro w' Y u B T O V hn;have f:∀ s∈B,s.1.i≠i/\s.1.t ∉ o.looksAt ops/\o.dst≠some s.1.t:=fun s d=>I _ (je O d)
 have K:=H w' Y u B T O V hn;rw[n3 L B i (fun s d=>(f s d).1),mU a B o.dst v (fun s d=>(f s d).2.2)] at K
 have z:=t8 (fun s d=>(f s d).1) hr;obtain ⟨e1,U⟩:=oI (ops:=ops) (Region.noSelect_spec p i o · · hi) a B (fun s d=>(f s d).2.1)
 unfold A at *;rw[gi z];exact nB hi (Region.noSelect_spec p) (fun c a w W=>absurd W (X _ _ _)) D _ _ _ _
  (fun j C Z F J=>Region.free_spec hi hf j C Z F (ib J)) y z (hy.of_same e1 U) (hS _ (u.m M.l).mo) K hk
theorem E.event0 {h0:Hp}{AL:List Al}{L:Array Bool}{a:Act}{w:World}{h:Hp}{i:Nat}{o:Oper}
    (hi:ops[i]?=some o)(hk:i<k0)(K:Region.noSelect ops=true)(hL:L.size=ops.size)(hun:L.getD i true=false)
    (O:∀ j Y,ops[j]?=some Y->L.getD j true=false->j≠i->(∀ x∈AL,x.i≠j)->∃ e∈Y.after,Region.binds .any e=true/\L.getD e.on false=false/\∀ x∈AL,x.i≠e.on)
    (J:∀ e∈o.after,Region.binds .any e=true->L.getD e.on false=true\/∃ x∈AL,x.i=e.on)
    (hal:∀ x∈AL,x.i≠i/\x.t ∉ o.looksAt ops/\o.dst≠some x.t)(B:∀ x∈AL,AlOk P ops k0 x)(hM:∀ b∈M.l,b<h0.size)(g:G w h)(hsz:h0.size<=h.size)
    (H:∀ w' z,Up w h w' z->OpR P ops o a w' (fun v p=>∃ f,UpM M.l w' z p f/\E M P ops Q k0 h0 AL (L.setIfInBounds i true) (a.put o.dst v) p f)):E M P ops Q k0 h0 AL L a w h:=by
  have key:∀ (m:Nat) (T:List Al),T.length=m->∀ w' z,Up w h w' z->∀ (S:List SA),(S.map (·.1)++T).Perm AL->(∀ s∈S,Blk h0 w' z s)->(S.map (·.2)).Nodup ->
      A M P ops Q k0 (e7 L S) (addA a S) w':=by
    intro m;induction m using hP with
    | _ m ih =>
      intro T hT w' z u S C X hn;have y:∀ s∈S,s.1.i≠i/\s.1.t ∉ o.looksAt ops/\o.dst≠some s.1.t:=fun s c=>hal _ (je C c)
      refine A.intro (fun W=>?_) (fun j hj=>?_)
      . exfalso
        by_cases hd:∃ e∈o.after,Region.binds .any e=true/\(e7 L S).getD e.on false=false
        . obtain ⟨e,D,d,hf⟩:=hd
          rcases J e D d with h1|⟨x,F,hxe⟩
          . rw[kV h1] at hf;cases hf
          . have U:x.i<(e7 L S).size:=by
              obtain ⟨o',ho',_⟩:=(B x F).ex;rw[wx,hL];exact (i2.1 ho').1
            have:x.i∈Region.ready .any ops (e7 L S):=rF (B x F) (by rw[<-hxe] at hf;simp[fo,U] at hf ⊢;exact hf);rw[W] at this
            cases this
        . have:i∈Region.ready .any ops (e7 L S):=mem_ready.2 ⟨by rw[jt true (fun s c=>(y s c).1)];exact hun,o,hi,fun e D d=>by
            cases hv:(e7 L S).getD e.on false
            . exact absurd ⟨e,D,d,hv⟩ hd
            . rfl⟩
          rw[W] at this;cases this
      . by_cases hji:j=i
        . subst hji
          refine OpR.wpOp hi ((H w' z u).addA (Region.noSelect_spec K j o · · hi) S (fun s c=>(y s c).2.1)) ?_;rintro v p ⟨f,u2,H2⟩;refine ⟨Rl.mo hk u2.mo,?_⟩;rw[<-n3 L S j (fun s c=>(y s c).1),<-mU a S o.dst v (fun s c=>(y s c).2.2)];exact H2 p f (Up.refl u2.g) S T C (fun s c=>(X s c).up u2 hM) hn
        . obtain ⟨V,Y,hoj,I⟩:=mem_ready.1 hj
          have F:∃ x∈AL,x.i=j:=by
            refine Classical.byContradiction fun hno=>?_
            obtain ⟨e,D,d,hf,hne⟩:=O j Y hoj (ib V) hji (fun x F D=>hno ⟨x,F,D⟩);have:=I e D d;rw[jt false (fun s c=>hne _ (je C c)),hf] at this
            cases this
          obtain ⟨x,hxA,rfl⟩:=F;have hxT:=jm C hxA hj;exact pp B hM u.g (ep hsz u.gr.size) C X hn hxT (fun w1 h1 S1 T1 u1 Z hb1 hn1 U=>ih T1.length oM T1 rfl w1 h1 (u.trans u1) S1 Z hb1 hn1)
  exact fun w' z u S T C X hn=>key _ T rfl w' z u S C X hn
theorem E.fin0 {h0:Hp}{AL:List Al}{L:Array Bool}{a:Act}{w:World}{h:Hp}(hL:L.size=ops.size)
    (K:∀ j F,ops[j]?=some F->L.getD j true=false->(∃ x∈AL,x.i=j)\/∀ x∈AL,∃ e∈F.after,Region.binds .any e=true/\e.on=x.i)
    (B:∀ x∈AL,L.getD x.i true=false)(y:∀ x∈AL,AlOk P ops k0 x)(hM:∀ b∈M.l,b<h0.size)(X:h0.size<=h.size)(hnd:(AL.map (·.i)).Nodup)
    (H:∀ w' c,Up w h w' c->∀ S:List SA,(S.map (·.1)).Perm AL->(∀ s∈S,Blk h0 w' c s)->(S.map (·.2)).Nodup->A M P ops Q k0 (e7 L S) (addA a S) w'):E M P ops Q k0 h0 AL L a w h:=by
  have key:∀ (m:Nat) (T:List Al),T.length=m->∀ w' c,Up w h w' c->∀ (S:List SA),(S.map (·.1)++T).Perm AL->(∀ s∈S,Blk h0 w' c s)->(S.map (·.2)).Nodup ->
      A M P ops Q k0 (e7 L S) (addA a S) w':=by
    intro m;induction m using hP with
    | _ m ih =>
      intro T hT w' c u S f D hn;cases T with
      | nil=>exact H w' c u S (by simpa using f) D hn
      | cons t T' =>
        have o:t∈AL:=f.mem_iff.1 (gs.2 (.inr (by simp)));have d:((S.map (·.1)++t::T').map (·.i)).Nodup:=(f.map (·.i)).nodup_iff.2 hnd
        have J:∀ s∈S,s.1.i≠t.i:=fun s hs Z=>by
          rw[List.map_append,List.nodup_append] at d;exact d.2.2 s.1.i (g3.2 ⟨s.1,g3.2 ⟨s,hs,rfl⟩,rfl⟩) t.i (g3.2 ⟨t,by simp,rfl⟩) Z
        have p:t.i∈Region.ready .any ops (e7 L S):=rF (y t o) (by rw[jt true J];exact B t o);refine A.intro (fun W=>by rw[W] at p;cases p) (fun j hj=>?_);obtain ⟨C,F,V,z⟩:=mem_ready.1 hj
        rcases K j F V (ib C) with ⟨x,hxA,rfl⟩|hw
        . have U:=jm f hxA hj
          exact pp y hM u.g (ep X u.gr.size) f D hn U (fun w1 h1 S1 T1 u1 I hb1 hn1 hlt=>ih T1.length oM T1 rfl w1 h1 (u.trans u1) S1 I hb1 hn1)
        . obtain ⟨e,Z,Y,O⟩:=hw t o
          have:=z e Z Y;rw[O] at this
          obtain ⟨hl,hv⟩:=I9 (mem_ready.1 p).1
          simp[fo,hl,hv] at this
  exact fun w' c u S T f D hn=>key _ T rfl w' c u S f D hn
end laws
abbrev cC:=List (Nat × Value)
def gI (Γ:cC):List Deferred:=match Γ.lookup 1000000 with|some (.int _ D)=>[{ target:=.collected D.toNat,args:=#[] }]|_=>[]
structure Kn (n:Nat) (a:Act) (Γ:cC):Prop where
  df:a.defers=gI Γ
  sz:a.tmps.size=n
  nb:n<=1000000
  has:∀ t v,t≠1000000->Γ.lookup t=some v->a.tmps[t]?=some v
def ev (Γ:cC):Operand->Value
  | .tmp t=>(Γ.lookup t).getD undef
  | .const v=>v
  | .global g=>.pointer (some ⟨g,0,none⟩)
  | .func f=>.func (.func f) #[] #[]
def am (ops:Array Oper)(i:Nat):Oper:=ops.getD i default
def i6 (Γ:cC):Operand->Bool
  | .tmp t=>t != 1000000 && (Γ.lookup t).isSome
  | _=>true
def bc (Γ:cC)(o:Oper):Bool:=o.op.operands.all (i6 Γ)
def bu (ops:Array Oper)(Γ:cC)(o:Oper):Option Bool :=
  match o.guard with
  | none=>some true
  | some (g,want)=>match ((ops[g]?).bind (·.dst)).bind (fun t=>if t=1000000 then none else Γ.lookup t) with
    | some (.bool b)=>some (b == want)
    | some (.tuple _)=>some false
    | _=>none
theorem Kn.put {n:Nat}{a:Act}{Γ:cC}(k:Kn n a Γ){t:Nat}(f:t<n)(v):Kn n (a.put (some t) v) ((t,v)::Γ):=by
 have d:=k.nb;refine ⟨?_,by simpa [Act.put] using k.sz,k.nb,fun s u i c=>?_⟩
 ·have e:((1000000:Nat) == t)=false:=by simp;omega
  show a.defers=_
  rw[k.df];unfold gI;rw[i3,e]
 rw[i3] at c;by_cases e:s=t
 ·subst e
  simp at c;subst c;simp[Act.put,k.sz,f]
 ·have h:(s == t)=false:=by simp[e]
  rw[h] at c;simp only[Act.put];rw[la (Ne.symm e)];exact k.has s u i c
theorem Kn.eval {n:Nat}{a:Act}{Γ:cC}(k:Kn n a Γ){x:Operand}(c:i6 Γ x=true):a.eval x=ev Γ x:=by
  cases x with
  | tmp t =>
    have c:(t != 1000000 && (Γ.lookup t).isSome)=true:=c;rw[lu] at c
    obtain ⟨v,hv⟩:=oi.1 c.2;have:=k.has t v (by simpa using c.1) hv
    simp[Act.eval,ev,hv,this]
  | _=>rfl
theorem Kn.exec {n:Nat}{a:Act}{Γ:cC}(k:Kn n a Γ){o:Oper}(c:∀ cs b,o.op≠.select cs b)(hk:bc Γ o=true):execOp a.eval o=execOp (ev Γ) o :=
 execOp_congr o c (fun x d=>k.eval ((ov.1 hk) x d))
theorem Kn.want {n:Nat}{a:Act}{Γ:cC}(k:Kn n a Γ){ops:Array Oper}{o:Oper}{b:Bool}(h:bu ops Γ o=some b):Region.wanted o (yielded ops a.tmps)=b:=by
  unfold bu at h;unfold Region.wanted;split at h
  . rename_i d;simp only[d];simpa using h
  . rename_i g want d
    simp only[d];cases c:(ops[g]?).bind (·.dst) with
    | none=>rw[c] at h;simp at h
    | some t =>
      rw[c] at h;simp only[Option.bind_some] at h;by_cases ht0:t=1000000
      . rw[if_pos ht0] at h;simp at h
      rw[if_neg ht0] at h;cases hv:Γ.lookup t with
      | none=>rw[hv] at h;simp at h
      | some u =>
        rw[hv] at h;have e:=k.has t u ht0 hv;cases u with
        | bool x=>simp at h;subst h;simp[yielded,c,e]
        | tuple x=>simp at h;subst h;simp[yielded,c,e]
        | _=>simp at h
theorem Kn.mono {n:Nat}{a:Act}{Γ Γ':cC}(k:Kn n a Γ)(h:∀ t v,Γ'.lookup t=some v->Γ.lookup t=some v)(d:gI Γ'=gI Γ):Kn n a Γ':=⟨k.df.trans d.symm,k.sz,k.nb,fun t v c hv=>k.has t v c (h t v hv)⟩
def kM (Γ:cC):List Nat->cC
  | []=>[]
  | t::ts=>match Γ.lookup t with|some v=>(t,v)::kM Γ ts|none=>kM Γ ts
theorem fZ (Γ:cC):∀ (ts:List Nat) (t:Nat) (v:Value),(kM Γ ts).lookup t=some v->Γ.lookup t=some v
  | [],_,_,h=>by simp[kM] at h
  | s :: ts,t,v,h=>by
    unfold kM at h;split at h
    . rename_i u c
      rw[i3] at h;by_cases e:t=s
      . subst e;simp at h;subst h;exact c
      . have a:(t == s)=false:=by simp[e]
        rw[a] at h;exact fZ Γ ts t v h
    . exact fZ Γ ts t v h
abbrev Po:=Act->World->Prop
def iy (N R:Po)(X:Nat->Po):Exit->Act->World->Prop
  | .normal,a,w=>N a w
  | .ret,a,w=>R a w
  | .exit i,a,w=>X i a w
  | _,_,_=>False
def CG (P:Program)(n:Nat)(N R:Po)(X:Nat->Po)(c:Code)(Γ:cC)(w:World):Prop:=∀ a,Kn n a Γ->c.wp P (iy N R X) a w
def EG (M:Ms)(P:Program)(n:Nat)(N R:Po)(X:Nat->Po)(ops:Array Oper)(k0:Nat)(h0:Hp)(AL:List Al)(L:Array Bool)(Γ:cC)(w:World)(h:Hp):Prop :=
  (∀ x∈AL,AlOk P ops k0 x)->(∀ b∈M.l,b<h0.size)->G w h->h0.size<=h.size->∀ a,Kn n a Γ->E M P ops (iy N R X) k0 h0 AL L a w h
def AG (M:Ms)(P:Program)(n:Nat)(N R:Po)(X:Nat->Po)(ops:Array Oper)(k0:Nat)(L:Array Bool)(Γ:cC)(w:World):Prop :=
  ∀ a,Kn n a Γ->A M P ops (iy N R X) k0 L a w
section steps
variable {M:Ms}{P:Program}{n:Nat}{N R:Po}{X:Nat->Po}{ops:Array Oper}{k0:Nat}{h0:Hp}{AL:List Al}{L:Array Bool}{Γ:cC}{w:World}{h:Hp}
def vp (ops:Array Oper)(AL:List Al)(i:Nat)(o:Oper):Bool:=AL.all fun x=>x.i != i && !(o.looksAt ops).contains x.t && o.dst != some x.t
theorem j4 {i:Nat}{o:Oper}(a:vp ops AL i o=true):∀ x∈AL,x.i≠i/\x.t ∉ o.looksAt ops/\o.dst≠some x.t:=by
 intro x c;have:=(o0.1 a) x c
 simp only[lu,bne_iff_ne,ne_eq,Bool.not_eq_true',List.contains_eq_mem,decide_eq_false_iff_not] at this;exact ⟨this.1.1,this.1.2,this.2⟩
def em (n:Nat)(ops:Array Oper)(k0:Nat)(AL:List Al)(L:Array Bool)(i t:Nat):Bool :=
  let o:=am ops i
  decide (i<ops.size) && decide (i<k0) && Region.noSelect ops && Region.free .any ops L i && (Region.ready .any ops L).contains i && vp ops AL i o && (o.dst == some t) && decide (t<n)
structure TakeOk (n:Nat) (ops:Array Oper) (k0:Nat) (AL:List Al) (L:Array Bool) (i t:Nat):Prop where
  get:ops[i]?=some (am ops i)
  lt:i<k0
  sel:Region.noSelect ops=true
  free:Region.free .any ops L i=true
  ready:i∈Region.ready .any ops L
  al:∀ x∈AL,x.i≠i/\x.t ∉ (am ops i).looksAt ops/\(am ops i).dst≠some x.t
  dst:(am ops i).dst=some t
  tn:t<n
theorem bK {i:Nat}(h:i<ops.size):ops[i]?=some (am ops i):=by
 unfold am;simp[h]
theorem eo {i t:Nat}(h:em n ops k0 AL L i t=true):TakeOk n ops k0 AL L i t:=by
 unfold em at h;simp only[lu,decide_eq_true_eq,beq_iff_eq] at h;obtain ⟨⟨⟨⟨⟨⟨⟨h1,c⟩,l⟩,a⟩,e⟩,f⟩,j⟩,d⟩:=h;exact ⟨bK h1,c,l,a,by simpa using e,j4 f,j,d⟩
theorem Rg.pure (i t v)(d:(em n ops k0 AL L i t && bc Γ (am ops i))=true)(o:bu ops Γ (am ops i)=some true)
  (hr:∀ w,(execOp (ev Γ) (am ops i)).run P w=.ok (.value v) w)
  (k:EG M P n N R X ops k0 h0 AL (L.setIfInBounds i true) ((t,v)::Γ) w h):EG M P n N R X ops k0 h0 AL L Γ w h:=by
 rw[lu] at d;obtain ⟨d,l⟩:=d;have c:=eo d;intro e hM g j a f;have p:=f.exec (Region.noSelect_spec c.sel i _ · · c.get) l;refine E.take0 (v:=v) (S:=fun _=>True) c.get c.lt c.sel c.free c.ready c.al (fun _ _ _ u=>u) (fun _ _ _ _=>trivial) (fun _ _=>trivial) (.inl ⟨f.want o,fun w _=>by rw[p];exact hr w⟩) (.inl fun _=>trivial) ?_;rw[c.dst];exact k e hM g j _ (f.put c.tn v)
theorem Rg.skip (i t)(j:em n ops k0 AL L i t=true)(l:bu ops Γ (am ops i)=some false)
  (k:EG M P n N R X ops k0 h0 AL (L.setIfInBounds i true) ((t,undef)::Γ) w h):EG M P n N R X ops k0 h0 AL L Γ w h:=by
 have c:=eo j;intro d hM g e a f;refine E.take0 (v:=undef) (S:=fun _=>True) c.get c.lt c.sel c.free c.ready c.al (fun _ _ _ o=>o) (fun _ _ _ _=>trivial) (fun _ _=>trivial) (.inr ⟨f.want l,rfl⟩) (.inl fun _=>trivial) ?_;rw[c.dst];exact k d hM g e _ (f.put c.tn undef)
def ju (ops:Array Oper)(k0 i:Nat):Bool:=(o2 ops.size).all fun j=>decide (j<k0) || (am ops j).after.any fun e=>Region.binds .any e && e.on == i
theorem kc {i:Nat}(h:ju ops k0 i=true):∀ j c,ops[j]?=some c->k0<=j->j≠i->∃ e∈c.after,Region.binds .any e=true/\e.on=i:=by
 intro j c d hk _;have a:=(i2.1 d).1;have e:c=am ops j:=by have:=bK (ops:=ops) a;rw[d] at this;injection this
 have:=(o0.1 h) j (pa.2 a)
 simp only[po,decide_eq_true_eq,pR,lu,beq_iff_eq] at this;rcases this with h1|⟨x,hx,h2⟩
 ·omega
 ·rw[e];exact ⟨_,ri hx,h2⟩
theorem Rg.load (i t v)(d:(em n ops k0 AL L i t && bc Γ (am ops i) && ju ops k0 i)=true)(y:bu ops Γ (am ops i)=some true)
  (hr:∀ w',Mo M.l w w'->(execOp (ev Γ) (am ops i)).run P w'=.ok (.value v) w')
  (k:EG M P n N R X ops k0 h0 AL (L.setIfInBounds i true) ((t,v)::Γ) w h):EG M P n N R X ops k0 h0 AL L Γ w h:=by
 rw[lu,lu] at d;obtain ⟨⟨d,f⟩,j⟩:=d;have c:=eo d;intro e hM g u a o;have B:=o.exec (Region.noSelect_spec c.sel i _ · · c.get) f;refine E.take0 (v:=v) (S:=fun w'=>Mo M.l w w') c.get c.lt c.sel c.free c.ready c.al (fun _ _ _ z=>z) (fun _ _ h1 x=>h1.trans x) (fun _ p=>p) (.inl ⟨o.want y,fun w' p=>by rw[B];exact hr w' p⟩) (.inr (.inr (kc j))) ?_;rw[c.dst];exact k e hM g u _ (o.put c.tn v)
theorem Rg.loadZ (i t v){bs:List Nat}(hz:M.z=some (h0.size,bs))(j:(em n ops k0 AL L i t && bc Γ (am ops i))=true)(y:bu ops Γ (am ops i)=some true)
  (hr:∀ w',(∀ b,b<h0.size->b ∉ bs->b ∉ M.l->w'.heap[b]?=w.heap[b]?)->(execOp (ev Γ) (am ops i)).run P w'=.ok (.value v) w')
  (k:EG M P n N R X ops k0 h0 AL (L.setIfInBounds i true) ((t,v)::Γ) w h):EG M P n N R X ops k0 h0 AL L Γ w h:=by
 rw[lu] at j;obtain ⟨j,p⟩:=j;have c:=eo j;intro o hM g f a u;have x:h0.size<=w.heap.size:=by rw[g.size];exact f
 have D:=u.exec (Region.noSelect_spec c.sel i _ · · c.get) p;refine E.take0 (v:=v) (S:=fun w'=>h0.size<=w'.heap.size/\∀ b,b<h0.size->b ∉ bs->b ∉ M.l->w'.heap[b]?=w.heap[b]?) c.get c.lt c.sel c.free c.ready c.al (fun _ _ _ B=>B) ?_ ?_ (.inl ⟨u.want y,fun w' C=>by rw[D];exact hr w' C.2⟩) (.inr (.inl ?_)) ?_
 ·intro w1 w2 s m
  exact ⟨ep s.1 m.size,fun b d h1 e=>(m.blk b (er d s.1) e).trans (s.2 b d h1 e)⟩
 ·intro w' m
  exact ⟨ep x m.size,fun b d h1 e=>m.blk b (er d x) e⟩
 ·intro w1 w2 s m
  have:=m h0.size bs hz;exact ⟨ep s.1 this.1,fun b d h1 e=>(this.2 b d h1).trans (s.2 b d h1 e)⟩
 ·rw[c.dst]
  exact k o hM g f _ (u.put c.tn v)
def oP (n:Nat)(ops:Array Oper)(k0:Nat)(AL:List Al)(L:Array Bool)(i t:Nat):Bool :=
  let o:=am ops i
  decide (i<ops.size) && decide (i<k0) && Region.noSelect ops && (L.size == ops.size) && (L.getD i true == false) &&
  ((o2 ops.size).all fun j=>L.getD j true || j == i || AL.any (·.i == j) || (am ops j).after.any fun e=>Region.binds .any e && (L.getD e.on false == false) && AL.all (·.i != e.on)) &&
  (o.after.all fun e=>!Region.binds .any e || L.getD e.on false || AL.any (·.i == e.on)) &&
  vp ops AL i o && (o.dst == some t) && decide (t<n)
theorem Rg.event (i t)(C:(oP n ops k0 AL L i t && bc Γ (am ops i))=true)(hw:bu ops Γ (am ops i)=some true)
  (H:∀ w' D,Up w h w' D ->
   (∃ v d c,(execOp (ev Γ) (am ops i)).run P w'=.ok (.value v) d/\UpM M.l w' D d c/\EG M P n N R X ops k0 h0 AL (L.setIfInBounds i true) ((t,v)::Γ) d c) \/
   (∃ f args,(execOp (ev Γ) (am ops i)).run P w'=.ok (.enter f args) w'/\Calls P f args w' (fun e d=>∃ v c,e=.returned v/\UpM M.l w' D d c/\EG M P n N R X ops k0 h0 AL (L.setIfInBounds i true) ((t,v)::Γ) d c))) :
  EG M P n N R X ops k0 h0 AL L Γ w h:=by
 rw[lu] at C;obtain ⟨C,O⟩:=C
 unfold oP at C;simp only[lu,decide_eq_true_eq,beq_iff_eq] at C;obtain ⟨⟨⟨⟨⟨⟨⟨⟨⟨h1,h2⟩,Z⟩,h4⟩,h5⟩,h6⟩,h7⟩,h8⟩,Y⟩,F⟩:=C;have p:=bK (ops:=ops) h1;intro z hM g J a K;have e1:=K.exec (Region.noSelect_spec Z i _ · · p) O;refine E.event0 p h2 Z h4 h5 ?_ ?_ (j4 h8) z hM g J ?_
 ·intro j oj hj V S U
  have I:=(i2.1 hj).1;have e:oj=am ops j:=by have:=bK (ops:=ops) I;rw[hj] at this;injection this
  have:=(o0.1 h6) j (pa.2 I)
  simp only[po,V,sA,false_or,beq_iff_eq,S,s9,pR,lu] at this;rcases this with ⟨x,hx,hxe⟩|⟨x,hx,⟨Q,hL⟩,hno⟩
  ·exact absurd hxe (U x hx)
  ·rw[e]
   refine ⟨_,ri hx,Q,hL,fun y hy=>?_⟩;have:=(o0.1 hno) y hy
   simpa using this
 ·intro e W Q
  have:=(ov.1 h7) e W
  simp only[po,Q,tf,sA,false_or,s9,beq_iff_eq] at this;exact this
 ·intro w' D u
  refine ⟨K.want hw,?_⟩;rw[e1];have o:=ep J u.gr.size
  rcases H w' D u with ⟨v,d,c,hr,B,k⟩|⟨f,args,hr,hcall⟩
  ·exact .inl ⟨v,d,hr,c,B,by rw[Y];exact k z hM B.g (ep o B.gr.size) _ (K.put F v)⟩
  ·exact .inr (.inr ⟨f,args,hr,hcall.mono fun e d ⟨v,c,W,B,k⟩=>⟨v,W,c,B,by rw[Y];exact k z hM B.g (ep o B.gr.size) _ (K.put F v)⟩⟩)
theorem Rg.call (i t f)(args:Array Value)(c:(oP n ops k0 AL L i t && bc Γ (am ops i))=true)(d:bu ops Γ (am ops i)=some true)
 (hr:∀ w',(execOp (ev Γ) (am ops i)).run P w'=.ok (.enter f args) w')
 (H:∀ w' a,Up w h w' a->Calls P f args w' (fun e w''=>∃ v h'',e=.returned v/\UpM M.l w' a w'' h''/\EG M P n N R X ops k0 h0 AL (L.setIfInBounds i true) ((t,v)::Γ) w'' h'')) :
 EG M P n N R X ops k0 h0 AL L Γ w h:=Rg.event i t c d (fun w' a u=>.inr ⟨f,args,hr w',H w' a u⟩)
def gX (ops:Array Oper)(AL:List Al)(L:Array Bool):Bool :=
  (L.size == ops.size) && ((o2 ops.size).all fun j=>L.getD j true || AL.any (·.i == j) || AL.all fun x=>(am ops j).after.any fun e=>Region.binds .any e && e.on == x.i) && AL.all (fun x=>L.getD x.i true == false)
theorem Rg.fin (f:gX ops AL L=true)(u:(AL.map (·.i)).Nodup)
  (H:∀ a,Kn n a Γ->∀ w' h',Up w h w' h'->∀ S:List SA,(S.map (·.1)).Perm AL->(∀ s∈S,Blk h0 w' h' s)->(S.map (·.2)).Nodup->A M P ops (iy N R X) k0 (e7 L S) (addA a S) w') :
  EG M P n N R X ops k0 h0 AL L Γ w h:=by
 unfold gX at f;simp only[lu,beq_iff_eq] at f;obtain ⟨⟨h1,B⟩,F⟩:=f;intro d hM _ o a C;refine E.fin0 h1 ?_ ?_ d hM o u (H a C)
 ·intro j I z p
  have c:=(i2.1 z).1;have e:I=am ops j:=by have:=bK (ops:=ops) c;rw[z] at this;injection this
  have:=(o0.1 B) j (pa.2 c)
  simp only[po,p,sA,false_or,s9,beq_iff_eq] at this;rcases this with h4|h4
  ·exact .inl h4
  ·refine .inr fun x l=>?_
   have:=(o0.1 h4) x l
   simp only[pR,lu,beq_iff_eq] at this;obtain ⟨y,J,D⟩:=this;rw[e];exact ⟨_,ri J,D⟩
 ·intro x l
  have:=(o0.1 F) x l
  simpa using this
theorem Rg.fin0 (d:gX ops [] L=true)(H:∀ w' c,Up w h w' c->AG M P n N R X ops k0 L Γ w'):EG M P n N R X ops k0 h0 [] L Γ w h:=by
 refine Rg.fin d (by simp) ?_;intro a e w' c u S f _ _;have:S=[]:=by simpa using f.length_eq
 subst this;exact H w' c u a e
theorem Rg.fin1 {x:Al}(d:(gX ops [x] L && decide (x.t<n))=true)
    (H:∀ w' c b,Up w h w' c->Blk h0 w' c (x,b)->AG M P n N R X ops k0 (L.setIfInBounds x.i true) ((x.t,.pointer (some ⟨b,0,none⟩))::Γ) w'):EG M P n N R X ops k0 h0 [x] L Γ w h:=by
  rw[lu,decide_eq_true_eq] at d;refine Rg.fin d.1 (by simp) ?_;intro a f w' c u S e j _;have l:=e.length_eq
  match S,l with
  | [s],_ =>
    have:s.1=x:=by simpa using e
    obtain ⟨y,b⟩:=s
    simp at this;subst this;exact H w' c b u (j _ (by simp)) _ (f.put d.2 _)
theorem Rg.fin2 {x y:Al}(B:(gX ops [x,y] L && decide (x.t<n) && decide (y.t<n) && (x.t != y.t) && (x.i != y.i))=true)
    (H:∀ w' o b c,Up w h w' o->Blk h0 w' o (x,b)->Blk h0 w' o (y,c)->b≠c->AG M P n N R X ops k0 ((L.setIfInBounds y.i true).setIfInBounds x.i true) ((x.t,.pointer (some ⟨b,0,none⟩))::(y.t,.pointer (some ⟨c,0,none⟩))::Γ) w'):EG M P n N R X ops k0 h0 [x,y] L Γ w h:=by
  simp only[lu,decide_eq_true_eq,bne_iff_ne,ne_eq] at B;obtain ⟨⟨⟨⟨B,h1⟩,I⟩,V⟩,D⟩:=B;refine Rg.fin B (by simp[D]) ?_;intro a K w' o u S O C hn;have hl:=O.length_eq
  match S,hl with
  | [s, t],_ =>
    obtain ⟨f,b⟩:=s;obtain ⟨j,c⟩:=t;have z:b≠c:=by simpa using hn
    have Y:f=x/\j=y\/f=y/\j=x:=by
      have l:[f,j].Perm [x,y]:=by simpa using O
      have J:f∈[x,y]:=l.mem_iff.1 (by simp);have m2:x∈[f,j]:=l.mem_iff.2 (by simp);have Q:y∈[f,j]:=l.mem_iff.2 (by simp);have p:x≠y:=fun e=>D (by rw[e])
      simp at J m2 Q
      rcases J with rfl|rfl
      . rcases Q with e|e
        . exact absurd e.symm p
        . exact .inl ⟨rfl,e.symm⟩
      . rcases m2 with e|e
        . exact absurd e p
        . exact .inr ⟨rfl,e.symm⟩
    rcases Y with ⟨rfl,rfl⟩|⟨rfl,rfl⟩
    . exact H w' o b c u (C _ (by simp)) (C _ (by simp)) z _ ((K.put I _).put h1 _)
    . have Z:e7 L [(f,b),(j,c)]=(L.setIfInBounds f.i true).setIfInBounds j.i true:=gq _ _ D
      have U:addA a [(f,b),(j,c)]=(a.put (some f.t) (.pointer (some ⟨b,0,none⟩))).put (some j.t) (.pointer (some ⟨c,0,none⟩)) :=
        Act.put_comm (x:=some j.t) (y:=some f.t) a _ _ (fun d W F=>V (Option.some.inj (W.trans F.symm)))
      rw[Z,U];exact H w' o c b u (C _ (by simp)) (C _ (by simp)) (Ne.symm z) _ ((K.put I _).put h1 _)
def iE (ops:Array Oper)(k0:Nat)(L:Array Bool)(i:Nat):Bool :=
  decide (i<ops.size) && decide (k0<=i) && Region.noSelect ops && (Region.ready .any ops L == [i])
theorem A.one {a:Act}{i:Nat}(c:iE ops k0 L i=true){Q:Exit->Act->World->Prop}{o:Oper}(f:ops[i]?=some o){R':Value->World->Prop}(h:OpR P ops o a w R')(e:∀ v w',R' v w'->Tl M w w')
  (l:∀ v w',R' v w'->A M P ops Q k0 (L.setIfInBounds i true) (a.put o.dst v) w'):A M P ops Q k0 L a w:=by
 unfold iE at c;simp only[lu,decide_eq_true_eq,beq_iff_eq] at c;refine A.intro (fun h0=>by rw[c.2] at h0;cases h0) (fun j d=>?_);rw[c.2,ti] at d
 subst d;exact OpR.wpOp f h (fun v w' hr=>⟨Rl.tl c.1.1.2 (e v w' hr),l v w' hr⟩)
theorem mQ {i:Nat}(a:iE ops k0 L i=true):ops[i]?=some (am ops i)/\Region.noSelect ops=true:=by
 unfold iE at a;simp only[lu,decide_eq_true_eq,beq_iff_eq] at a;exact ⟨bK a.1.1.1,a.1.2⟩
theorem T.val (i t v w')(d:(iE ops k0 L i && bc Γ (am ops i) && ((am ops i).dst == some t) && decide (t<n))=true)(o:bu ops Γ (am ops i)=some true)
  (hr:(execOp (ev Γ) (am ops i)).run P w=.ok (.value v) w')(k:AG M P n N R X ops k0 (L.setIfInBounds i true) ((t,v)::Γ) w')(j:Tl M w w':=by exact Tl.refl _ _):AG M P n N R X ops k0 L Γ w:=by
 simp only[lu,decide_eq_true_eq,beq_iff_eq] at d;obtain ⟨⟨⟨h1,l⟩,p⟩,h⟩:=d;obtain ⟨f,x⟩:=mQ h1;intro a c;refine A.one h1 f (R':=fun u w1=>u=v/\w1=w') ⟨c.want o,.inl ⟨v,w',?_,rfl,rfl⟩⟩ (fun _ _ e=>e.2▸j) ?_
 ·rw[c.exec (Region.noSelect_spec x i _ · · f) l];exact hr
 ·rintro _ _ ⟨rfl,rfl⟩
  rw[p];exact k _ (c.put h _)
theorem T.store (i w')(d:(iE ops k0 L i && bc Γ (am ops i) && ((am ops i).dst == none))=true)(l:bu ops Γ (am ops i)=some true)
  (hr:(execOp (ev Γ) (am ops i)).run P w=.ok .skip w')(h:Tl M w w')(k:AG M P n N R X ops k0 (L.setIfInBounds i true) Γ w'):AG M P n N R X ops k0 L Γ w:=by
 simp only[lu,beq_iff_eq] at d;obtain ⟨⟨h1,j⟩,o⟩:=d;obtain ⟨f,p⟩:=mQ h1;intro a c;refine A.one h1 f (R':=fun u w1=>u=undef/\w1=w') ⟨c.want l,.inr (.inl ⟨w',?_,rfl,rfl⟩)⟩ (fun _ _ e=>e.2▸h) ?_
 ·rw[c.exec (Region.noSelect_spec p i _ · · f) j];exact hr
 ·rintro _ _ ⟨rfl,rfl⟩
  rw[o];exact k _ c
theorem T.done (c:(Region.ready .any ops L).isEmpty=true)(k:∀ a,Kn n a Γ->N a w):AG M P n N R X ops k0 L Γ w :=
 fun a d=>A.done c (k a d)
theorem T.next {y:Code}{N' R':Po}{X':Nat->Po}(c:(Region.ready .any ops L).isEmpty=true)(k:CG P n N' R' X' y Γ w):AG M P n (fun a w=>y.wp P (iy N' R' X') a w) R X ops k0 L Γ w :=
 fun a d=>A.done c (k a d)
end steps
section code
variable {P:Program}{n:Nat}{N R:Po}{X:Nat->Po}{Γ:cC}{w:World}
def mE (ops:Array Oper):Bool:=(o2 ops.size).all fun i=>(am ops i).after.all fun e=>!Region.binds .any e || decide (e.on<i)
theorem qw {M:Ms}{ops:Array Oper}{Q:Exit->Act->World->Prop}{k0:Nat}(p:mE ops=true):∀ (m k:Nat) (L:Array Bool) (a:Act) (w:World),k+m=ops.size->L.size=ops.size ->
    (∀ j,j<ops.size->L.getD j true=decide (j<k))->A M P ops Q k0 L a w->wpOps P ops Q (tj k m) a w:=by
  intro m;induction m with
  | zero =>
    intro k L a w hk u c f;have hz:Region.ready .any ops L=[]:=by
      cases hr:Region.ready .any ops L with
      | nil=>rfl
      | cons i l =>
        have F:i∈Region.ready .any ops L:=by rw[hr];simp
        obtain ⟨h0,o,C,_⟩:=mem_ready.1 F;have hi:=(i2.1 C).1;rw[c i hi] at h0
        simp at h0;omega
    show Q .normal a w
    unfold A at f;cases hn:rem L with
    | zero=>rw[hn] at f;exact f.2
    | succ n=>rw[hn] at f;exact f.1 hz
  | succ m ih =>
    intro k L a w hk u c f;have h:k<ops.size:=by omega
    have d:k∈Region.ready .any ops L:=by
      refine mem_ready.2 ⟨by rw[c k h];simp,am ops k,bK h,fun e H B=>?_⟩;have h1:=(o0.1 p) k (pa.2 h);have y:=(ov.1 h1) e H
      simp only[B,tf,Bool.false_or,decide_eq_true_eq] at y;have x:=c e.on oM;rw[show decide (e.on<k)=true by simp[y]] at x
      have I:e.on<L.size:=by omega
      simp[fo,I] at x ⊢
      exact x
    rw[tv,wpOps_cons];unfold A at f;rw[gi d] at f;refine wpOp_mono (fun J w' D=>?_) (f.2 k d);refine ih (k+1) (L.setIfInBounds k true) J w' oM (by simpa using u) ?_ D.2;intro j z
    by_cases e:k=j
    . subst e
      simp[fo,u,z]
    . rw[getD_set_ne true e,c j z]
      congr 1
      simp only[eq_iff_iff];omega
theorem jQ (m):rem (tw m false)=m:=by unfold rem;simp
theorem n0 {m j:Nat}(a:j<m):(tw m false).getD j true=false:=by simp[fo,a]
theorem CG.region {id:Nat}{ops:Array Oper}{d:Bool}(M:Ms)(k0)(AL:List Al)(y:P.follows .mixedOrders=true)(c:mE ops=true){h:Hp}(g:G w h)(e:∀ x∈AL,AlOk P ops k0 x)(hM:∀ b∈M.l,b<h.size)
    (H:EG M P n N R X ops k0 h AL (tw ops.size false) Γ w h):CG P n N R X (.region id ops d) Γ w:=by
  intro a o;have i:∀ w' f,Up w h w' f->A M P ops (iy N R X) k0 (tw ops.size false) a w':=fun w' f u=>H e hM g (ek _) a o w' f u [] AL (List.Perm.refl _) (fun _ z=>by cases z) (by simp)
  cases d with
  | true =>
    refine wp_region_any y ?_;have h1:=i w.drew h (Up.drew (Up.refl g))
    unfold A at h1;rw[jQ] at h1;exact mI _ _ _ _ _ _ _ _ _ h1
  | false =>
    refine wp_region ?_;rw[tz];exact qw c _ 0 _ a w oM (by simp) (fun j p=>by rw[n0 p];simp) (i w h (Up.refl g))
theorem CG.seq {x y:Code}(H:CG P n (fun a w=>y.wp P (iy N R X) a w) R X x Γ w):CG P n N R X (.seq x y) Γ w:=by
 intro a c;refine wp_seq (wp_mono (H a c) ?_);intro e a w d;cases e<;>exact d
theorem CG.cond {c:Operand}{x y:Code}(t:Bool)(f:i6 Γ c=true)(hv:ev Γ c=.bool t)(h:t=true->CG P n N R X x Γ w)(hf:t=false->CG P n N R X y Γ w):CG P n N R X (.cond c x y) Γ w :=
 fun a d=>wp_cond_split (by rw[d.eval f];exact hv) (fun e=>h e a d) (fun e=>hf e a d)
theorem CG.condT {c:Operand}{x y:Code}(a:i6 Γ c=true)(hv:ev Γ c=.bool true)(d:CG P n N R X x Γ w):CG P n N R X (.cond c x y) Γ w:=CG.cond true a hv (fun _=>d) (fun e=>by cases e)
theorem CG.condF {c:Operand}{x y:Code}(a:i6 Γ c=true)(hv:ev Γ c=.bool false)(d:CG P n N R X y Γ w):CG P n N R X (.cond c x y) Γ w:=CG.cond false a hv (fun e=>by cases e) (fun _=>d)
theorem CG.skip (H:∀ a,Kn n a Γ->N a w):CG P n N R X .skip Γ w:=fun a c=>wp_skip (H a c)
theorem CG.skipN {y:Code}{N' R':Po}{X':Nat->Po}(H:CG P n N' R' X' y Γ w):CG P n (fun a w=>y.wp P (iy N' R' X') a w) R X .skip Γ w:=fun a c=>wp_skip (H a c)
theorem CG.ret (H:∀ a,Kn n a Γ->R a w):CG P n N R X .ret Γ w:=fun a c=>wp_ret (H a c)
theorem CG.exit {id:Nat}(H:∀ a,Kn n a Γ->X id a w):CG P n N R X (.exit id) Γ w:=fun a c=>wp_exit (H a c)
theorem CG.block {id:Nat}{c:Code}(H:CG P n N R (fun i=>if i=id then N else X i) c Γ w):CG P n N R X (.block id c) Γ w:=by
 intro a h;refine wp_block (wp_mono (H a h) ?_);intro e a w f;cases e<;>try exact f
 rename_i i;simp only[iy] at f;simp only[Exit.inBlock,iy];split
 ·rename_i d;rw[if_pos d] at f;exact f
 ·rename_i d;rw[if_neg d] at f;exact f
theorem CG.to {c:Code}(Γ':cC)(e:kM Γ (Γ'.map (·.1))=Γ')(f:gI Γ'=gI Γ)(H:CG P n N R X c Γ' w):CG P n N R X c Γ w :=
 fun a d=>H a (d.mono (fun t v hv=>fZ Γ (Γ'.map (·.1)) t v (by rw[e];exact hv)) f)
theorem Kn.to {a:Act}(k:Kn n a Γ)(Γ':cC)(c:kM Γ (Γ'.map (·.1))=Γ')(d:gI Γ'=gI Γ:=by kernel_rfl):Kn n a Γ' :=
 k.mono (fun t v hv=>fZ Γ (Γ'.map (·.1)) t v (by rw[c];exact hv)) d
theorem CG.loop {c:Code}(I:Nat->cC->World->Prop)(m)(h0:I m Γ w)
    (p:∀ m Γ w,I m Γ w->CG P n (fun a w'=>∃ C j,C<m/\I C j w'/\Kn n a j) R X c Γ w):CG P n N R X (.loop c) Γ w:=by
  intro a H;suffices key:∀ m a w Γ,I m Γ w->Kn n a Γ->∀ (b:Frame) (k:List Item) (cs:List Frame),∃ e D w',iy N R X e D w'/\Arrives P (lone (b.at a (.code c::.inLoop c::k)) cs w) b k cs e D w' by
    intro b k cs;obtain ⟨e,D,w',o,d⟩:=key m a w Γ h0 H b k cs;exact ⟨e,D,w',o,.of_steps (.one step_loop) d⟩
  intro m;induction m using hP with
  | _ m ih =>
    intro a w Γ L H b k cs;obtain ⟨e,f,i,o,d⟩:=p m Γ w L a H b (.inLoop c::k) cs;cases e with
    | normal =>
      obtain ⟨C,j,K,F,J⟩:=o;obtain ⟨y,B,z,u,h⟩:=ih C K f i j F J b k cs;exact ⟨y,B,z,u,.of_steps (Steps.trans d (.one step_inLoop)) h⟩
    | exit id=>exact ⟨.exit id,f,i,o,.pass (x:=.inLoop c) rfl (fun _ _=>.inl (by simp)) d⟩
    | goto l=>exact o.elim
    | ret=>exact ⟨.ret,f,i,o,.pass (x:=.inLoop c) rfl (fun _ _=>.inl (by simp)) d⟩
    | panic ch=>exact o.elim
    | outgrown=>exact o.elim
def envOf (l:List Value):cC:=go 0 l
where go:Nat->List Value->cC
  | _,[]=>[]
  | k,v::l=>(k,v)::go (k+1) l
theorem sa:∀ (l:List Value) (k t:Nat) (v:Value),(envOf.go k l).lookup t=some v->k<=t/\l[t-k]?=some v
  | [],_,_,_,h=>by simp[envOf.go] at h
  | u :: l,k,t,v,h=>by
    rw[envOf.go,i3] at h;by_cases e:t=k
    . subst e;simp at h;subst h;exact ⟨ek _,by simp⟩
    . have c:(t == k)=false:=by simp[e]
      rw[c] at h;obtain ⟨h1,a⟩:=sa l (k+1) t v h;refine ⟨by omega,?_⟩;obtain ⟨d,hd⟩:∃ d,t-k=d+1:=⟨t-k-1,by omega⟩;rw[hd];have:t-(k+1)=d:=by omega
      rw[this] at a;simpa using a
theorem kh {l:List Value}{t:Nat}{v:Value}(h:(envOf l).lookup t=some v):l[t]?=some v:=by
 have:=sa l 0 t v h
 simpa using this.2
def oh (P:Program)(fn:Func)(Ro:Ending->World->Prop):Po:=fun a w=>a.defers=[]/\∃ v,(results fn a.tmps).run P w=.ok v w/\Ro (.returned v) w
theorem enter {f:FuncId}{j:Func}{c:Code}{args:Array Value}{p:Ending->World->Prop}(hf:P.funcs[f]?=some j)(x:j.body=some c)(hn:j.ntmps=n)(y:args.size<=n)(o:n<=1000000)
    (Γ0:cC)(h:Γ0=envOf args.toList)(H:CG P n (oh P j p) (oh P j p) (fun _ _ _=>False) c Γ0 w):Calls P f args w p:=by
  refine calls_of_wp hf x (wp_mono (H _ ⟨?_,?_,o,?_⟩) ?_)
  . show []=gI Γ0
    unfold gI;cases e:Γ0.lookup 1000000 with
    | none=>rfl
    | some v =>
      rw[h] at e;have h1:=kh e;rw[ua (by simp;omega)] at h1
      cases h1
  . simp;omega
  . intro t v _ hv
    rw[h] at hv;have h1:=kh hv;have u:t<args.size:=by
      rcases ea t args.size with hl|hl
      . exact hl
      . rw[ua (by simpa using hl)] at h1;cases h1
    rw[ub u];simpa using h1
  . intro e a w d
    cases e with
    | normal=>exact d
    | ret=>exact d
    | exit i=>exact d.elim
    | goto l=>exact d.elim
    | panic ch=>exact d.elim
    | outgrown=>exact d.elim
def LG (P:Program)(n:Nat)(N R:Po)(X:Nat->Po)(ops:Array Oper)(k:Nat)(Γ:cC)(w:World):Prop :=
  ∀ a,Kn n a Γ->wpOps P ops (iy N R X) (tj k (ops.size-k)) a w
theorem CG.listed {id:Nat}{ops:Array Oper}(H:LG P n N R X ops 0 Γ w):CG P n N R X (.region id ops false) Γ w :=
 fun a c=>wp_region (by rw[tz];exact H a c)
section listed
variable {ops:Array Oper}{k:Nat}
def iu (ops:Array Oper)(Γ:cC)(k:Nat):Bool:=decide (k<ops.size) && Region.noSelect ops && bc Γ (am ops k)
theorem LG.op (c:iu ops Γ k=true)(f:bu ops Γ (am ops k)=some true){R':Value->World->Prop}
  (h:∀ a,Kn n a Γ->OpR P ops (am ops k) a w R')(e:∀ a v w',Kn n a Γ->R' v w'->wpOps P ops (iy N R X) (tj (k+1) (ops.size-(k+1))) (a.put (am ops k).dst v) w'):LG P n N R X ops k Γ w:=by
 unfold iu at c;simp only[lu,decide_eq_true_eq] at c;intro a d;obtain ⟨m,hm⟩:∃ m,ops.size-k=m+1:=⟨ops.size-k-1,by omega⟩;rw[hm,tv,wpOps_cons];refine OpR.wpOp (bK c.1.1) (h a d) (fun v w' hr=>?_);have:=e a v w' d hr;rw[show ops.size-(k+1)=m by omega] at this
 exact this
theorem LG.val (t v w')(e:(iu ops Γ k && ((am ops k).dst == some t) && decide (t<n))=true)(f:bu ops Γ (am ops k)=some true)
  (hr:(execOp (ev Γ) (am ops k)).run P w=.ok (.value v) w')(H:LG P n N R X ops (k+1) ((t,v)::Γ) w'):LG P n N R X ops k Γ w:=by
 simp only[lu,decide_eq_true_eq,beq_iff_eq] at e;obtain ⟨⟨h1,h⟩,i⟩:=e;have c:=h1
 unfold iu at c;simp only[lu,decide_eq_true_eq] at c;refine LG.op h1 f (R':=fun u w1=>u=v/\w1=w') (fun a d=>⟨d.want f,.inl ⟨v,w',?_,rfl,rfl⟩⟩) ?_
 ·rw[d.exec (Region.noSelect_spec c.1.2 k _ · · (bK c.1.1)) c.2];exact hr
 ·rintro a _ _ d ⟨rfl,rfl⟩
  rw[h];exact H _ (d.put i _)
theorem LG.out (t)(c:(decide (k<ops.size) && ((am ops k).dst == some t) && decide (t<n))=true)(f:bu ops Γ (am ops k)=some false)
  (H:LG P n N R X ops (k+1) ((t,undef)::Γ) w):LG P n N R X ops k Γ w:=by
 simp only[lu,decide_eq_true_eq,beq_iff_eq] at c;obtain ⟨⟨h1,e⟩,h⟩:=c;intro a d;obtain ⟨m,hm⟩:∃ m,ops.size-k=m+1:=⟨ops.size-k-1,by omega⟩;rw[hm,tv,wpOps_cons]
 unfold wpOp;simp only[bK h1,d.want f,sA,if_false];have:=H _ (d.put h undef);rw[show ops.size-(k+1)=m by omega] at this
 rw[e];exact this
theorem LG.store (w')(e:(iu ops Γ k && ((am ops k).dst == none))=true)(f:bu ops Γ (am ops k)=some true)
  (hr:(execOp (ev Γ) (am ops k)).run P w=.ok .skip w')(H:LG P n N R X ops (k+1) Γ w'):LG P n N R X ops k Γ w:=by
 simp only[lu,beq_iff_eq] at e;obtain ⟨h1,h⟩:=e;have c:=h1
 unfold iu at c;simp only[lu,decide_eq_true_eq] at c;refine LG.op h1 f (R':=fun u w1=>w1=w') (fun a d=>⟨d.want f,.inr (.inl ⟨w',?_,rfl⟩)⟩) ?_
 ·rw[d.exec (Region.noSelect_spec c.1.2 k _ · · (bK c.1.1)) c.2];exact hr
 ·rintro a _ _ d rfl
  rw[h];exact H _ d
theorem LG.call (t f)(args:Array Value)(i:(iu ops Γ k && ((am ops k).dst == some t) && decide (t<n))=true)(j:bu ops Γ (am ops k)=some true)
  (hr:(execOp (ev Γ) (am ops k)).run P w=.ok (.enter f args) w)(H:Calls P f args w (fun e w'=>∃ v,e=.returned v/\LG P n N R X ops (k+1) ((t,v)::Γ) w')):LG P n N R X ops k Γ w:=by
 simp only[lu,decide_eq_true_eq,beq_iff_eq] at i;obtain ⟨⟨h1,l⟩,o⟩:=i;have c:=h1
 unfold iu at c;simp only[lu,decide_eq_true_eq] at c;refine LG.op h1 j (R':=fun v w'=>LG P n N R X ops (k+1) ((t,v)::Γ) w') (fun a d=>⟨d.want j,.inr (.inr ⟨f,args,?_,H⟩)⟩) ?_
 ·rw[d.exec (Region.noSelect_spec c.1.2 k _ · · (bK c.1.1)) c.2];exact hr
 ·rintro a v w' d h
  rw[l];exact h _ (d.put o _)
theorem LG.done (c:(k == ops.size)=true)(H:∀ a,Kn n a Γ->N a w):LG P n N R X ops k Γ w:=by
 simp only[beq_iff_eq] at c;subst c;intro a d;rw[ue];exact H a d
theorem LG.next {y:Code}{N' R':Po}{X':Nat->Po}(c:(k == ops.size)=true)(H:CG P n N' R' X' y Γ w):LG P n (fun a w=>y.wp P (iy N' R' X') a w) R X ops k Γ w:=LG.done c H
end listed
theorem ao {ops:Array Oper}{k0:Nat}:∀ x∈([]:List Al),AlOk P ops k0 x:=fun _ h=>by cases h
theorem bR {ops:Array Oper}{k0:Nat}{x:Al}{l:List Al}(h:AlOk P ops k0 x)(k:∀ y∈l,AlOk P ops k0 y):∀ y∈x::l,AlOk P ops k0 y:=fun y a=>by
 rcases hC.1 a with rfl|a
 ·exact h
 ·exact k y a
def GI (ops:Array Oper)(k0:Nat)(x:Al):Bool:=decide (x.i<ops.size) && ((am ops x.i).dst == some x.t) && (am ops x.i).guard.isNone && (am ops x.i).after.isEmpty && decide (x.i<k0)
theorem fS {ops:Array Oper}{k0:Nat}{x:Al}(a:GI ops k0 x=true)(hr:∀ (ρ:Operand->Value) (w:World),(execOp ρ (am ops x.i)).run P w=.ok (.value (.pointer (some ⟨w.heap.size,0,none⟩))) (w.alloc x.o)):AlOk P ops k0 x:=by
 unfold GI at a;simp only[lu,decide_eq_true_eq,beq_iff_eq,Option.isNone_iff_eq_none,Array.isEmpty_iff] at a;exact ⟨⟨_,bK a.1.1.1.1,a.1.1.1.2,a.1.1.2,a.1.2,hr⟩,a.2⟩
end code
def cc {α:Type}(P:Program):Sem α->List Value->Option (α × List Addr)
  | .pure a,_=>some (a,[])
  | .load _ a k,v::vs=>(cc P (k v) vs).map fun r=>(r.1,a::r.2)
  | .program k,vs=>cc P (k P) vs
  | .mark _ k,vs=>cc P k vs
  | _,_=>none
theorem db {α:Type}{P:Program}{w:World}:∀ (s:Sem α) (vs:List Value) (r:α) (l:List Addr),cc P s vs=some (r,l) ->
    (∀ (i:Nat) a v,l[i]?=some a->vs[i]?=some v->w.cell? a=some v)->s.run P w=.ok r w:=by
  intro s;induction s with
  | pure a=>intro vs r l h _;simp[cc] at h;simp[Sem.run,h.1]
  | load m a k ih =>
    intro vs r l h c;cases vs with
    | nil=>simp[cc] at h
    | cons v vs =>
      simp only[cc,ul] at h;obtain ⟨⟨j,f⟩,h1,d⟩:=h
      injection d with e1 e2;subst e1;subst e2;have h0:=c 0 a v (by simp) (by simp)
      simp only[Sem.run,h0];exact ih v vs _ _ h1 (fun i e v' ha hv=>c (i+1) e v' (by simpa using ha) (by simpa using hv))
  | program k ih=>intro vs r l h c;exact ih P vs r l h c
  | mark m k ih=>intro vs r l h c;exact ih vs r l h c
  | _=>intro vs r l h _;simp[cc] at h
def d8 {α:Type}(P:Program):Sem α->Option (α × List (Addr × Value))
  | .pure a=>some (a,[])
  | .store _ _ (.agg _) _=>none
  | .store _ _ (.tuple _) _=>none
  | .store _ a v k=>(d8 P k).map fun r=>(r.1,(a,v)::r.2)
  | .program k=>d8 P (k P)
  | .mark _ k=>d8 P k
  | _=>none
structure Put (b:Nat) (w w':World):Prop where
  os:w'.os=w.os
  tape:w'.tape=w.tape
  output:w'.output=w.output
  size:w'.heap.size=w.heap.size
  blk:∀ c,c≠b->w'.heap[c]?=w.heap[c]?
theorem Put.tl {b:Nat}{w w':World}(p:Put b w w'){M:Ms}(hz:∀ K bs,M.z=some (K,bs)->K<=b\/b∈bs):Tl M w w':=fun K bs e=>⟨Nat.le_of_eq p.size.symm,fun c a hn=>p.blk c (fun h=>by
 rcases hz K bs e with h1|h1
 ·omega
 ·exact hn (h▸h1))⟩
theorem Put.refl (b w):Put b w w:=⟨rfl,rfl,rfl,rfl,fun _ _=>rfl⟩
theorem Put.trans {b:Nat}{w1 w2 w3:World}(p:Put b w1 w2)(q:Put b w2 w3):Put b w1 w3 :=
 ⟨q.os.trans p.os,q.tape.trans p.tape,q.output.trans p.output,q.size.trans p.size,fun c a=>(q.blk c a).trans (p.blk c a)⟩
theorem Put.set (w)(p:Addr)(v):Put p.block w (w.setCell p v) :=
 ⟨rfl,rfl,rfl,by simp,fun c a=>Below.heap_setCell _ _ _ _ a⟩
def Own (w:World)(b:Nat)(t:TypeId)(vs:List Value):Prop:=w.heap[b]?=some (.cells vs.toArray t (0,0))
theorem Own.cell {w:World}{b:Nat}{t:TypeId}{vs:List Value}(h:Own w b t vs)(i):w.cell? ⟨b,i,none⟩=vs[i]?:=by
 unfold World.cell?;rw[show w.heap[b]?=_ from h];simp
theorem Own.frozen {w:World}{b:Nat}{t:TypeId}{vs:List Value}(h:Own w b t vs)(i):w.frozen? ⟨b,i,none⟩=false:=by
 unfold World.frozen?;rw[show w.heap[b]?=_ from h];simp
theorem Own.set {w:World}{b:Nat}{t:TypeId}{vs:List Value}(h:Own w b t vs)(i v):Own (w.setCell ⟨b,i,none⟩ v) b t (vs.set i v):=by
 unfold Own World.setCell;simp only[Array.getElem?_modify,if_true,show w.heap[b]?=_ from h,um]
 simp
theorem Own.lt {w:World}{b:Nat}{t:TypeId}{vs:List Value}(h:Own w b t vs):b<w.heap.size:=by
 rcases ea b w.heap.size with hl|hl
 ·exact hl
 ·unfold Own at h;rw[eb hl] at h;cases h
theorem Own.ext {w w':World}{b:Nat}{t:TypeId}{vs:List Value}(h:Own w b t vs)(x:Ext w w'):Own w' b t vs:=(Below.block x b h.lt).trans h
def bZ (vs:List Value)(o:Nat):List Value->List Value
  | []=>vs
  | c::cs=>bZ (vs.set o c) (o+1) cs
def od (b o:Nat):List Value->List (Addr × Value)
  | []=>[]
  | c::cs=>(⟨b,o,none⟩,c)::od b (o+1) cs
theorem gk {α:Type}{P:Program}{b:Nat}{t:TypeId}:∀ (s:Sem α) (r:α) (o:Nat) (cs vs:List Value) (w:World),d8 P s=some (r,od b o cs)->Own w b t vs->o+cs.length<=vs.length ->
    ∃ w',s.run P w=.ok r w'/\Put b w w'/\Own w' b t (bZ vs o cs):=by
  intro s;induction s with
  | pure a =>
    intro r o cs vs w h d _;simp only[d8,Option.some.injEq,Prod.mk.injEq] at h;obtain ⟨h1,f⟩:=h;cases cs with
    | nil=>exact ⟨w,by simp[Sem.run,h1],Put.refl _ _,d⟩
    | cons c cs=>simp[od] at f
  | store m a v k ih =>
    intro r o cs vs w h d i;have B:∃ e,d8 P k=some e/\(e.1,(a,v)::e.2)=(r,od b o cs)/\(∀ l,v≠.agg l)/\∀ l,v≠.tuple l:=by
      cases v<;>simp only[d8,ul] at h<;>first|(obtain ⟨e,h1,f⟩:=h;exact ⟨e,h1,f,by simp,by simp⟩)|cases h
    obtain ⟨⟨e,D⟩,h1,f,z,p⟩:=B
    injection f with e1 e2;cases cs with
    | nil=>simp[od] at e2
    | cons c cs =>
      simp only[od,List.cons.injEq,Prod.mk.injEq] at e2;obtain ⟨⟨x,ev⟩,u⟩:=e2;subst x;subst ev;subst u;subst e1
      simp only[uA] at i;have y:w.cell? ⟨b,o,none⟩=some (vs[o]'oM):=by rw[d.cell,List.getElem?_eq_getElem]
      obtain ⟨w',hr,C,j⟩:=ih _ (o+1) cs (vs.set o v) (w.setCell ⟨b,o,none⟩ v) h1 (d.set o v) (by simp;omega);refine ⟨w',?_,(Put.set w ⟨b,o,none⟩ v).trans C,j⟩
      have:(Sem.store m ⟨b,o,none⟩ v k).run P w=k.run P (w.setCell ⟨b,o,none⟩ v):=by
        cases v<;>first|(simp only[Sem.run,y,d.frozen];rfl)|exact absurd rfl (z _)|exact absurd rfl (p _)
      rw[this];exact hr
  | program k ih=>intro r o cs vs w h d i;exact ih P r o cs vs w h d i
  | mark m k ih=>intro r o cs vs w h d i;exact ih r o cs vs w h d i
  | _=>intro r o cs vs w h _ _;simp[d8] at h
structure Bx where
  b:Nat
  t:TypeId
  vs:List Value
  deriving Inhabited
structure St (w0:World) (h0:Hp) (w:World) (h:Hp) (B:List Bx):Prop where
  up:Up w0 h0 w h
  own:∀ x∈B,Own w x.b x.t x.vs
  jk:∀ x∈B,h[x.b]?=some bp
  lo:∀ x∈B,h0.size<=x.b
  nd:(B.map (·.b)).Nodup
theorem aW {h:Hp}{b:Nat}{o:Obj}(e:h[b]?=some o):b<h.size:=by
 rcases ea b h.size with hl|hl
 ·exact hl
 ·rw[eb hl] at e;cases e
section st
variable {w0:World}{h0:Hp}{w:World}{h:Hp}{B:List Bx}
theorem St.start (g:G w h):St w h w h []:=⟨Up.refl g,fun _ a=>(by cases a),fun _ a=>(by cases a),fun _ a=>(by cases a),by simp⟩
theorem St.step (s:St w0 h0 w h B){w':World}{c:Hp}(u:Up w h w' c):St w0 h0 w' c B :=
 ⟨s.up.trans u,fun x a=>(s.own x a).ext u.ext,fun x a=>(u.gr.blk _ (aW (s.jk x a))).trans (s.jk x a),s.lo,s.nd⟩
theorem St.g (s:St w0 h0 w h B):G w h:=s.up.g
theorem St.sz (s:St w0 h0 w h B):h0.size<=h.size:=s.up.gr.size
theorem St.new {wr:World}{hr:Hp}{B':List Bx}{x:Al}{b:Nat}(l:St w0 h0 wr hr B')(s:St w0 h0 w h B)(hB:∀ y∈B,y.b<hr.size\/y.b≠b)(k:Blk hr w h (x,b))(t vs)(f:x.o=.cells vs.toArray t (0,0)):
  St w0 h0 w h (⟨b,t,vs⟩::B):=by
 obtain ⟨p,k2,c⟩:=k;refine ⟨s.up,?_,?_,?_,?_⟩
 ·intro y a
  rcases hC.1 a with rfl|a
  ·show w.heap[b]?=_
   rw[<-f];exact p
  ·exact s.own y a
 ·intro y a
  rcases hC.1 a with rfl|a
  ·exact k2
  ·exact s.jk y a
 ·intro y a
  rcases hC.1 a with rfl|a
  ·exact ep l.sz c
  ·exact s.lo y a
 ·refine hO.2 ⟨fun j=>?_,s.nd⟩
  obtain ⟨y,a,d⟩:=g3.1 j
  rcases hB y a with hl|hl
  ·have i:y.b=b:=d
   have e:hr.size<=b:=c
   omega
  ·exact hl d
theorem St.new1 {wr:World}{hr:Hp}{x:Al}{b:Nat}(a:St w0 h0 wr hr B)(s:St w0 h0 w h B)(k:Blk hr w h (x,b))(t vs)(c:x.o=.cells vs.toArray t (0,0)):
 St w0 h0 w h (⟨b,t,vs⟩::B):=St.new a s (fun y d=>.inl (aW (a.jk y d))) k t vs c
theorem St.new2 {wr:World}{hr:Hp}{x y:Al}{b c:Nat}(i:St w0 h0 wr hr B)(s:St w0 h0 w h B)(k:Blk hr w h (x,b))(k2:Blk hr w h (y,c))(e:b≠c)(t vs)(j:x.o=.cells vs.toArray t (0,0))(d a)(f:y.o=.cells a.toArray d (0,0)):
  St w0 h0 w h (⟨b,t,vs⟩::⟨c,d,a⟩::B) :=
 St.new i (St.new1 i s k2 d a f) (fun z hz=>by
  rcases hC.1 hz with rfl|hz
  ·exact .inr (Ne.symm e)
  ·exact .inl (aW (i.jk z hz))) k t vs j
def aw (B:List Bx)(j:Nat):Bx:=B.getD j default
def iH (B:List Bx)(j o:Nat)(cs:List Value):List Bx:=B.set j { aw B j with vs:=bZ (aw B j).vs o cs }
theorem bC {j:Nat}(h:j<B.length):aw B j∈B:=by
 unfold aw;have:B.getD j default=B[j]:=by simp[h]
 rw[this];exact gg h
theorem Up.put {b:Nat}{w':World}(u:Up w0 h0 w h)(p:Put b w w')(f:h[b]?=some bp)(d:h0.size<=b)(i:w0.heap.size=h0.size):Up w0 h0 w' h:=by
 refine ⟨⟨p.os.trans u.ext.os,p.tape.trans u.ext.tape,p.output.trans u.ext.output,by rw[p.size];exact u.ext.size,fun c a=>?_⟩,u.gr,⟨by rw[p.size];exact u.g.size,fun c=>?_⟩⟩
 ·rw[p.blk c oM]
  exact Below.block u.ext c a
 ·by_cases e:c=b
  ·subst e;exact .inr f
  ·rw[p.blk c e];exact u.g.blk c
theorem St.put (s:St w0 h0 w h B)(H:G w0 h0){j o:Nat}{cs:List Value}{w':World}(f:j<B.length)(p:Put (aw B j).b w w')(I:Own w' (aw B j).b (aw B j).t (bZ (aw B j).vs o cs)):St w0 h0 w' h (iH B j o cs):=by
  have F:=bC f;have a:(iH B j o cs).map (·.b)=B.map (·.b):=by
    unfold iH;rw[u9];apply va
    intro i;by_cases e:j=i
    . subst e
      rw[vb (by simpa using f)]
      simp[aw,f]
    . rw[vi e]
  refine ⟨s.up.put p (s.jk _ F) (s.lo _ F) H.size,?_,?_,?_,by rw[a];exact s.nd⟩
  . intro x d
    obtain ⟨i,hi,c⟩:=vj.1 d;have l:i<B.length:=by simpa [iH] using hi
    by_cases e:j=i
    . subst e
      have:x={ aw B j with vs:=bZ (aw B j).vs o cs }:=by rw[<-c];simp[iH]
      subst this;exact I
    . have u:x=B[i]:=by rw[<-c];simp[iH,e]
      subst u;have z:B[i].b≠(aw B j).b:=by
        intro C;have h1:(B.map (·.b))[i]'(by simpa using l)=(B.map (·.b))[j]'(by simpa using f):=by
          simp only[vl];rw[C];simp[aw,f]
        exact e ((v6 s.nd).1 h1).symm
      show w'.heap[B[i].b]?=_
      rw[p.blk _ z];exact s.own _ (gg l)
  . intro x d
    have:x.b∈(iH B j o cs).map (·.b):=g3.2 ⟨x,d,rfl⟩;rw[a] at this
    obtain ⟨y,D,c⟩:=g3.1 this;rw[<-c];exact s.jk y D
  . intro x d
    have:x.b∈(iH B j o cs).map (·.b):=g3.2 ⟨x,d,rfl⟩;rw[a] at this
    obtain ⟨y,D,c⟩:=g3.1 this;rw[<-c];exact s.lo y D
def mn (b o:Nat):Nat->List Addr
  | 0=>[]
  | n+1=>⟨b,o,none⟩::mn b (o+1) n
theorem fG (b):∀ (n o i:Nat) (a:Addr),(mn b o n)[i]?=some a->a=⟨b,o+i,none⟩
  | 0,_,_,_,h=>by simp[mn] at h
  | n+1,o,0,a,h=>by simp[mn] at h;rw[<-h];rfl
  | n+1,o,i+1,a,h=>by
    have:=fG b n (o+1) i a (by simpa [mn] using h);rw[this];congr 1;omega
def dY (B:List Bx):List (Nat × Nat × Nat)->List Value
  | []=>[]
  | p::ps=>((aw B p.1).vs.drop p.2.1).take p.2.2++dY B ps
def cJ (B:List Bx):List (Nat × Nat × Nat)->List Addr
  | []=>[]
  | p::ps=>mn (aw B p.1).b p.2.1 p.2.2++cJ B ps
def dt (B:List Bx)(ps:List (Nat × Nat × Nat)):Bool:=ps.all fun p=>decide (p.1<B.length) && decide (p.2.1+p.2.2<=(aw B p.1).vs.length)
theorem jw (b o n):(mn b o n).length=n:=by
 induction n generalizing o with
 | zero=>rfl
 | succ n ih=>simp[mn,ih]
theorem fc (d:∀ x∈B,Own w x.b x.t x.vs):∀ (ps:List (Nat × Nat × Nat)),dt B ps=true->∀ (i:Nat) a v,(cJ B ps)[i]?=some a->(dY B ps)[i]?=some v->w.cell? a=some v
  | [],_,i,a,v,h,_=>by simp[cJ] at h
  | p :: ps,hok,i,a,v,ha,hv=>by
    unfold dt at hok;rw[wi,lu] at hok;obtain ⟨h1,e⟩:=hok
    simp only[lu,decide_eq_true_eq] at h1;have c:(((aw B p.1).vs.drop p.2.1).take p.2.2).length=p.2.2:=by simp;omega
    unfold cJ at ha;unfold dY at hv;rcases ea i p.2.2 with hl|hl
    . rw[wj (by rw[jw];exact hl)] at ha
      rw[wj (by rw[c];exact hl)] at hv
      rw[fG _ _ _ _ _ ha,(d _ (bC h1.1)).cell];rw[yh hl,yy] at hv
      exact hv
    . rw[yz (by rw[jw];exact hl),jw] at ha
      rw[yz (by rw[c];exact hl),c] at hv
      exact fc d ps e _ a v ha hv
theorem Own.mo {w w':World}{b:Nat}{t:TypeId}{vs:List Value}{M:List Nat}(h:Own w b t vs)(x:Mo M w w')(a:b ∉ M):Own w' b t vs:=(x.blk b h.lt a).trans h
theorem it {M:List Nat}{d:List (Nat × Nat × Nat)}(hM:∀ p∈d,(aw B p.1).b ∉ M)(e:∀ x∈B,x.b ∉ M->Own w x.b x.t x.vs):∀ (ps:List (Nat × Nat × Nat)),(∀ p∈ps,p∈d)->dt B ps=true->∀ (i:Nat) a v,(cJ B ps)[i]?=some a->(dY B ps)[i]?=some v->w.cell? a=some v
  | [],_,_,i,a,v,h,_=>by simp[cJ] at h
  | p :: ps,hsub,hok,i,a,v,ha,hv=>by
    unfold dt at hok;rw[wi,lu] at hok;obtain ⟨h1,f⟩:=hok
    simp only[lu,decide_eq_true_eq] at h1;have c:(((aw B p.1).vs.drop p.2.1).take p.2.2).length=p.2.2:=by simp;omega
    unfold cJ at ha;unfold dY at hv;rcases ea i p.2.2 with hl|hl
    . rw[wj (by rw[jw];exact hl)] at ha
      rw[wj (by rw[c];exact hl)] at hv
      rw[fG _ _ _ _ _ ha,(e _ (bC h1.1) (hM p (hsub p (by simp)))).cell];rw[yh hl,yy] at hv
      exact hv
    . rw[yz (by rw[jw];exact hl),jw] at ha
      rw[yz (by rw[c];exact hl),c] at hv
      exact it hM e ps (fun q j=>hsub q (by simp[j])) f _ a v ha hv
end st
section own
variable {M:Ms}{P:Program}{n:Nat}{N R:Po}{X:Nat->Po}{ops:Array Oper}{k0:Nat}{hr:Hp}{AL:List Al}{L:Array Bool}{Γ:cC}{w:World}{h:Hp}{w0:World}{h0:Hp}{B:List Bx}
theorem Rg.own (i t)(ps:List (Nat × Nat × Nat))(v)(s:St w0 h0 w h B)(c:(em n ops k0 AL L i t && bc Γ (am ops i) && ju ops k0 i)=true)(f:bu ops Γ (am ops i)=some true)
  (hM:∀ p∈ps,(aw B p.1).b ∉ M.l)(e:dt B ps=true)(j:cc P (execOp (ev Γ) (am ops i)) (dY B ps)=some (.value v,cJ B ps))
  (k:EG M P n N R X ops k0 hr AL (L.setIfInBounds i true) ((t,v)::Γ) w h):EG M P n N R X ops k0 hr AL L Γ w h :=
 Rg.load i t v c f (fun w' o=>db _ _ _ _ j (it hM (fun x d a=>(s.own x d).mo o a) ps (fun _ h=>h) e)) k
theorem T.put (i j o cs)(s:St w0 h0 w h B)(p:G w0 h0)(l:(iE ops k0 L i && bc Γ (am ops i) && ((am ops i).dst == none))=true)(u:bu ops Γ (am ops i)=some true)
  (f:(decide (j<B.length) && decide (o+cs.length<=(aw B j).vs.length))=true)(x:d8 P (execOp (ev Γ) (am ops i))=some (.skip,od (aw B j).b o cs))
  (k:∀ w',Put (aw B j).b w w'->St w0 h0 w' h (iH B j o cs)->AG M P n N R X ops k0 (L.setIfInBounds i true) Γ w')(hz:∀ K bs,M.z=some (K,bs)->K<=(aw B j).b\/(aw B j).b∈bs:=by intro _ _ e;cases e):AG M P n N R X ops k0 L Γ w:=by
 simp only[lu,decide_eq_true_eq] at f;obtain ⟨w',c,a,d⟩:=gk _ _ _ _ _ w x (s.own _ (bC f.1)) f.2;exact T.store i w' l u c (a.tl hz) (k w' a (s.put p f.1 a d))
theorem LG.own {k:Nat}(t)(ps:List (Nat × Nat × Nat))(v)(s:St w0 h0 w h B)(a:(iu ops Γ k && ((am ops k).dst == some t) && decide (t<n))=true)(d:bu ops Γ (am ops k)=some true)
  (c:dt B ps=true)(e:cc P (execOp (ev Γ) (am ops k)) (dY B ps)=some (.value v,cJ B ps))
  (H:LG P n N R X ops (k+1) ((t,v)::Γ) w):LG P n N R X ops k Γ w :=
 LG.val t v w a d (db _ _ _ _ e (fc s.own ps c)) H
theorem LG.put {k:Nat}(j o cs)(s:St w0 h0 w h B)(i:G w0 h0)(f:(iu ops Γ k && ((am ops k).dst == none))=true)(l:bu ops Γ (am ops k)=some true)
  (e:(decide (j<B.length) && decide (o+cs.length<=(aw B j).vs.length))=true)(p:d8 P (execOp (ev Γ) (am ops k))=some (.skip,od (aw B j).b o cs))
  (H:∀ w',Put (aw B j).b w w'->St w0 h0 w' h (iH B j o cs)->LG P n N R X ops (k+1) Γ w'):LG P n N R X ops k Γ w:=by
 simp only[lu,decide_eq_true_eq] at e;obtain ⟨w',c,a,d⟩:=gk _ _ _ _ _ w p (s.own _ (bC e.1)) e.2;exact LG.store w' f l c (H w' a (s.put i e.1 a d))
theorem LG.var {k:Nat}(t ty vs)(s:St w0 h0 w h B)(a:(iu ops Γ k && ((am ops k).dst == some t) && decide (t<n))=true)(c:bu ops Γ (am ops k)=some true)
  (hr:(execOp (ev Γ) (am ops k)).run P w=.ok (.value (.pointer (some ⟨w.heap.size,0,none⟩))) (w.alloc (.cells vs.toArray ty (0,0))))
  (H:∀ b w' h',h.size<=b->Up w h w' h'->St w0 h0 w' h' (⟨b,ty,vs⟩::B)->LG P n N R X ops (k+1) ((t,.pointer (some ⟨b,0,none⟩))::Γ) w'):LG P n N R X ops k Γ w:=by
 have u:Up w h (w.alloc (.cells vs.toArray ty (0,0))) (h.push bp):=Up.allocAny s.g _ _ (.inr rfl);refine LG.val t _ _ a c hr (H _ _ _ (by rw[s.g.size];exact ek _) u (St.new1 (x:=⟨0,0,.cells vs.toArray ty (0,0)⟩) s (s.step u) ⟨?_,?_,?_⟩ ty vs rfl))
 ·rw[heap_alloc];exact e6
 ·rw[s.g.size];exact e6
 ·show h.size<=w.heap.size;rw[s.g.size];exact ek _
def pK (fn:Func)(Γ:cC):Sem Value:=do
  let vs <-fn.results.mapM fun
    | .tmp t=>Pure.pure (ev Γ (.tmp t))
    | .cell a t=>do loadVar t (<-asAddr (ev Γ (.tmp a)))
  Pure.pure (if h:vs.size=1 then vs[0] else .tuple vs)
def Ke (fn:Func)(Γ:cC):Bool:=fn.results.all fun|.tmp t=>i6 Γ (.tmp t)|.cell a _=>i6 Γ (.tmp a)
def ot (fn:Func)(Γ:cC):Bool:=(gI Γ).isEmpty && Ke fn Γ
theorem pj {a:Func}{Γ:cC}(h:ot a Γ=true):gI Γ=[]:=by
 unfold ot at h;rw[lu] at h;exact List.isEmpty_iff.1 h.1
theorem sE {α β:Type}(l:List α)(f g:α->Sem β)(h:∀ x∈l,f x=g x):l.mapM f=l.mapM g:=by
 induction l with
 | nil=>rfl
 | cons a l ih=>rw[yY,yY,h a (by simp),ih (fun x c=>h x (by simp[c]))]
theorem pQ {c:Func}{a:Act}(d:Kn n a Γ)(hk:Ke c Γ=true):results c a.tmps=pK c Γ:=by
 unfold results pK;have e:∀ x∈c.results.toList,((match x with|.tmp t=>Pure.pure (a.tmps.getD t undef)|.cell ad t=>(do loadVar t (<-asAddr (a.tmps.getD ad undef)))):Sem Value)=((match x with|.tmp t=>Pure.pure (ev Γ (.tmp t))|.cell ad t=>(do loadVar t (<-asAddr (ev Γ (.tmp ad))))):Sem Value):=by
  intro x f;have h1:=(ov.1 hk) x (by simpa using f);cases x with
  | tmp t=>have:=d.eval h1;simp only[Act.eval] at this;simp only[this]
  | cell ad t=>have:=d.eval h1;simp only[Act.eval] at this;simp only[this]
 rw[yZ,yZ];congr 2
 exact sE _ _ _ e
theorem jf {c:Func}{a:Act}(d:Kn n a Γ)(hk:ot c Γ=true):results c a.tmps=pK c Γ :=
 pQ d (by unfold ot at hk;rw[lu] at hk;exact hk.2)
def Ret (w0:World)(h0:Hp)(Φ:Value->Hp->Prop):Ending->World->Prop:=fun e w'=>∃ v h',e=.returned v/\Up w0 h0 w' h'/\Φ v h'
theorem L5 {c:Func}{Φ:Value->Hp->Prop}(s:St w0 h0 w h B)(ps:List (Nat × Nat × Nat))(v)(hk:(ot c Γ && dt B ps)=true)(f:cc P (pK c Γ) (dY B ps)=some (v,cJ B ps))(d:Φ v h):
  ∀ a,Kn n a Γ->oh P c (Ret w0 h0 Φ) a w:=by
 intro a e;rw[lu] at hk;refine ⟨e.df.trans (pj hk.1),v,?_,v,h,rfl,s.up,d⟩;rw[jf e hk.1];exact db _ _ _ _ f (fc s.own ps hk.2)
end own
abbrev CV (f:FuncId)(a:Array Value)(w:World)(h:Hp)(x:Value):Prop:=Calls Tryz.prog f a w (Ret w h fun v _=>v=x)
abbrev CR (f:FuncId)(a:Array Value)(w:World)(h:Hp)(Φ:Value->Hp->Prop):Prop:=Calls Tryz.prog f a w (Ret w h Φ)
def eF (h:Hp)(b i:Nat):Option Value :=
  match h[b]? with
  | some (.cells c _ _)=>c[i]?
  | _=>none
structure Gw (h h':Hp):Prop where
  size:h.size<=h'.size
  blk:∀ b:Nat,b<h.size->h'[b]?=h[b]?\/h[b]?=some bp
theorem Gr.gw {h a:Hp}(u:Gr h a):Gw h a:=⟨u.size,fun b c=>.inl (u.blk b c)⟩
theorem C2 {h a:Hp}(u:Gw h a){b i:Nat}{v:Value}(e:eF h b i=some v):eF a b i=some v:=by
  unfold eF at *;cases c:h[b]? with
  | none=>rw[c] at e;cases e
  | some o =>
    rcases u.blk b (aW c) with h1|h1
    . rw[h1];exact e
    . rw[h1] at e;simp[bp] at e
theorem mD {w:World}{h:Hp}(g:G w h){b i:Nat}{v:Value}(e:eF h b i=some v):w.cell? ⟨b,i,none⟩=some v:=by
 unfold eF at e;rcases g.blk b with h1|h1
 ·unfold World.cell?
  rw[<-h1];cases a:h[b]? with
  | none=>rw[a] at e;cases e
  | some o=>rw[a] at e;cases o<;>simp at e ⊢ <;> exact e
 ·rw[h1] at e;simp[bp] at e
def Seg (h:Hp)(b o:Nat)(cs:List Value):Prop:=∀ (i:Nat) (v:Value),cs[i]?=some v->eF h b (o+i)=some v
theorem Seg.gw {h a:Hp}{b o:Nat}{cs:List Value}(s:Seg h b o cs)(u:Gw h a):Seg a b o cs:=fun i v hv=>C2 u (s i v hv)
theorem Bu {M:List Nat}{w w':World}{h:Hp}(g:G w h)(x:Mo M w w')(hM:∀ b∈M,h[b]?=some bp){b i:Nat}{v:Value}(e:eF h b i=some v):w'.cell? ⟨b,i,none⟩=some v:=by
 have f:b ∉ M:=fun j=>by
  unfold eF at e;rw[hM b j] at e;simp[bp] at e
 have d:=mD g e;have c:b<w.heap.size:=by
  rcases ea b w.heap.size with c|c
  ·exact c
  ·unfold World.cell? at d;rw[eb c] at d;cases d
 rw[World.cell?_of_block (w:=w) (a:=⟨b,i,none⟩) (x.blk b c f)];exact d
theorem Seg.runM {α:Type}{M:List Nat}{P:Program}{w w':World}{h:Hp}{b o:Nat}{cs:List Value}{s:Sem α}{r:α}(d:Seg h b o cs)(g:G w h)(hM:∀ b∈M,h[b]?=some bp)(x:Mo M w w')(c:cc P s cs=some (r,mn b o cs.length)):s.run P w'=.ok r w' :=
 db _ _ _ _ c (fun i a v ha hv=>by rw[fG _ _ _ _ _ ha];exact Bu g x hM (d i v hv))
theorem Seg.run {α:Type}{P:Program}{w w':World}{h:Hp}{b o:Nat}{cs:List Value}{s:Sem α}{r:α}(d:Seg h b o cs)(g:G w h)(x:Ext w w')(c:cc P s cs=some (r,mn b o cs.length)):s.run P w'=.ok r w' :=
 db _ _ _ _ c (fun i a v ha hv=>by rw[fG _ _ _ _ _ ha];exact x.some (mD g (d i v hv)))
theorem Seg.part {h:Hp}{b o:Nat}{cs:List Value}(s:Seg h b o cs)(j n):Seg h b (o+j) ((cs.drop j).take n):=fun i v hv=>by
 have hi:i<n:=by
  rcases ea i n with hl|hl
  ·exact hl
  ·rw[ua (by simp;omega)] at hv;cases hv
 rw[yh hi,yy] at hv;rw[y3];exact s (j+i) v hv
def aB (A:Z9):Nat:=match A with|some a=>a.block|none=>0
def aO (A:Z9):Nat:=match A with|some a=>a.off|none=>0
structure SlO {α:Type} (sz:Nat) (f:α->List Value) (d:α) (h:Hp) (A:Z9) (l:List α):Prop where
  ok:0<l.length->A=some ⟨aB A,aO A,none⟩
  el:∀ k,k<l.length->Seg h (aB A) (aO A+k*sz) (f (l.getD k d))
theorem SlO.gw {α:Type}{sz:Nat}{f:α->List Value}{d:α}{h a:Hp}{A:Z9}{l:List α}(s:SlO sz f d h A l)(u:Gw h a):SlO sz f d a A l:=⟨s.ok,fun k hk=>(s.el k hk).gw u⟩
theorem SlO.nil {α:Type}{sz:Nat}{f:α->List Value}{d:α}{h:Hp}{A:Z9}:SlO sz f d h A []:=⟨fun h=>by simp at h,fun k hk=>by simp at hk⟩
def SlV {α:Type}(sz:Nat)(f:α->List Value)(d:α)(h:Hp)(v:Value)(l:List α):Prop :=
  ∃ A cap,v=.slice A l.length cap/\l.length<=cap/\SlO sz f d h A l
theorem SlV.gw {α:Type}{sz:Nat}{f:α->List Value}{d:α}{h c:Hp}{v:Value}{l:List α}(s:SlV sz f d h v l)(u:Gw h c):SlV sz f d c v l:=by
 obtain ⟨A,a,e,i,so⟩:=s;exact ⟨A,a,e,i,so.gw u⟩
theorem SlO.of_flat {α:Type}{sz:Nat}{f:α->List Value}{d:α}{h:Hp}{b o:Nat}{l:List α}(hf:∀ x,(f x).length=sz)(s:Seg h b o (l.flatMap f)):SlO sz f d h (some ⟨b,o,none⟩) l:=by
  refine ⟨fun _=>rfl,?_⟩
  induction l generalizing o with
  | nil=>intro k hk;simp at hk
  | cons x l ih =>
    intro k hk;cases k with
    | zero =>
      have:=s.part 0 sz
      simp only[y4,y5,y6] at this;rw[y7 (by rw[hf];exact ek _),<-hf x,y8] at this
      simpa [aB,aO] using this
    | succ k =>
      have a:Seg h b (o+sz) (l.flatMap f):=fun i v hv=>by
        have:=s (sz+i) v (by rw[y4,yz (by rw[hf];omega),hf];simpa using hv)
        rwa [<-y3] at this
      have:=ih a k (by simpa using hk)
      simp only[aB,aO,y9] at this ⊢
      rw[zh,zy (k*sz) sz,<-y3];exact this
theorem Seg.new {h:Hp}(cs ty):Seg (h.push (.cells cs.toArray ty (0,0))) h.size 0 cs:=fun i v hv=>by
 unfold eF;rw[e6];simpa using hv
theorem cn {α:Type}{f:α->List Value}{sz:Nat}(hf:∀ x,(f x).length=sz)(l:List α):(l.flatMap f).length=l.length*sz:=by
 induction l with
 | nil=>simp
 | cons x l ih=>simp only[y4,zY,ih,hf,uA,zh];omega
theorem gj {α:Type}{f:α->List Value}{sz:Nat}(hf:∀ x,(f x).length=sz)(d:α):∀ (l:List α) (k:Nat),k<l.length->((l.flatMap f).drop (k*sz)).take sz=f (l.getD k d)
  | [],k,h=>by simp at h
  | x::l,0,h=>by
    simp only[y4,zZ,y6,List.getD_cons_zero];rw[y7 (by rw[hf];exact ek _),<-hf x,y8]
  | x::l,k+1,h=>by
    simp only[y4,y9];rw[zh,List.drop_append,hf,show k*sz+sz-sz=k*sz by omega,List.drop_eq_nil_of_le (by rw[hf];omega),List.nil_append];exact gj hf d l k (by simpa using h)
theorem ip (cs):∀ (a b:List Value) (o:Nat),bZ (a++b) (a.length+o) cs=a++bZ b o cs:=by
  induction cs with
  | nil=>intro a b o;rfl
  | cons c cs ih =>
    intro a b o;show bZ ((a++b).set (a.length+o) c) (a.length+o+1) cs=a++bZ (b.set o c) (o+1) cs
    rw[List.set_append_right _ _ oM,show a.length+o-a.length=o by omega,y3];exact ih a (b.set o c) (o+1)
theorem kz:∀ (cs a b:List Value),a.length=cs.length->bZ (a++b) 0 cs=cs++b:=by
  intro cs;induction cs with
  | nil=>intro a b h;have:a=[]:=z1 (by simpa using h);subst this;rfl
  | cons c cs ih =>
    intro a b h;cases a with
    | nil=>simp at h
    | cons y a =>
      show bZ (c::(a++b)) (0+1) cs=c::(cs++b)
      have:=ip cs [c] (a++b) 0
      simp only[List.length_singleton,List.singleton_append] at this;rw[show 0+1=1+0 by omega,this,ih a b (by simpa using h)]
theorem j5 {α:Type}{f:α->List Value}{sz:Nat}(hf:∀ x,(f x).length=sz):∀ (l:List α) (k:Nat) (x:α),k<l.length->bZ (l.flatMap f) (k*sz) (f x)=(l.set k x).flatMap f
  | [],k,x,h=>by simp at h
  | y::l,0,x,h=>by
    simp only[y4,zZ,List.set_cons_zero];exact kz _ _ _ (by rw[hf,hf])
  | y::l,k+1,x,h=>by
    simp only[y4,z2];rw[zh,zy,<-hf y,ip,hf y,j5 hf l k x (by simpa using h)]
section rows
variable {M:Ms}{P:Program}{n:Nat}{N R:Po}{X:Nat->Po}{ops:Array Oper}{k0:Nat}{hr:Hp}{AL:List Al}{L:Array Bool}{Γ:cC}{w:World}{h:Hp}
theorem LG.row {k:Nat}(t ty m cs)(g:G w h)(c:(iu ops Γ k && ((am ops k).dst == some t) && decide (t<n))=true)(d:bu ops Γ (am ops k)=some true)
  (a:(execOp (ev Γ) (am ops k)).run P w=.ok (.value (.slice (some ⟨w.heap.size,0,none⟩) m m)) (w.alloc (.cells cs.toArray ty (0,0))))
  (H:∀ b w' h',Up w h w' h'->Seg h' b 0 cs->LG P n N R X ops (k+1) ((t,.slice (some ⟨b,0,none⟩) m m)::Γ) w'):LG P n N R X ops k Γ w :=
 LG.val t _ _ c d a (H _ _ _ (Up.allocAny g _ _ (.inl rfl)) (by rw[g.size];exact Seg.new cs ty))
theorem Rg.row (i t ty m cs)(d:(oP n ops k0 AL L i t && bc Γ (am ops i))=true)(e:bu ops Γ (am ops i)=some true)
  (a:∀ w,(execOp (ev Γ) (am ops i)).run P w=.ok (.value (.slice (some ⟨w.heap.size,0,none⟩) m m)) (w.alloc (.cells cs.toArray ty (0,0))))
  (H:∀ b w' c,Up w h w' c->Seg c b 0 cs->EG M P n N R X ops k0 hr AL (L.setIfInBounds i true) ((t,.slice (some ⟨b,0,none⟩) m m)::Γ) w' c):EG M P n N R X ops k0 hr AL L Γ w h :=
 Rg.event i t d e (fun w' c u=>.inl ⟨_,_,_,a w',(Up.allocAny u.g _ _ (.inl rfl)).m M.l,H _ _ _ (u.trans (Up.allocAny u.g _ _ (.inl rfl))) (by rw[u.g.size];exact Seg.new cs ty)⟩)
theorem Rg.ownA {w0:World}{h0:Hp}{B:List Bx}{α:Type}(i t j)(l:List α)(f:α->List Value)(sz)(d:α)(e v)(s:St w0 h0 w h B)(p:(em n ops k0 AL L i t && bc Γ (am ops i) && ju ops k0 i)=true)(y:bu ops Γ (am ops i)=some true)
  (o:(aw B j).b ∉ M.l)(D:decide (j<B.length)=true)(hB:(aw B j).vs=l.flatMap f)(hf:∀ x,(f x).length=sz)(hk:e<l.length)
  (F:cc P (execOp (ev Γ) (am ops i)) (f (l.getD e d))=some (.value v,mn (aw B j).b (0+e*sz) (f (l.getD e d)).length))
  (k:EG M P n N R X ops k0 hr AL (L.setIfInBounds i true) ((t,v)::Γ) w h):EG M P n N R X ops k0 hr AL L Γ w h :=
 Rg.load i t v p y (fun w' C=>db _ _ _ _ F (fun q a u ha c=>by
  rw[fG _ _ _ _ _ ha,((s.own _ (bC (oT D))).mo C o).cell,hB];rw[<-gj hf d l e hk] at c
  have z:q<sz:=by
   rcases ea q sz with hl|hl
   ·exact hl
   ·rw[ua (by simp;omega)] at c;cases c
  rw[yh z,yy] at c;rw[z6];exact c)) k
theorem LG.ownA {w0:World}{h0:Hp}{B:List Bx}{α:Type}{k:Nat}(t j)(l:List α)(f:α->List Value)(sz)(d:α)(e v)(s:St w0 h0 w h B)(i:(iu ops Γ k && ((am ops k).dst == some t) && decide (t<n))=true)(o:bu ops Γ (am ops k)=some true)
  (y:decide (j<B.length)=true)(hB:(aw B j).vs=l.flatMap f)(hf:∀ x,(f x).length=sz)(hk:e<l.length)
  (z:cc P (execOp (ev Γ) (am ops k)) (f (l.getD e d))=some (.value v,mn (aw B j).b (0+e*sz) (f (l.getD e d)).length))
  (H:LG P n N R X ops (k+1) ((t,v)::Γ) w):LG P n N R X ops k Γ w :=
 LG.val t v w i o (db _ _ _ _ z (fun q a u ha c=>by
  rw[fG _ _ _ _ _ ha,(s.own _ (bC (oT y))).cell,hB];rw[<-gj hf d l e hk] at c
  have p:q<sz:=by
   rcases ea q sz with hl|hl
   ·exact hl
   ·rw[ua (by simp;omega)] at c;cases c
  rw[yh p,yy] at c;rw[z6];exact c)) H
theorem LG.arr {w0:World}{h0:Hp}{B:List Bx}{k:Nat}(t ty m vs)(s:St w0 h0 w h B)(c:(iu ops Γ k && ((am ops k).dst == some t) && decide (t<n))=true)(d:bu ops Γ (am ops k)=some true)
  (a:(execOp (ev Γ) (am ops k)).run P w=.ok (.value (.slice (some ⟨w.heap.size,0,none⟩) m m)) (w.alloc (.cells vs.toArray ty (0,0))))
  (H:∀ b w' h',h.size<=b->Up w h w' h'->St w0 h0 w' h' (⟨b,ty,vs⟩::B)->LG P n N R X ops (k+1) ((t,.slice (some ⟨b,0,none⟩) m m)::Γ) w'):LG P n N R X ops k Γ w:=by
 have u:Up w h (w.alloc (.cells vs.toArray ty (0,0))) (h.push bp):=Up.allocAny s.g _ _ (.inr rfl);refine LG.val t _ _ c d a (H _ _ _ (by rw[s.g.size];exact ek _) u (St.new1 (x:=⟨0,0,.cells vs.toArray ty (0,0)⟩) s (s.step u) ⟨?_,?_,?_⟩ ty vs rfl))
 ·rw[heap_alloc];exact e6
 ·rw[s.g.size];exact e6
 ·show h.size<=w.heap.size;rw[s.g.size];exact ek _
def iP (B:List Bx)(j:Nat)(vs:List Value):List Bx:=B.set j { aw B j with vs:=vs }
theorem LG.putA {w0:World}{h0:Hp}{B:List Bx}{α:Type}{k:Nat}(j)(l:List α)(f:α->List Value)(sz e)(x:α)(s:St w0 h0 w h B)(y:G w0 h0)(u:(iu ops Γ k && ((am ops k).dst == none))=true)(z:bu ops Γ (am ops k)=some true)
  (C:decide (j<B.length)=true)(hB:(aw B j).vs=l.flatMap f)(hf:∀ x,(f x).length=sz)(hk:e<l.length)
  (D:d8 P (execOp (ev Γ) (am ops k))=some (.skip,od (aw B j).b (0+e*sz) (f x)))
  (H:∀ w',Put (aw B j).b w w'->St w0 h0 w' h (iP B j ((l.set e x).flatMap f))->LG P n N R X ops (k+1) Γ w'):LG P n N R X ops k Γ w:=by
 have d:=oT C;have p:(0+e*sz)+(f x).length<=(aw B j).vs.length:=by
  rw[hB,cn hf,hf,z6,<-zh];exact z7 _ hk
 obtain ⟨w',i,a,o⟩:=gk _ _ _ _ _ w D (s.own _ (bC d)) p;have c:=s.put y d a o;refine LG.store w' u z i (H w' a ?_)
 unfold iH at c;rw[hB,z6,j5 hf l e x hk] at c;exact c
theorem T.putA {w0:World}{h0:Hp}{B:List Bx}{α:Type}(i j)(l:List α)(f:α->List Value)(sz e)(x:α)(s:St w0 h0 w h B)(C:G w0 h0)(y:(iE ops k0 L i && bc Γ (am ops i) && ((am ops i).dst == none))=true)(D:bu ops Γ (am ops i)=some true)
  (F:decide (j<B.length)=true)(hB:(aw B j).vs=l.flatMap f)(hf:∀ x,(f x).length=sz)(hk:e<l.length)
  (I:d8 P (execOp (ev Γ) (am ops i))=some (.skip,od (aw B j).b (0+e*sz) (f x)))
  (H:∀ w',Put (aw B j).b w w'->St w0 h0 w' h (iP B j ((l.set e x).flatMap f))->AG M P n N R X ops k0 (L.setIfInBounds i true) Γ w')(hz:∀ K bs,M.z=some (K,bs)->K<=(aw B j).b\/(aw B j).b∈bs:=by intro _ _ e;cases e):AG M P n N R X ops k0 L Γ w:=by
 have d:=oT F;have u:(0+e*sz)+(f x).length<=(aw B j).vs.length:=by
  rw[hB,cn hf,hf,z6,<-zh];exact z7 _ hk
 obtain ⟨w',o,a,p⟩:=gk _ _ _ _ _ w I (s.own _ (bC d)) u;have c:=s.put C d a p;refine T.store i w' y D o (a.tl hz) (H w' a ?_)
 unfold iH at c;rw[hB,z6,j5 hf l e x hk] at c;exact c
end rows
theorem sf {a b:Int}(h:a=b):(a == b)=true:=by simpa using h
theorem fB {a b:Int}(h:a≠b):(a == b)=false:=by simpa using h
theorem Bq {a b:Int}(h:a≠b):(a != b)=true:=by simpa using h
theorem Ij {a b:Int}(h:a=b):(a != b)=false:=by simpa using h
theorem St.drop {w0:World}{h0:Hp}{w:World}{h:Hp}{B:List Bx}(s:St w0 h0 w h B)(k):St w0 h0 w h (B.drop k) :=
 ⟨s.up,fun x a=>s.own x (z8 a),fun x a=>s.jk x (z8 a),fun x a=>s.lo x (z8 a),s.nd.sublist ((Ab k B).map (·.b))⟩
theorem aU {a b:Int}(h:(a != b)=false):a=b:=by simpa using h
theorem aJ {a b:Int}(h:(a != b)=true):a≠b:=by simpa using h
theorem aj {a b:Int}(h:(a == b)=false):a≠b:=by simpa using h
theorem sI {α:Type}{f:α->List Value}{x0:α}{sz:Nat}(hf:(f x0).length=sz)(a:0<sz):∀ (m i:Nat),i<m*sz->((Af m x0).flatMap f)[i]?=(f x0)[i%sz]?
  | 0,i,h=>by simp at h
  | m + 1,i,h=>by
    rw[Ag,y4];rcases ea i sz with hl|hl
    . rw[wj oM,Am hl]
    . rw[yz oM,hf,sI hf a m (i-sz) (by rw[zh] at h;omega)]
      congr 1
      rw[Nat.mod_eq_sub_mod hl]
theorem xf {α:Type}{f:α->List Value}{x0:α}{z:Value}{sz m:Nat}(d:z.cells.toList=f x0)(c:z.cells.size=sz)(a:0<sz):madeCells z.cells (m*sz)=((Af m x0).flatMap f).toArray:=by
 have hf:(f x0).length=sz:=by rw[<-d];simpa using c
 apply Array.ext_getElem?
 intro i;rw[show ((Af m x0).flatMap f).toArray[i]?=((Af m x0).flatMap f)[i]? from by simp]
 rcases ea i (m*sz) with hl|hl
 ·rw[sI hf a m i hl,<-d]
  have e:i%sz<z.cells.size:=by rw[c];exact As _ a
  simp only[madeCells,Array.getElem?_map,Array.getElem?_range,hl,if_true,um,c,Array.getElem?_toList];rw[e5 e,getElem!_pos z.cells (i%sz) e]
 ·rw[eb (by rw[size_madeCells];exact hl),ua]
  have:∀ m,((Af m x0).flatMap f).length=m*sz:=by
   intro m;induction m with
   | zero=>simp
   | succ m ih=>rw[Ag,y4,zY,ih,hf,zh];omega
  rw[this];exact hl
section ops
variable {P:Program}{Γ:cC}{o:Oper}
theorem Gz {t e:TypeId}{x ix:Operand}{A:Z9}{len c sz:Nat}{i:Int}(k:Nat)(p:o.op=.indexAddr t x ix)(u:ev Γ x=.slice A len c)(hi:ev Γ ix=.int .i64 i)
    (h:P.underlying t=some (.slice e))(f:(P.info? e).map (·.size)=some sz)(y:A=some ⟨aB A,aO A,none⟩)(hk:i=k)(z:k<len)(w:World) :
    (execOp (ev Γ) o).run P w=.ok (.value (.pointer (some ⟨aB A,aO A+k*sz,none⟩))) w:=by
  subst hk;unfold execOp;simp only[p];rw[u,hi];have d:P.elem t=e:=by unfold Program.elem;rw[h]
  have h1:=run_indexAt_slice (P:=P) w t ⟨aB A,aO A,none⟩ len c .i64 (k:Int) (by rw[d];exact h);rw[if_pos ⟨by omega,by omega⟩,d] at h1
  have j:(sizeOf e).run P w=.ok sz w:=by
    cases a:P.info? e with
    | none=>rw[a] at f;cases f
    | some i =>
      rw[a] at f;simp at f;simp[sizeOf,typeInfo,a,f]
  rw[j] at h1;have l:((⟨aB A,aO A,none⟩:Addr).add ((k:Int).toNat*sz))=⟨aB A,aO A+k*sz,none⟩:=by
    unfold Addr.add;simp only[Aw];split
    . rename_i h0;rw[h0];rfl
    . rfl
  simp only[Result.andThen] at h1;rw[l] at h1;rw[<-y] at h1;rw[Sem.run_bind,h1];rfl
theorem L3 {t e:TypeId}{x y:Operand}{z:Value}{m sz bt:Nat}{α:Type}{f:α->List Value}{x0:α}(u:o.op=.makeSlice t x y)(D:ev Γ x=.int .i64 (m:Int))(F:ev Γ y=.int .i64 (m:Int))
    (B:P.underlying t=some (.slice e))(hi:(P.info? e).map (fun i=>(i.zero,i.size,i.bytes))=some (some z,sz,bt))(h:z.cells.toList=f x0)(d:z.cells.size=sz)(c:0<sz)(H:bt*m<=(2^47))(l:m<(2^63))(w:World) :
    (execOp (ev Γ) o).run P w=.ok (.value (.slice (some ⟨w.heap.size,0,none⟩) m m)) (w.alloc (.cells ((Af m x0).flatMap f).toArray e (0,0))):=by
  cases a:P.info? e with
  | none=>rw[a] at hi;cases hi
  | some inf =>
    rw[a] at hi;simp only[um,Option.some.injEq,Prod.mk.injEq] at hi;obtain ⟨h1,j,C⟩:=hi
    unfold execOp;simp only[u];have p:(inf.bytes:Int)*(m:Int)<=(2^48):=by
      rw[C];have:((bt*m:Nat):Int)<=(2^48):=by omega
      simpa using this
    rw[D,F,Sem.run_bind,run_make (P:=P) w t e inf z B a h1 .i64 .i64 (m:Int) (m:Int) oM oM p oM]
    simp only[Result.andThen,Aw,j];rw[xf h d c];rfl
theorem Lx {t e:TypeId}{x hi:Operand}{A:Z9}{len c:Nat}{i:Int}(k:Nat)(p:o.op=.slice t x none (some hi) none)(y:ev Γ x=.slice A len c)(j:ev Γ hi=.int .i64 i)
  (u:P.underlying t=some (.slice e))(z:(P.info? e).isSome=true)(hk:i=k)(h:k<=c)(w:World) :
  (execOp (ev Γ) o).run P w=.ok (.value (.slice A k c)) w:=by
 subst hk;obtain ⟨f,d⟩:=oi.1 z
 unfold execOp;simp only[p,AS,um];rw[y,j];have l:∀ a:Addr,a.add 0=a:=fun a=>by unfold Addr.add;simp
 have B:A.map (fun a=>a.add (0*f.size))=A:=by cases A<;>simp[l]
 simp[Instr.sliceAt,Instr.slice,Instr.sliceBounds,Instr.sliceBound,run_underlying u,asIntOf,sizeOf,typeInfo,d,Result.andThen,h]
 intro _;cases A<;>simp[l]
theorem IQ {t e:TypeId}{x d:Operand}{A:Z9}{len c sz:Nat}{i:Int}(k:Nat)(l:o.op=.slice t x (some d) none none)(u:ev Γ x=.slice A len c)(j:ev Γ d=.int .i64 i)
    (p:P.underlying t=some (.slice e))(f:(P.info? e).map (·.size)=some sz)(hk:i=k)(h:k<=len)(w:World) :
    (execOp (ev Γ) o).run P w=.ok (.value (.slice (if c=k then A else A.map (·.add (k*sz))) (len-k) (c-k))) w:=by
  subst hk;cases a:P.info? e with
  | none=>rw[a] at f;cases f
  | some inf =>
    rw[a] at f;simp at f;unfold execOp;simp only[l,AS,um];rw[u,j];simp[Instr.sliceAt,Instr.slice,Instr.sliceBounds,Instr.sliceBound,run_underlying p,asIntOf,sizeOf,typeInfo,a,Result.andThen,h,f]
end ops
def E8 (z:Int):List Value:=[.int .i64 z]
abbrev Si (A:Z9)(l:List Int):Hp->Prop:=fun h_=>SlO 1 E8 0 h_ A l
structure Gro (h0:Hp) (B:List Nat) (w:World) (h:Hp) (ty:TypeId) (sz:Nat) (v:Value) (n:Nat) (cs:List Value):Prop where
  own:w.ownsRow h0.size ty sz v n cs
  jk:∀ b,v.ownBlock=some b->h[b]?=some bp
  ap:∀ b,v.ownBlock=some b->b ∉ B
section gro
variable {h0:Hp}{B:List Nat}{w:World}{h:Hp}{ty:TypeId}{sz:Nat}{v:Value}{n:Nat}{cs:List Value}
theorem Gro.nil:Gro h0 B w h ty sz (.slice none 0 0) 0 []:=⟨World.ownsRow_nil _ _ _ _,fun b a=>by simp[Value.ownBlock] at a,fun b a=>by simp[Value.ownBlock] at a⟩
theorem fa {base:Nat}(o:w.ownsRow base ty sz v n cs){w':World}(a:∀ b,v.ownBlock=some b->w'.heap[b]?=w.heap[b]?):w'.ownsRow base ty sz v n cs:=by
 rcases o with ⟨h1,h2|⟨g,cap,cur,hv,hb',hg,hn,hm,hs,ht⟩⟩
 ·exact ⟨h1,.inl h2⟩
 ·exact ⟨h1,.inr ⟨g,cap,cur,hv,hb',(a g (by rw[hv];rfl)).trans hg,hn,hm,hs,ht⟩⟩
theorem Gro.lt (r:Gro h0 B w h ty sz v n cs){b:Nat}(a:v.ownBlock=some b):b<h.size:=aW (r.jk b a)
theorem jV {base:Nat}(o:w.ownsRow base ty sz v n cs){b:Nat}(a:v.ownBlock=some b):b<w.heap.size:=by
 rcases o with ⟨_,⟨rfl,_⟩|⟨g,cap,cur,rfl,_,hg,_⟩⟩
 ·simp[Value.ownBlock] at a
 ·simp[Value.ownBlock] at a
  subst a;rcases ea g w.heap.size with hl|hl
  ·exact hl
  ·rw[eb hl] at hg;cases hg
theorem Gro.up (r:Gro h0 B w h ty sz v n cs){w':World}{c:Hp}(u:Up w h w' c):Gro h0 B w' c ty sz v n cs :=
 ⟨fa r.own (fun b a=>Below.block u.ext b (jV r.own a)),fun b a=>(u.gr.blk b (r.lt a)).trans (r.jk b a),r.ap⟩
theorem Gro.put (r:Gro h0 B w h ty sz v n cs){w':World}{b:Nat}(p:Put b w w')(d:b∈B):Gro h0 B w' h ty sz v n cs :=
 ⟨fa r.own (fun c a=>p.blk c (fun e=>r.ap c a (e▸d))),r.jk,r.ap⟩
theorem Gro.new (r:Gro h0 B w h ty sz v n cs)(b)(f:∀ c,v.ownBlock=some c->c≠b):Gro h0 (b::B) w h ty sz v n cs :=
 ⟨r.own,r.jk,fun c a d=>by
  rcases hC.1 d with e|e
  ·exact f c a e
  ·exact r.ap c a e⟩
theorem Gro.sub (r:Gro h0 B w h ty sz v n cs)(B')(d:∀ b∈B',b∈B):Gro h0 B' w h ty sz v n cs:=⟨r.own,r.jk,fun b c a=>r.ap b c (d b a)⟩
theorem Gro.out (r:Gro h0 B w h ty sz v n cs){d:Hp}{b:Nat}(f:b∈B)(i:∀ c,c≠b->d[c]?=h[c]?):Gro h0 B w d ty sz v n cs :=
 ⟨r.own,fun c a=>(i c (fun e=>r.ap c a (e▸f))).trans (r.jk c a),r.ap⟩
theorem Gro.app (r:Gro h0 B w h ty sz v n cs){w':World}{d:Hp}{row:Option Nat}(f:w.grownBy w' row)(i:Gr h d)(c:∀ b,v.ownBlock=some b->row≠some b):Gro h0 B w' d ty sz v n cs :=
 ⟨fa r.own (fun b a=>f.block b (jV r.own a) (fun e=>c b a e.symm)),fun b a=>(i.blk b (r.lt a)).trans (r.jk b a),r.ap⟩
theorem Ck {w0:World}{B':List Bx}{w':World}(s:St w0 h0 w h B')(o:G w0 h0)(r:Gro h0 (B'.map (·.b)) w h ty sz v n cs)(d:w.grownBy w' v.ownBlock):∃ j,Gr h j/\St w0 h0 w' j B'/\∀ b,h.size<=b->b<w'.heap.size->j[b]?=some bp:=by
  have i:∀ b,v.ownBlock=some b->h0.size<=b:=by
    intro b a;rcases r.own with ⟨_,⟨rfl,_⟩|⟨g,cap,cur,rfl,hbb,_⟩⟩
    . simp[Value.ownBlock] at a
    . simp[Value.ownBlock] at a;omega
  have p:=s.g.size;have l:=d.size;have c:Gr h (h++tw (w'.heap.size-h.size) bp):=⟨by simp,fun b a=>ub a⟩;refine ⟨h++tw (w'.heap.size-h.size) bp,c,⟨⟨⟨d.os.trans s.up.ext.os,d.tape.trans s.up.ext.tape,d.output.trans s.up.ext.output,ep s.up.ext.size l,fun b a=>?_⟩,s.up.gr.trans c,⟨by simp;omega,fun b=>?_⟩⟩,?_,?_,s.lo,s.nd⟩,?_⟩
  . rw[d.block b (er a s.up.ext.size) (fun e=>by have:=i b e.symm;rw[o.size] at a;omega)]
    exact Below.block s.up.ext b a
  . rcases ea b h.size with a|a
    . rw[ub a]
      by_cases e:v.ownBlock=some b
      . exact .inr (r.jk b e)
      . rw[d.block b oM (fun u=>e u.symm)];exact s.g.blk b
    . by_cases hl:b<w'.heap.size
      . right
        rw[A0 a,A6,if_pos oM]
      . left
        rw[eb (by simp;omega),eb oM]
  . intro x f
    show w'.heap[x.b]?=_
    rw[d.block x.b (s.own x f).lt (fun e=>r.ap x.b e.symm (g3.2 ⟨x,f,rfl⟩))];exact s.own x f
  . intro x f
    rw[c.blk _ (aW (s.jk x f))];exact s.jk x f
  . intro b h1 y
    rw[A0 h1,A6,if_pos oM]
def Apart (v u:Value):Prop:=∀ b,v.ownBlock=some b->u.ownBlock≠some b
theorem Apart.symm {v u:Value}(h:Apart v u):Apart u v:=fun b a hv=>h b hv a
theorem Apart.grown {v v' u:Value}(h:Apart v u)(c:v'.ownBlock=v.ownBlock\/v'.ownBlock=some w.heap.size)(d:∀ b,u.ownBlock=some b->b<w.heap.size):Apart v' u:=fun b hv a=>by
 rcases c with e|e
 ·exact h b (e▸hv) a
 ·rw[e] at hv
  injection hv with hv;have:=d b a
  omega
theorem Apart.nil {u:Value}:Apart (.slice none 0 0) u:=fun b a=>by simp[Value.ownBlock] at a
end gro
section app
variable {P:Program}{n:Nat}{N R:Po}{X:Nat->Po}{ops:Array Oper}{k0:Nat}{hr:Hp}{AL:List Al}{L:Array Bool}{Γ:cC}{w:World}{h:Hp}{w0:World}{h0:Hp}{B:List Bx}
theorem me {o:Oper}{x y:Operand}{t e:TypeId}{z:Value}{sz bt m m2 c:Nat}{v:Value}{cs news:List Value}{a:Addr}(I:o.op=.call { callee:=.builtin .append,args:=#[x,y],argTypes:=#[t,t] })
    (L:ev Γ x=v)(S:ev Γ y=.slice (some a) m2 c)(J:P.underlying t=some (.slice e))(hi:(P.info? e).map (fun i=>(i.zero,i.size,i.bytes))=some (some z,sz,bt))(C:z.cells.size=sz)(l:0<sz)
    (s:St w0 h0 w h B)(r:Gro h0 (B.map (·.b)) w h e sz v m cs)(Q:news.length=m2*sz)(f:∀ j u,news[j]?=some u->w.cell? (a.add j)=some u)(h1:∀ u∈news,u.oneCell'=true)
    (V:m+m2<=(2^40))(H:(m+m2)*bt<=(2^47)) :
    ∃ v' w',(execOp (ev Γ) o).run P w=.ok (.value v') w'/\w'.ownsRow h0.size e sz v' (m+m2) (cs++news)/\w.grownBy w' v.ownBlock/\(v'.ownBlock=v.ownBlock\/v'.ownBlock=some w.heap.size):=by
  cases d:P.info? e with
  | none=>rw[d] at hi;cases hi
  | some inf =>
    rw[d] at hi;simp only[um,Option.some.injEq,Prod.mk.injEq] at hi;obtain ⟨i1,M,F⟩:=hi;obtain ⟨v',w',p,D,K,U,O⟩:=run_append_own_at (P:=P) w h0.size t o.type e inf z sz bt J d i1 M F C l v m cs r.own a m2 c news Q f h1 (by unfold maxLen;omega) H (by rw[s.g.size];exact s.sz);refine ⟨v',w',?_,D,K,O⟩
    unfold execOp;simp only[I,resolve,invoke,builtin,Sem.run_bind,Sem.run_pure,Result.andThen_ok,List.map_toArray,A7,List.map_nil,L,S,p]
theorem Gro.grown {ty:TypeId}{sz m m2:Nat}{v v':Value}{cs news:List Value}{w':World}{c:Hp}(s:St w0 h0 w h B)(r:Gro h0 (B.map (·.b)) w h ty sz v m cs)(i:w'.ownsRow h0.size ty sz v' (m+m2) (cs++news))(f:v'.ownBlock=v.ownBlock\/v'.ownBlock=some w.heap.size)(j:Gr h c)(p:∀ b,h.size<=b->b<w'.heap.size->c[b]?=some bp):
  Gro h0 (B.map (·.b)) w' c ty sz v' (m+m2) (cs++news):=by
 have d:∀ b,v'.ownBlock=some b->b<w'.heap.size:=by
  intro b a;rcases i with ⟨_,⟨rfl,_⟩|⟨g,cap,cur,rfl,_,hg,_⟩⟩
  ·simp[Value.ownBlock] at a
  ·simp[Value.ownBlock] at a
   subst a;rcases ea g w'.heap.size with hl|hl
   ·exact hl
   ·rw[eb hl] at hg;cases hg
 refine ⟨i,fun b a=>?_,fun b a=>?_⟩
 ·rcases f with e|e
  ·rw[e] at a;rw[j.blk b (r.lt a)];exact r.jk b a
  ·have:b=w.heap.size:=by rw[e] at a;injection a with a;exact a.symm
   exact p b (by rw[this,s.g.size];exact ek _) (d b a)
 ·rcases f with e|e
  ·rw[e] at a;exact r.ap b a
  ·have:b=w.heap.size:=by rw[e] at a;injection a with a;exact a.symm
   intro u;obtain ⟨x,l,y⟩:=g3.1 u;have:=(s.own x l).lt;have o:x.b=b:=y
   omega
theorem kO {b:Nat}{news:List Value}(g:G w h)(c:Seg h b 0 news):∀ j u,news[j]?=some u->w.cell? ((⟨b,0,none⟩:Addr).add j)=some u:=by
 intro j u a;have:=mD g (c j u a)
 unfold Addr.add;split
 ·rename_i h0;subst h0;exact this
 ·exact this
end app
theorem UpM.put {M:List Nat}{w0 w w':World}{h0 h:Hp}{b:Nat}(u:UpM M w0 h0 w h)(p:Put b w w')(d:b∈M)(g:G w' h):UpM M w0 h0 w' h :=
 ⟨⟨p.os.trans u.mo.os,p.tape.trans u.mo.tape,p.output.trans u.mo.output,by rw[p.size];exact u.mo.size,fun c a hn=>(p.blk c (fun e=>hn (e▸d))).trans (u.mo.blk c a hn)⟩,u.gr,g⟩
theorem St.at_ {w:World}{h:Hp}{rb:Nat}{t:TypeId}{vs:List Value}(g:G w h)(o:Own w rb t vs)(j:h[rb]?=some bp):∃ w0 h0,G w0 h0/\St w0 h0 w h [⟨rb,t,vs⟩]:=by
 have f:=aW j;have e:=g.size;refine ⟨{ w with heap:=w.heap.extract 0 rb },h.extract 0 rb,⟨by simp;omega,fun b=>?_⟩,⟨⟨⟨rfl,rfl,rfl,by simp;omega,fun b c=>?_⟩,⟨by simp;omega,fun b c=>?_⟩,g⟩,?_,?_,?_,by simp⟩⟩
 ·show (h.extract 0 rb)[b]?=(w.heap.extract 0 rb)[b]?\/_
  rw[A9,A9];by_cases c:b<rb
  ·rw[if_pos oM,if_pos oM];simpa using g.blk b
  ·rw[if_neg oM,if_neg oM];exact .inl rfl
 ·have d:b<rb:=by have:b<(w.heap.extract 0 rb).size:=c;simp at this;omega
  show w.heap[b]?=(w.heap.extract 0 rb)[b]?
  rw[A9,if_pos oM];simp
 ·have d:b<rb:=by simp at c;omega
  rw[A9,if_pos oM];simp
 ·intro x a;rw[ti] at a;subst a;exact o
 ·intro x a;rw[ti] at a;subst a;exact j
 ·intro x a;rw[ti] at a;subst a;simp;omega
def fl (rb:Nat)(w0:World)(h0:Hp)(Φ:Value->World->Hp->Prop):Ending->World->Prop:=fun e w'=>∃ v h',e=.returned v/\UpM [rb] w0 h0 w' h'/\Φ v w' h'
section
variable {P:Program}{n:Nat}{Γ:cC}{w:World}{h:Hp}{w0 wz:World}{h0 hz:Hp}{B:List Bx}
theorem retM {c:Func}{rb:Nat}{Φ:Value->World->Hp->Prop}(s:St wz hz w h B)(f:UpM [rb] w0 h0 w h)(ps:List (Nat × Nat × Nat))(v)(hk:(ot c Γ && dt B ps)=true)(i:cc P (pK c Γ) (dY B ps)=some (v,cJ B ps))(d:Φ v w h):
  ∀ a,Kn n a Γ->oh P c (fl rb w0 h0 Φ) a w:=by
 intro a e;rw[lu] at hk;refine ⟨e.df.trans (pj hk.1),v,?_,v,h,rfl,f,d⟩;rw[jf e hk.1];exact db _ _ _ _ i (fc s.own ps hk.2)
theorem St.stepM (s:St w0 h0 w h B)(O:G w0 h0){j:Nat}{vs:List Value}{w':World}{H:Hp}(o:j<B.length)(u:UpM [(aw B j).b] w h w' H)(Q:Own w' (aw B j).b (aw B j).t vs):St w0 h0 w' H (iP B j vs):=by
  have z:=bC o;have M:=s.lo _ z;have C:(iP B j vs).map (·.b)=B.map (·.b):=by
    unfold iP;rw[u9];apply va
    intro i;by_cases e:j=i
    . subst e
      rw[vb (by simpa using o)]
      simp[aw,o]
    . rw[vi e]
  have K:Up w0 h0 w' H:=by
    refine ⟨⟨u.mo.os.trans s.up.ext.os,u.mo.tape.trans s.up.ext.tape,u.mo.output.trans s.up.ext.output,ep s.up.ext.size u.mo.size,fun c F=>?_⟩,s.up.gr.trans u.gr,u.g⟩;rw[u.mo.blk c (er F s.up.ext.size) (fun z=>by rw[ti] at z;rw[O.size] at F;omega)];exact Below.block s.up.ext c F
  have a:∀ x∈iP B j vs,∃ y∈B,y.b=x.b:=by
    intro x f;have:x.b∈(iP B j vs).map (·.b):=g3.2 ⟨x,f,rfl⟩;rw[C] at this
    obtain ⟨y,l,d⟩:=g3.1 this;exact ⟨y,l,d⟩
  refine ⟨K,?_,?_,?_,by rw[C];exact s.nd⟩
  . intro x f
    obtain ⟨i,hi,d⟩:=vj.1 f;have p:i<B.length:=by simpa [iP] using hi
    by_cases e:j=i
    . subst e
      have:x={ aw B j with vs:=vs }:=by rw[<-d];simp[iP]
      subst this;exact Q
    . have D:x=B[i]:=by rw[<-d];simp[iP,e]
      subst D;have I:B[i].b≠(aw B j).b:=by
        intro J;have h1:(B.map (·.b))[i]'(by simpa using p)=(B.map (·.b))[j]'(by simpa using o):=by
          simp only[vl];rw[J];simp[aw,o]
        exact e ((v6 s.nd).1 h1).symm
      have L:=s.own _ (gg p)
      show w'.heap[B[i].b]?=_
      rw[u.mo.blk _ L.lt (fun z=>I (ti.1 z))];exact L
  . intro x f
    obtain ⟨y,l,d⟩:=a x f;rw[<-d,u.gr.blk _ (aW (s.jk y l))];exact s.jk y l
  . intro x f
    obtain ⟨y,l,d⟩:=a x f;rw[<-d];exact s.lo y l
theorem Gro.upM {i:Hp}{d:List Nat}{ty:TypeId}{sz:Nat}{v:Value}{m:Nat}{cs:List Value}(r:Gro i d w h ty sz v m cs){w':World}{f:Hp}{b:Nat}(u:UpM [b] w h w' f)(j:b∈d):Gro i d w' f ty sz v m cs :=
 ⟨fa r.own (fun c a=>u.mo.blk c (jV r.own a) (fun e=>by rw[ti] at e;exact r.ap c a (e▸j))),fun c a=>(u.gr.blk c (r.lt a)).trans (r.jk c a),r.ap⟩
theorem gU (s:St w0 h0 w h B){i j:Nat}(hi:decide (i<B.length)=true)(f:decide (j<B.length)=true)(e:(i == j)=false):(aw B i).b≠(aw B j).b:=by
 have c:=oT hi;have a:=oT f;intro d;have h1:(B.map (·.b))[i]'(by simpa using c)=(B.map (·.b))[j]'(by simpa using a):=by
  simp only[vl];simpa [aw,c,a] using d
 have:=(v6 s.nd).1 h1;subst this
 simp at e
end
section pub
variable {h0:Hp}{B:List Nat}{w:World}{h:Hp}{ty:TypeId}{sz:Nat}{v:Value}{n:Nat}{cs:List Value}
theorem Gro.pub3 {w0:World}{B':List Bx}{A:Z9}{l a:Nat}(s:St w0 h0 w h B')(r:Gro h0 (B'.map (·.b)) w h ty sz (.slice A l a) n cs):∃ y,St w0 h0 w y B'/\Gw h y/\(∀ c,(Value.slice A l a).ownBlock≠some c->y[c]?=h[c]?)/\l=n/\n<=a/\(0<n->A=some ⟨aB A,0,none⟩/\aO A=0)/\Seg y (aB A) 0 cs:=by
  rcases r.own with ⟨h1,⟨e,rfl⟩|⟨b,cap',cur,e,hbb,hg,hn,hm,hs,ht⟩⟩
  . injection e with e1 e2 e3
    subst e1 e2 e3;have:cs=[]:=z1 (by simpa using h1);subst this;exact ⟨h,s,⟨ek _,fun _ _=>.inl rfl⟩,fun _ _=>rfl,rfl,ek _,fun h=>by omega,fun i v hv=>by simp at hv⟩
  . injection e with e1 e2 e3
    subst e1 e2 e3;have f:=r.jk b rfl;have j:=aW f;have z:∀ x∈B',x.b≠b:=fun x p e=>r.ap b rfl (g3.2 ⟨x,p,e⟩)
    refine ⟨h.setIfInBounds b (.cells cur ty),⟨⟨s.up.ext,⟨by simp;exact s.up.gr.size,fun c o=>?_⟩,⟨by simp;exact s.up.g.size,fun c=>?_⟩⟩,s.own,?_,s.lo,s.nd⟩,⟨by simp,fun c o=>?_⟩,fun c o=>?_,rfl,hn,fun _=>⟨rfl,rfl⟩,?_⟩
    . rw[la oM];exact s.up.gr.blk c o
    . by_cases e:b=c
      . subst e;left;rw[Bs j];exact hg.symm
      . rw[la e];exact s.up.g.blk c
    . intro x p
      rw[la (Ne.symm (z x p))];exact s.jk x p
    . by_cases e:b=c
      . subst e;exact .inr f
      . left;rw[la e]
    . rw[la (fun e=>o (by rw[<-e];rfl))]
    . intro i u d
      unfold eF;show (match (h.setIfInBounds b (.cells cur ty))[b]? with|some (.cells c _ _)=>c[0+i]?|_=>none)=some u
      rw[Bs j];rw[<-ht] at d;have hi:i<l*sz:=by
        rcases ea i (l*sz) with hl|hl
        . exact hl
        . rw[ua (by simp;omega)] at d;cases d
      rw[yh hi] at d;simpa using d
theorem Gro.pubo (r:Gro h0 B w h ty sz v n cs){a:Hp}{u:Value}(e:∀ c,u.ownBlock≠some c->a[c]?=h[c]?)(f:Apart v u):Gro h0 B w a ty sz v n cs:=⟨r.own,fun b d=>(e b (f b d)).trans (r.jk b d),r.ap⟩
theorem SlO.of_pub {α:Type}{f:α->List Value}{d:α}{l:List α}{A:Z9}(hf:∀ x,(f x).length=sz)(e:0<l.length->A=some ⟨aB A,0,none⟩/\aO A=0)(c:Seg h (aB A) 0 (l.flatMap f)):SlO sz f d h A l:=by
 rcases B2 l.length with h0'|h0'
 ·have:l=[]:=z1 h0'
  subst this;exact SlO.nil
 ·obtain ⟨a,i⟩:=e h0'
  have:=SlO.of_flat (d:=d) hf c;rw[<-a] at this
  exact this
end pub
theorem St.pubX {w0:World}{h0:Hp}{w:World}{h:Hp}{B:List Bx}(s:St w0 h0 w h B)(j)(p:j<B.length):∃ l,St w0 h0 w l (B.eraseIdx j)/\Gw h l/\Seg l (aw B j).b 0 (aw B j).vs/\l[(aw B j).b]?=some (.cells (aw B j).vs.toArray (aw B j).t (0,0))/\∀ c,c≠(aw B j).b->l[c]?=h[c]?:=by
 have D:=bC p;have I:=s.own _ D;have o:=s.jk _ D;have d:=aW o;have z:∀ x∈B.eraseIdx j,x.b≠(aw B j).b:=by
  intro x a;obtain ⟨i,hi,y⟩:=vj.1 a;rw[Dw] at y
  intro f;have u:=s.nd;have F:(aw B j)=B[j]:=by unfold aw;simp[p]
  split at y
  ·rename_i J
   have:(B.map (·.b))[i]'(by simp;omega)=(B.map (·.b))[j]'(by simpa using p):=by simp only[vl];rw[y,f,F]
   have:=(v6 u).1 this
   omega
  ·rename_i J
   have C:i+1<B.length:=by rw[D0 p] at hi;omega
   have:(B.map (·.b))[i+1]'(by simpa using C)=(B.map (·.b))[j]'(by simpa using p):=by simp only[vl];rw[y,f,F]
   have:=(v6 u).1 this
   omega
 refine ⟨h.setIfInBounds (aw B j).b (.cells (aw B j).vs.toArray (aw B j).t (0,0)),⟨⟨s.up.ext,⟨by simp;exact s.up.gr.size,fun b f=>?_⟩,⟨by simp;exact s.up.g.size,fun b=>?_⟩⟩,?_,?_,?_,?_⟩,⟨by simp,fun b f=>?_⟩,?_,Bs d,fun c H=>la (Ne.symm H)⟩
 ·have:=s.lo _ D
  rw[la oM];exact s.up.gr.blk b f
 ·by_cases e:(aw B j).b=b
  ·subst e
   left
   rw[Bs d];exact I.symm
  ·rw[la e];exact s.up.g.blk b
 ·exact fun x a=>s.own x (D1 a)
 ·intro x a
  rw[la (Ne.symm (z x a))];exact s.jk x (D1 a)
 ·exact fun x a=>s.lo x (D1 a)
 ·exact s.nd.sublist ((D2 B j).map (·.b))
 ·by_cases e:(aw B j).b=b
  ·subst e;exact .inr o
  ·left;rw[la e]
 ·intro i v hv
  unfold eF;rw[Bs d];simpa using hv
structure Rw where
  ty:TypeId
  sz:Nat
  A:Z9
  c:Nat
  n:Nat
  cs:List Value
  deriving Inhabited
def Rw.v (r:Rw):Value:=.slice r.A r.n r.c
def AllF:List (Hp->Prop)->Hp->Prop
  | [],_=>True
  | p::l,h=>p h/\AllF l h
theorem AllF.q {a b c d:Hp->Prop}{F:List (Hp->Prop)}{h:Hp}(x:AllF (a::b::c::d::F) h):AllF F h:=x.2.2.2.2
theorem AllF.r {a b:Hp->Prop}{F:List (Hp->Prop)}{h:Hp}(x:AllF (a::b::F) h):AllF F h:=x.2.2
theorem AllF.gw:∀ {F:List (Hp->Prop)} {h a:Hp},(∀ p∈F,∀ h a,Gw h a->p h->p a)->Gw h a->AllF F h->AllF F a
 | [],_,_,_,_,_=>trivial
 | p::_,_,_,m,u,x=>⟨m p (by simp) _ _ u x.1,AllF.gw (fun q c=>m q (by simp[c])) u x.2⟩
structure SS (w0:World) (h0:Hp) (w:World) (h:Hp) (B:List Bx) (R:List Rw) (F:List (Hp->Prop)):Prop where
  g0:G w0 h0
  st:St w0 h0 w h B
  ro:∀ r∈R,Gro h0 (B.map (·.b)) w h r.ty r.sz r.v r.n r.cs
  ap:R.Pairwise (fun r s=>Apart r.v s.v)
  mo:∀ p∈F,∀ h h',Gw h h'->p h->p h'
  f:AllF F h
section ss
variable {w0:World}{h0:Hp}{w:World}{h:Hp}{B:List Bx}{R:List Rw}{F:List (Hp->Prop)}
theorem SS.start (g:G w h):SS w h w h [] [] []:=⟨g,St.start g,fun _ a=>(by cases a),.nil,fun _ a=>(by cases a),trivial⟩
theorem SS.g (s:SS w0 h0 w h B R F):G w h:=s.st.g
theorem SS.step (s:SS w0 h0 w h B R F){w':World}{a:Hp}(u:Up w h w' a):SS w0 h0 w' a B R F :=
 ⟨s.g0,s.st.step u,fun r hr=>(s.ro r hr).up u,s.ap,s.mo,s.f.gw s.mo u.gr.gw⟩
theorem SS.add (s:SS w0 h0 w h B R F){K:Hp->Prop}(x:K h)(m:∀ h h',Gw h h'->K h->K h':=by intro _ _ u x;exact x.gw u):SS w0 h0 w h B R (K::F) :=
 ⟨s.g0,s.st,s.ro,s.ap,fun p a=>by
  rcases hC.1 a with rfl|a
  ·exact m
  ·exact s.mo p a,x,s.f⟩
theorem SS.a_SlO {α:Type}{sz:Nat}{f:α->List Value}{d:α}{A:Z9}{l:List α}(s:SS w0 h0 w h B R F)(x:SlO sz f d h A l):SS w0 h0 w h B R ((fun h=>SlO sz f d h A l)::F):=s.add (K:=fun h=>SlO sz f d h A l) x
theorem SS.a_Seg {b o:Nat}{cs:List Value}(s:SS w0 h0 w h B R F)(x:Seg h b o cs):SS w0 h0 w h B R ((fun h=>Seg h b o cs)::F):=s.add (K:=fun h=>Seg h b o cs) x
theorem SS.tl {K:Hp->Prop}(s:SS w0 h0 w h B R (K::F)):SS w0 h0 w h B R F:=⟨s.g0,s.st,s.ro,s.ap,fun p a=>s.mo p (List.mem_cons_of_mem _ a),s.f.2⟩
theorem SS.nil (s:SS w0 h0 w h B R F)(ty sz):SS w0 h0 w h B (⟨ty,sz,none,0,0,[]⟩::R) F :=
 ⟨s.g0,s.st,fun r hr=>by
  rcases hC.1 hr with rfl|hr
  ·exact Gro.nil
  ·exact s.ro r hr,List.pairwise_cons.2 ⟨fun _ _=>Apart.nil,s.ap⟩,s.mo,s.f⟩
theorem SS.to (s:SS w0 h0 w h B R F)(B':List Bx)(R':List Rw)(e:B=B':=by kernel_rfl)(a:R=R':=by kernel_rfl):SS w0 h0 w h B' R' F:=e▸a▸s
theorem qA {j o:Nat}{cs:List Value}(a:j<B.length):(iH B j o cs).map (·.b)=B.map (·.b):=by
 unfold iH;rw[u9];apply va
 intro i;by_cases e:j=i
 ·subst e
  rw[vb (by simpa using a)]
  simp[aw,a]
 ·rw[vi e]
theorem li {j:Nat}{vs:List Value}(a:j<B.length):(iP B j vs).map (·.b)=B.map (·.b):=by
 unfold iP;rw[u9];apply va
 intro i;by_cases e:j=i
 ·subst e
  rw[vb (by simpa using a)]
  simp[aw,a]
 ·rw[vi e]
theorem SS.put0 (s:SS w0 h0 w h B R F){j:Nat}{B':List Bx}{w':World}(a:j<B.length)(p:Put (aw B j).b w w')(c:St w0 h0 w' h B')(e:B'.map (·.b)=B.map (·.b)):SS w0 h0 w' h B' R F :=
 ⟨s.g0,c,fun r hr=>by rw[e];exact (s.ro r hr).put p (g3.2 ⟨_,bC a,rfl⟩),s.ap,s.mo,s.f⟩
theorem SS.new (s:SS w0 h0 w h B R F){w':World}{a:Hp}(u:Up w h w' a){b:Nat}{ty:TypeId}{vs:List Value}(j:h.size<=b)(i:St w0 h0 w' a (⟨b,ty,vs⟩::B)):SS w0 h0 w' a (⟨b,ty,vs⟩::B) R F :=
 ⟨s.g0,i,fun r hr=>((s.ro r hr).up u).new b (fun c d e=>by have:=(s.ro r hr).lt d;omega),s.ap,s.mo,s.f.gw s.mo u.gr.gw⟩
theorem SS.stepM (s:SS w0 h0 w h B R F)(j){rb:Nat}{vs:List Value}{w':World}{c:Hp}(u:UpM [rb] w h w' c)(d:Own w' rb (aw B j).t vs)(i:decide (j<B.length)=true:=by kernel_rfl)(e:(aw B j).b=rb:=by kernel_rfl):SS w0 h0 w' c (iP B j vs) R F:=by
 subst e;have a:=oT i;exact ⟨s.g0,s.st.stepM s.g0 a u d,fun r hr=>by rw[li a];exact (s.ro r hr).upM u (g3.2 ⟨_,bC a,rfl⟩),s.ap,s.mo,s.f.gw s.mo u.gr.gw⟩
theorem SS.drop (s:SS w0 h0 w h B R F)(k m):SS w0 h0 w h (B.drop k) (R.drop m) F :=
 ⟨s.g0,s.st.drop k,fun r hr=>(s.ro r (z8 hr)).sub _ (fun b a=>by
  obtain ⟨x,c,e⟩:=g3.1 a;exact g3.2 ⟨x,z8 c,e⟩),s.ap.sublist (Ab _ _),s.mo,s.f⟩
theorem SS.own (s:SS w0 h0 w h B R F)(j)(a:decide (j<B.length)=true:=by kernel_rfl):Own w (aw B j).b (aw B j).t (aw B j).vs:=s.st.own _ (bC (oT a))
theorem SS.jk (s:SS w0 h0 w h B R F)(j)(a:decide (j<B.length)=true:=by kernel_rfl):h[(aw B j).b]?=some bp:=s.st.jk _ (bC (oT a))
theorem SS.pub (s:SS w0 h0 w h B R F)(j)(p:decide (j<B.length)=true:=by kernel_rfl):∃ a,SS w0 h0 w a (B.eraseIdx j) R F/\Seg a (aw B j).b 0 (aw B j).vs/\h0.size<=(aw B j).b/\a[(aw B j).b]?=some (.cells (aw B j).vs.toArray (aw B j).t (0,0)):=by
 have c:=oT p;obtain ⟨a,u,gw,y,l,d⟩:=s.st.pubX j c;have i:=bC c;refine ⟨a,⟨s.g0,u,fun r hr=>((s.ro r hr).out (g3.2 ⟨_,i,rfl⟩) d).sub _ (fun b o=>?_),s.ap,s.mo,s.f.gw s.mo gw⟩,y,s.st.lo _ i,l⟩;obtain ⟨x,z,e⟩:=g3.1 o;exact g3.2 ⟨x,D1 z,e⟩
theorem SS.take (s:SS w0 h0 w h B R F){w':World}{i:Hp}(u:Up w h w' i){b:Nat}{ty:TypeId}{vs:List Value}(z:h.size<=b)(f:i[b]?=some (.cells vs.toArray ty (0,0)))(l:(ty == 0)=false:=by kernel_rfl):
  ∃ d,SS w0 h0 w' d (⟨b,ty,vs⟩::B) R F/\(∀ c,c≠b->d[c]?=i[c]?)/\Gr h d:=by
 have o:=aW f;have p:Gr h (i.setIfInBounds b bp):=⟨by simp;exact u.gr.size,fun c j=>by rw[la oM];exact u.gr.blk c j⟩
 have D:G w' (i.setIfInBounds b bp):=⟨by simp;exact u.g.size,fun c=>by
  by_cases e:b=c
  ·subst e;right;rw[Bs o]
  ·rw[la e];exact u.g.blk c⟩
 have C:Up w h w' (i.setIfInBounds b bp):=⟨u.ext,p,D⟩
 have H:Own w' b ty vs:=by
  rcases u.g.blk b with e|e
  ·exact e.symm.trans f
  ·rw[e] at f
   injection f with f;unfold bp at f;injection f with h1 h2 h3;rw[<-h2] at l;cases l
 refine ⟨i.setIfInBounds b bp,s.new C z ⟨s.st.up.trans C,?_,?_,?_,?_⟩,fun c j=>la (Ne.symm j),p⟩
 ·intro x a
  rcases hC.1 a with rfl|a
  ·exact H
  ·exact (s.st.own x a).ext u.ext
 ·intro x a
  rcases hC.1 a with rfl|a
  ·exact Bs o
  ·rw[p.blk _ (aW (s.st.jk x a))];exact s.st.jk x a
 ·intro x a
  rcases hC.1 a with rfl|a
  ·exact ep s.st.sz z
  ·exact s.st.lo x a
 ·refine hO.2 ⟨fun J=>?_,s.st.nd⟩
  obtain ⟨y,L,K⟩:=g3.1 J;have:=aW (s.st.jk y L);have I:y.b=b:=K
  omega
theorem SS.pubr (s:SS w0 h0 w h B R F)(j){ty:TypeId}{sz c:Nat}{A:Z9}{α:Type}{f:α->List Value}{l:List α}(d:α)(hf:∀ x,(f x).length=sz)(hr:R.getD j default=⟨ty,sz,A,c,l.length,l.flatMap f⟩:=by kernel_rfl)(L:decide (j<R.length)=true:=by kernel_rfl):
  ∃ y,SS w0 h0 w y B (R.eraseIdx j) ((fun h=>SlO sz f d h A l)::F)/\l.length<=c:=by
 have a:=oT L;have D:R[j]=⟨ty,sz,A,c,l.length,l.flatMap f⟩:=by rw[<-hr];simp[a]
 have M:R[j]∈R:=gg a;have H:=s.ro _ M;rw[D] at H
 obtain ⟨y,O,gw,J,_,K,hz,Q⟩:=Gro.pub3 s.st H
 have z:∀ r∈R.eraseIdx j,Apart r.v R[j].v:=by
  intro r hr;obtain ⟨i,hi,o⟩:=vj.1 hr;rw[Dw] at o
  have e:=Ft.1 s.ap;split at o
  ·rename_i I;rw[<-o];exact e i j oM a I
  ·rename_i I
   rw[<-o];have C:i+1<R.length:=by rw[D0 a] at hi;omega
   exact (e j (i+1) a C oM).symm
 refine ⟨y,⟨s.g0,O,fun r hr=>(s.ro r (D1 hr)).pubo J (by have:=z r hr;rw[D] at this;exact this),s.ap.sublist (D2 R j),fun p e=>by
  rcases hC.1 e with rfl|e
  ·exact fun _ _ u x=>x.gw u
  ·exact s.mo p e,SlO.of_pub hf hz Q,s.f.gw s.mo gw⟩,K⟩
theorem SS.grown (s:SS w0 h0 w h B R F){j:Nat}(L:j<R.length){w':World}{v':Value}{m2:Nat}{news:List Value}(O:w'.ownsRow h0.size R[j].ty R[j].sz v' (R[j].n+m2) (R[j].cs++news))(Q:w.grownBy w' R[j].v.ownBlock)(M:v'.ownBlock=R[j].v.ownBlock\/v'.ownBlock=some w.heap.size):
    ∃ z A c,v'=.slice A (R[j].n+m2) c/\Gr h z/\SS w0 h0 w' z B (R.set j ⟨R[j].ty,R[j].sz,A,c,R[j].n+m2,R[j].cs++news⟩) F:=by
  have U:R[j]∈R:=gg L;have r:=s.ro _ U;obtain ⟨z,y,W,K⟩:=Ck s.st s.g0 r Q;have V:=r.grown s.st O M y K
  have H:∃ A c,v'=.slice A (R[j].n+m2) c:=by
    rcases O with ⟨_,⟨e,e2⟩|⟨g,cap,cur,e,_⟩⟩
    . exact ⟨none,0,by rw[e,e2]⟩
    . exact ⟨_,_,e⟩
  obtain ⟨A,c,e⟩:=H;subst e;have J:=Ft.1 s.ap
  have d:∀ i (hi:i<R.length),i≠j->Apart R[j].v R[i].v:=fun i hi p=>by
    rcases Nat.lt_or_gt_of_ne p with hl|hl
    . exact (J i j hi L hl).symm
    . exact J j i L hi hl
  have l:∀ i (hi:i<R.length),i≠j->Apart (.slice A (R[j].n+m2) c) R[i].v:=fun i hi p =>
    Apart.grown (w:=w) (d i hi p) M (fun b o=>jV (s.ro _ (gg hi)).own o)
  refine ⟨z,A,c,rfl,y,⟨s.g0,W,?_,?_,s.mo,s.f.gw s.mo y.gw⟩⟩
  . intro x S
    obtain ⟨i,hi,C⟩:=vj.1 S;have a:i<R.length:=by simpa using hi
    by_cases e:j=i
    . subst e
      simp at C;rw[<-C];exact V
    . rw[F2 e] at C
      rw[<-C];exact (s.ro _ (gg a)).app Q y (fun b o D=>d i a (Ne.symm e) b D o)
  . refine Ft.2 (fun i k hi hk I=>?_)
    have a:i<R.length:=by simpa using hi
    have u:k<R.length:=by simpa using hk
    by_cases e:j=i
    . subst e
      rw[Ga,F2 oM];exact l k u oM
    . by_cases e2:j=k
      . subst e2
        rw[Ga,F2 oM];exact (l i a oM).symm
      . rw[F2 e,F2 e2]
        exact J i k a u I
end ss
theorem SS.aS {α:Type}{sz:Nat}{f:α->List Value}{x:α}{A:Z9}{l:List α}{w0 w:World}{h0 h:Hp}{B:List Bx}{R:List Rw}{F:List (Hp->Prop)}(s:SS w0 h0 w h B R F)(p:SlO sz f x h A l):SS w0 h0 w h B R ((fun h=>SlO sz f x h A l)::F):=s.a_SlO p
theorem SS.aP {α β:Type}{sz a:Nat}{f:α->List Value}{x:α}{A:Z9}{l:List α}{g:β->List Value}{y:β}{D:Z9}{m:List β}{w0 w:World}{h0 h:Hp}{B:List Bx}{R:List Rw}{F:List (Hp->Prop)}(s:SS w0 h0 w h B R F)(p:SlO sz f x h A l)(q:SlO a g y h D m):SS w0 h0 w h B R ((fun h=>SlO a g y h D m)::(fun h=>SlO sz f x h A l)::F):=(s.a_SlO p).a_SlO q
section
variable {P:Program}{n:Nat}{N R:Po}{X:Nat->Po}{Γ:cC}{w:World}{h:Hp}
theorem cQ {x y:Code}(H:CG P n (fun a w=>y.wp P (iy N R X) a w) R X x Γ w):CG P n N R X (.seq x y) Γ w:=CG.seq H
theorem cK {y:Code}{N' R':Po}{X':Nat->Po}(H:CG P n N' R' X' y Γ w):CG P n (fun a w=>y.wp P (iy N' R' X') a w) R X .skip Γ w:=CG.skipN H
theorem kQ {id:Nat}{ops:Array Oper}(H:LG P n N R X ops 0 Γ w):CG P n N R X (.region id ops false) Γ w:=CG.listed H
theorem kZ {id:Nat}{c:Code}(H:CG P n N R (fun i=>if i=id then N else X i) c Γ w):CG P n N R X (.block id c) Γ w:=CG.block H
theorem kX (H:∀ a,Kn n a Γ->R a w):CG P n N R X .ret Γ w:=CG.ret H
theorem sS (g:G w h):SS w h w h [] [] []:=SS.start g
end
theorem nR (n:Nat):n<=n:=ek n
theorem g5 {n:Int}(h0 : -(2^63)<=n)(h1:n<=(2^63-1)):IntKind.wrap .i64 n=n:=by rw[IntKind.wrap_i64];omega
def EE (P:Program)(ρ:Operand->Value)(o:Oper):Option (Value × Value × Nat) :=
  match o.op with
  | .indexAddr t x ix=>match P.underlying t with
    | some (.slice e)=>(P.info? e).map fun i=>(ρ x,ρ ix,i.size)
    | _=>none
  | _=>none
theorem im {P:Program}{Γ:cC}{o:Oper}{A:Z9}{len a sz:Nat}{i:Int}{k:Nat}(h:EE P (ev Γ) o=some (.slice A len a,.int .i64 i,sz))(j:A=some ⟨aB A,aO A,none⟩)(hk:i=k)(c:k<len)(w:World) :
    (execOp (ev Γ) o).run P w=.ok (.value (.pointer (some ⟨aB A,aO A+k*sz,none⟩))) w:=by
  unfold EE at h;split at h
  . rename_i t x ix d
    split at h
    . rename_i e f
      cases hi:P.info? e with
      | none=>rw[hi] at h;cases h
      | some inf =>
        rw[hi] at h;simp only[um,Option.some.injEq,Prod.mk.injEq] at h;exact Gz (P:=P) k d h.1 h.2.1 f (by rw[hi];simp[h.2.2]) j hk c w
    . cases h
  . cases h
def DA (P:Program)(ρ:Operand->Value)(o:Oper):Option (Value × Option Value × Option Value × Nat) :=
  match o.op with
  | .slice t x lo' hi' none=>match P.underlying t with
    | some (.slice e)=>(P.info? e).map fun i=>(ρ x,lo'.map ρ,hi'.map ρ,i.size)
    | _=>none
  | _=>none
theorem uv {P:Program}{Γ:cC}{o:Oper}{A:Z9}{len a sz:Nat}{i:Int}(k:Nat)(h:DA P (ev Γ) o=some (.slice A len a,none,some (.int .i64 i),sz))(hk:i=k)(c:k<=a)(w:World) :
    (execOp (ev Γ) o).run P w=.ok (.value (.slice A k a)) w:=by
  unfold DA at h;split at h
  . rename_i t x l r d
    split at h
    . rename_i e f
      cases hi:P.info? e with
      | none=>rw[hi] at h;cases h
      | some inf =>
        rw[hi] at h;simp only[um,Option.some.injEq,Prod.mk.injEq,Gb,ul] at h;obtain ⟨h1,rfl,⟨y,rfl,j⟩,p⟩:=h;exact Lx (P:=P) k d h1 j f (by rw[hi];rfl) hk c w
    . cases h
  . cases h
theorem mG {P:Program}{Γ:cC}{o:Oper}{A:Z9}{len a sz:Nat}{i:Int}(k:Nat)(h:DA P (ev Γ) o=some (.slice A len a,some (.int .i64 i),none,sz))(hk:i=k)(c:k<=len)(w:World) :
    (execOp (ev Γ) o).run P w=.ok (.value (.slice (if a=k then A else A.map (·.add (k*sz))) (len-k) (a-k))) w:=by
  unfold DA at h;split at h
  . rename_i t x l r f
    split at h
    . rename_i e j
      cases hi:P.info? e with
      | none=>rw[hi] at h;cases h
      | some inf =>
        rw[hi] at h;simp only[um,Option.some.injEq,Prod.mk.injEq,Gb,ul] at h;obtain ⟨h1,⟨y,rfl,p⟩,rfl,d⟩:=h;exact IQ (P:=P) k f h1 p j (by rw[hi];simp[d]) hk c w
    . cases h
  . cases h
def Le (P:Program)(ρ:Operand->Value)(o:Oper):Option (Value × Value × TypeId × Value × Nat × Nat) :=
  match o.op with
  | .makeSlice t x y=>match P.underlying t with
    | some (.slice e)=>match P.info? e with
      | some i=>i.zero.map fun z=>(ρ x,ρ y,e,z,i.size,i.bytes)
      | _=>none
    | _=>none
  | _=>none
theorem qJ {P:Program}{Γ:cC}{o:Oper}{e:TypeId}{z:Value}{m sz bt:Nat}{α:Type}{f:α->List Value}{x0:α}(h:Le P (ev Γ) o=some (.int .i64 (m:Int),.int .i64 (m:Int),e,z,sz,bt))(d:z.cells.toList=f x0)(i:z.cells.size=sz)(a:0<sz)(D:bt*m<=(2^47))(c:m<(2^63))(w):
    (execOp (ev Γ) o).run P w=.ok (.value (.slice (some ⟨w.heap.size,0,none⟩) m m)) (w.alloc (.cells ((Af m x0).flatMap f).toArray e (0,0))):=by
  unfold Le at h;split at h
  . rename_i t x y u
    split at h
    . rename_i H B
      split at h
      . rename_i p hi
        simp only[ul,Prod.mk.injEq] at h;obtain ⟨F,hz,h1,l,rfl,rfl,C,j⟩:=h;exact L3 (P:=P) u h1 l B (by rw[hi];simp[hz,C,j]) d i a D c w
      . cases h
    . cases h
  . cases h
def sJ (P:Program)(ρ:Operand->Value)(o:Oper):Option (Value × Value × TypeId × Value × Nat × Nat) :=
  match o.op with
  | .call { callee:=.builtin .append,args:=⟨[x,y]⟩,argTypes:=⟨[t,u]⟩ }=>if t=u then match P.underlying t with
    | some (.slice e)=>match P.info? e with
      | some i=>i.zero.map fun z=>(ρ x,ρ y,e,z,i.size,i.bytes)
      | _=>none
    | _=>none else none
  | _=>none
theorem j3 {P:Program}{ρ:Operand->Value}{o:Oper}{r:Value × Value × TypeId × Value × Nat × Nat}(h:sJ P ρ o=some r):∃ x y t,o.op=.call { callee:=.builtin .append,args:=#[x,y],argTypes:=#[t,t] }/\ρ x=r.1/\ρ y=r.2.1/\P.underlying t=some (.slice r.2.2.1)/\(P.info? r.2.2.1).map (fun i=>(i.zero,i.size,i.bytes))=some (some r.2.2.2.1,r.2.2.2.2.1,r.2.2.2.2.2):=by
  unfold sJ at h;split at h
  . rename_i x y t u d
    split at h
    . rename_i a
      subst a;split at h
      . rename_i e f
        split at h
        . rename_i c hi
          simp only[ul] at h;obtain ⟨z,hz,rfl⟩:=h;exact ⟨x,y,t,d,rfl,rfl,f,by rw[hi];simp[hz]⟩
        . cases h
      . cases h
    . cases h
  . cases h
section listed
variable {P:Program}{n:Nat}{N R:Po}{X:Nat->Po}{ops:Array Oper}{k:Nat}{Γ:cC}{w:World}{h:Hp}{w0:World}{h0:Hp}{B:List Bx}{Rs:List Rw}{F:List (Hp->Prop)}
def cL (ops:Array Oper)(Γ:cC)(k t n:Nat):Bool:=iu ops Γ k && ((am ops k).dst == some t) && decide (t<n) && (bu ops Γ (am ops k) == some true)
def cS (ops:Array Oper)(Γ:cC)(k:Nat):Bool:=iu ops Γ k && ((am ops k).dst == none) && (bu ops Γ (am ops k) == some true)
theorem bS {t:Nat}(h:cL ops Γ k t n=true):(iu ops Γ k && ((am ops k).dst == some t) && decide (t<n))=true/\bu ops Γ (am ops k)=some true:=by
 unfold cL at h;rw[lu] at h;exact ⟨h.1,by simpa using h.2⟩
theorem iR (h:cS ops Γ k=true):(iu ops Γ k && ((am ops k).dst == none))=true/\bu ops Γ (am ops k)=some true:=by
 unfold cS at h;rw[lu] at h;exact ⟨h.1,by simpa using h.2⟩
theorem lV (t v)(H:LG P n N R X ops (k+1) ((t,v)::Γ) w)(a:cL ops Γ k t n=true:=by kernel_rfl)(hr:(execOp (ev Γ) (am ops k)).run P w=.ok (.value v) w:=by kernel_rfl):LG P n N R X ops k Γ w :=
 LG.val t v w (bS a).1 (bS a).2 hr H
theorem lB (t){e b:Bool}(c:e=b)(H:LG P n N R X ops (k+1) ((t,.bool b)::Γ) w)(a:cL ops Γ k t n=true:=by kernel_rfl)(hr:(execOp (ev Γ) (am ops k)).run P w=.ok (.value (.bool e)) w:=by kernel_rfl):LG P n N R X ops k Γ w :=
 LG.val t _ w (bS a).1 (bS a).2 (c▸hr) H
theorem lI (t m)(H:LG P n N R X ops (k+1) ((t,.int .i64 m)::Γ) w)(a:cL ops Γ k t n=true:=by kernel_rfl)(hr:(execOp (ev Γ) (am ops k)).run P w=.ok (.value (.int .i64 (IntKind.wrap .i64 m))) w:=by kernel_rfl)(h0 : -(2^63)<=m:=by omega)(h1:m<=(2^63-1):=by omega):LG P n N R X ops k Γ w :=
 LG.val t _ w (bS a).1 (bS a).2 (by rw[g5 h0 h1] at hr;exact hr) H
theorem bw (t:Nat)(m:Int)(j:Nat)(H:LG P n N R X ops (k+1) ((t,.int .i64 (j:Int))::Γ) w)(a:cL ops Γ k t n=true:=by kernel_rfl)(hr:(execOp (ev Γ) (am ops k)).run P w=.ok (.value (.int .i64 (IntKind.wrap .i64 m))) w:=by kernel_rfl)(c:m=j:=by omega)(h1:m<=9223372036854775807:=by omega):LG P n N R X ops k Γ w :=
 LG.val t _ w (bS a).1 (bS a).2 (by rw[g5 oM h1,c] at hr;exact hr) H
theorem lO (t)(ps:List (Nat × Nat × Nat))(v)(s:SS w0 h0 w h B Rs F)(H:LG P n N R X ops (k+1) ((t,v)::Γ) w)(a:cL ops Γ k t n=true:=by kernel_rfl)(c:dt B ps=true:=by kernel_rfl)(d:cc P (execOp (ev Γ) (am ops k)) (dY B ps)=some (.value v,cJ B ps):=by kernel_rfl):LG P n N R X ops k Γ w :=
 LG.own t ps v s.st (bS a).1 (bS a).2 c d H
def Jo (P:Program)(ops:Array Oper)(B:List Bx):cC->Nat->List (Nat × Value × List (Nat × Nat × Nat))->List (Option (Next × List Addr))
  | _,_,[]=>[]
  | Γ,k,x::l=>cc P (execOp (ev Γ) (am ops k)) (dY B x.2.2)::Jo P ops B ((x.1,x.2.1)::Γ) (k+1) l
def J4 (n:Nat)(ops:Array Oper)(B:List Bx):cC->Nat->List (Nat × Value × List (Nat × Nat × Nat))->Bool
  | _,_,[]=>true
  | Γ,k,x::l=>cL ops Γ k x.1 n && dt B x.2.2 && J4 n ops B ((x.1,x.2.1)::Γ) (k+1) l
def vo (Γ:cC):List (Nat × Value × List (Nat × Nat × Nat))->cC
  | []=>Γ
  | x::l=>vo ((x.1,x.2.1)::Γ) l
theorem lS (s:SS w0 h0 w h B Rs F)(l:List (Nat × Value × List (Nat × Nat × Nat)))(H:LG P n N R X ops (k+l.length) (vo Γ l) w)(a:J4 n ops B Γ k l=true:=by kernel_rfl)(c:Jo P ops B Γ k l=l.map (fun x=>some (.value x.2.1,cJ B x.2.2)):=by kernel_rfl):LG P n N R X ops k Γ w:=by
  induction l generalizing Γ k with
  | nil=>exact H
  | cons x l ih =>
    unfold J4 at a;simp only[lu] at a;unfold Jo at c;rw[A7] at c;injection c with e1 e2;refine lO x.1 x.2.2 x.2.1 s (ih ?_ a.2 e2) a.1.1 a.1.2 e1;have:k+1+l.length=k+(x::l).length:=by simp;omega
    rw[this];exact H
inductive It where
  | c
  | v (x:Value)
  | o (x:Value) (j a n:Nat)
def nT (ops:Array Oper)(k:Nat):Nat:=(am ops k).dst.getD 0
def nX (ops:Array Oper)(k:Nat)(Γ:cC):Value:=match (am ops k).op with
  | .move x=>ev Γ x
  | .assign x=>ev Γ x
  | _=>.tuple #[]
def It.to (ops:Array Oper)(k:Nat)(Γ:cC):It->Nat × Value × List (Nat × Nat × Nat)
  | .c=>(nT ops k,nX ops k Γ,[])
  | .v x=>(nT ops k,x,[])
  | .o x j a n=>(nT ops k,x,[(j,a,n)])
def xI (ops:Array Oper):Nat->cC->List It->List (Nat × Value × List (Nat × Nat × Nat))
  | _,_,[]=>[]
  | k,Γ,x::l=>x.to ops k Γ::xI ops (k+1) (((x.to ops k Γ).1,(x.to ops k Γ).2.1)::Γ) l
theorem EM (ops:Array Oper)(k)(Γ:cC)(l:List It):(xI ops k Γ l).length=l.length:=by
 induction l generalizing k Γ with
 | nil=>rfl
 | cons x l ih=>show (xI _ _ _ l).length+1=_;rw[ih];rfl
abbrev ac:List It:=[.c]
abbrev ax:List It:=[.c,.c]
abbrev cG:List It:=[.c,.c,.c]
abbrev m4:List It:=[.c,.c,.c,.c]
abbrev m5:List It:=[.c,.c,.c,.c,.c]
abbrev m6:List It:=[.c,.c,.c,.c,.c,.c]
theorem lL (s:SS w0 h0 w h B Rs F)(l:List It)(H:LG P n N R X ops (k+l.length) (vo Γ (xI ops k Γ l)) w)(a:J4 n ops B Γ k (xI ops k Γ l)=true:=by kernel_rfl)(c:Jo P ops B Γ k (xI ops k Γ l)=(xI ops k Γ l).map (fun x=>some (.value x.2.1,cJ B x.2.2)):=by kernel_rfl):LG P n N R X ops k Γ w :=
 lS s (xI ops k Γ l) (by rw[EM];exact H) a c
theorem lP (j o cs)(s:SS w0 h0 w h B Rs F)(H:∀ w',SS w0 h0 w' h (iH B j o cs) Rs F->LG P n N R X ops (k+1) Γ w')(c:cS ops Γ k=true:=by kernel_rfl)
  (a:(decide (j<B.length) && decide (o+cs.length<=(aw B j).vs.length))=true:=by kernel_rfl)(e:d8 P (execOp (ev Γ) (am ops k))=some (.skip,od (aw B j).b o cs):=by kernel_rfl):LG P n N R X ops k Γ w :=
 LG.put j o cs s.st s.g0 (iR c).1 (iR c).2 a e (fun w' p d=>H w' (s.put0 (oT (lu _ _▸a).1) p d (qA (oT (lu _ _▸a).1))))
theorem lA (t ty vs)(s:SS w0 h0 w h B Rs F)(H:∀ b w' a,SS w0 h0 w' a (⟨b,ty,vs⟩::B) Rs F->LG P n N R X ops (k+1) ((t,.pointer (some ⟨b,0,none⟩))::Γ) w')(c:cL ops Γ k t n=true:=by kernel_rfl)
  (hr:(execOp (ev Γ) (am ops k)).run P w=.ok (.value (.pointer (some ⟨w.heap.size,0,none⟩))) (w.alloc (.cells vs.toArray ty (0,0))):=by kernel_rfl):LG P n N R X ops k Γ w :=
 LG.var t ty vs s.st (bS c).1 (bS c).2 hr (fun b w' a d u e=>H b w' a (s.new u d e))
theorem lC (t){f:FuncId}{args:Array Value}{Φ:Value->Hp->Prop}(s:SS w0 h0 w h B Rs F)(c:Calls P f args w (Ret w h Φ))(H:∀ v w' a,SS w0 h0 w' a B Rs F->Φ v a->LG P n N R X ops (k+1) ((t,v)::Γ) w')(i:cL ops Γ k t n=true:=by kernel_rfl)(hr:(execOp (ev Γ) (am ops k)).run P w=.ok (.enter f args) w:=by kernel_rfl):LG P n N R X ops k Γ w :=
 LG.call t f args (bS i).1 (bS i).2 hr (c.mono fun e w' ⟨v,a,j,u,d⟩=>⟨v,j,H v w' a (s.step u) d⟩)
theorem lz (t){f:FuncId}{args:Array Value}{Φ:Value->Hp->Prop}(c:Calls P f args w (Ret w h Φ))(H:∀ v w' a,Up w h w' a->Φ v a->LG P n N R X ops (k+1) ((t,v)::Γ) w')(i:cL ops Γ k t n=true:=by kernel_rfl)(hr:(execOp (ev Γ) (am ops k)).run P w=.ok (.enter f args) w:=by kernel_rfl):LG P n N R X ops k Γ w :=
 LG.call t f args (bS i).1 (bS i).2 hr (c.mono fun e w' ⟨v,a,j,u,d⟩=>⟨v,j,H v w' a u d⟩)
theorem gH (t){f:FuncId}{args:Array Value}{rb:Nat}{Φ:Value->World->Hp->Prop}(c:Calls P f args w (fl rb w h Φ))(H:∀ v w' a,UpM [rb] w h w' a->Φ v w' a->LG P n N R X ops (k+1) ((t,v)::Γ) w')(i:cL ops Γ k t n=true:=by kernel_rfl)(hr:(execOp (ev Γ) (am ops k)).run P w=.ok (.enter f args) w:=by kernel_rfl):LG P n N R X ops k Γ w :=
 LG.call t f args (bS i).1 (bS i).2 hr (c.mono fun e w' ⟨v,a,j,u,d⟩=>⟨v,j,H v w' a u d⟩)
theorem lH (t v){b o:Nat}{cs:List Value}(s:SS w0 h0 w h B Rs F)(d:Seg h b o cs)(H:LG P n N R X ops (k+1) ((t,v)::Γ) w)(a:cL ops Γ k t n=true:=by kernel_rfl)(c:cc P (execOp (ev Γ) (am ops k)) cs=some (.value v,mn b o cs.length):=by kernel_rfl):LG P n N R X ops k Γ w :=
 LG.val t v w (bS a).1 (bS a).2 (Seg.run d s.g (Ext.refl _) c) H
theorem Jd (t v){u:Value}{b o:Nat}{cs:List Value}(s:SS w0 h0 w h B Rs F)(d:Seg h b o cs)(e:v=u)(H:LG P n N R X ops (k+1) ((t,u)::Γ) w)(a:cL ops Γ k t n=true:=by kernel_rfl)(c:cc P (execOp (ev Γ) (am ops k)) cs=some (.value v,mn b o cs.length):=by kernel_rfl):LG P n N R X ops k Γ w :=
 LG.val t u w (bS a).1 (bS a).2 (e▸Seg.run d s.g (Ext.refl _) c) H
theorem lX (t A len a sz i j)(f:A=some ⟨aB A,aO A,none⟩)(H:LG P n N R X ops (k+1) ((t,.pointer (some ⟨aB A,aO A+j*sz,none⟩))::Γ) w)(d:cL ops Γ k t n=true:=by kernel_rfl)(e:EE P (ev Γ) (am ops k)=some (.slice A len a,.int .i64 i,sz):=by kernel_rfl)(hk:i=j:=by omega)(c:j<len:=by omega):LG P n N R X ops k Γ w :=
 LG.val t _ w (bS d).1 (bS d).2 (im e f hk c w) H
theorem lT (t:Nat)(A:Z9)(len a sz:Nat)(i:Int)(j:Nat)(H:LG P n N R X ops (k+1) ((t,.slice A j a)::Γ) w)(d:cL ops Γ k t n=true:=by kernel_rfl)(e:DA P (ev Γ) (am ops k)=some (.slice A len a,none,some (.int .i64 i),sz):=by kernel_rfl)(hk:i=j:=by omega)(c:j<=a:=by omega):LG P n N R X ops k Γ w :=
 LG.val t _ w (bS d).1 (bS d).2 (uv j e hk c w) H
theorem lF (t:Nat)(A:Z9)(len a sz:Nat)(i:Int)(j:Nat)(H:LG P n N R X ops (k+1) ((t,.slice (if a=j then A else A.map (·.add (j*sz))) (len-j) (a-j))::Γ) w)(d:cL ops Γ k t n=true:=by kernel_rfl)(e:DA P (ev Γ) (am ops k)=some (.slice A len a,some (.int .i64 i),none,sz):=by kernel_rfl)(hk:i=j:=by omega)(c:j<=len:=by omega):LG P n N R X ops k Γ w :=
 LG.val t _ w (bS d).1 (bS d).2 (mG j e hk c w) H
theorem lR (t ty m cs)(s:SS w0 h0 w h B Rs F)(H:∀ b w' a,SS w0 h0 w' a B Rs ((fun h=>Seg h b 0 cs)::F)->LG P n N R X ops (k+1) ((t,.slice (some ⟨b,0,none⟩) m m)::Γ) w')(c:cL ops Γ k t n=true:=by kernel_rfl)
  (hr:(execOp (ev Γ) (am ops k)).run P w=.ok (.value (.slice (some ⟨w.heap.size,0,none⟩) m m)) (w.alloc (.cells cs.toArray ty (0,0))):=by kernel_rfl):LG P n N R X ops k Γ w :=
 LG.row t ty m cs s.g (bS c).1 (bS c).2 hr (fun b w' a u d=>H b w' a ((s.step u).a_Seg d))
theorem lK {α:Type}(t ty m sz bt z)(f:α->List Value)(x0:α)(s:SS w0 h0 w h B Rs F)(H:∀ b w' d,SS w0 h0 w' d (⟨b,ty,(Af m x0).flatMap f⟩::B) Rs F->LG P n N R X ops (k+1) ((t,.slice (some ⟨b,0,none⟩) m m)::Γ) w')(j:cL ops Γ k t n=true:=by kernel_rfl)
  (x:Le P (ev Γ) (am ops k)=some (.int .i64 (m:Int),.int .i64 (m:Int),ty,z,sz,bt):=by kernel_rfl)(e:z.cells.toList=f x0:=by kernel_rfl)(i:z.cells.size=sz:=by kernel_rfl)(a:0<sz:=by decide)(o:bt*m<=(2^47):=by omega)(c:m<(2^63):=by omega):LG P n N R X ops k Γ w :=
 LG.arr t ty m _ s.st (bS j).1 (bS j).2 (qJ x e i a o c w) (fun b w' d l u p=>H b w' d (s.new u l p))
theorem lQ {α:Type}(t j)(l:List α)(f:α->List Value)(sz)(d:α)(e v)(s:SS w0 h0 w h B Rs F)(hk:e<l.length)(H:LG P n N R X ops (k+1) ((t,v)::Γ) w)(a:cL ops Γ k t n=true:=by kernel_rfl)
  (c:decide (j<B.length)=true:=by kernel_rfl)(hB:(aw B j).vs=l.flatMap f:=by kernel_rfl)(hf:∀ x,(f x).length=sz:=by intro _;rfl)
  (i:cc P (execOp (ev Γ) (am ops k)) (f (l.getD e d))=some (.value v,mn (aw B j).b (0+e*sz) (f (l.getD e d)).length):=by kernel_rfl):LG P n N R X ops k Γ w :=
 LG.ownA t j l f sz d e v s.st (bS a).1 (bS a).2 c hB hf hk i H
theorem lW {α:Type}(j)(l:List α)(f:α->List Value)(sz e)(x:α)(s:SS w0 h0 w h B Rs F)(hk:e<l.length)(H:∀ w',SS w0 h0 w' h (iP B j ((l.set e x).flatMap f)) Rs F->LG P n N R X ops (k+1) Γ w')(c:cS ops Γ k=true:=by kernel_rfl)
  (a:decide (j<B.length)=true:=by kernel_rfl)(hB:(aw B j).vs=l.flatMap f:=by kernel_rfl)(hf:∀ x,(f x).length=sz:=by intro _;rfl)
  (i:d8 P (execOp (ev Γ) (am ops k))=some (.skip,od (aw B j).b (0+e*sz) (f x)):=by kernel_rfl):LG P n N R X ops k Γ w :=
 LG.putA j l f sz e x s.st s.g0 (iR c).1 (iR c).2 a hB hf hk i (fun w' p d=>H w' (s.put0 (oT a) p d (li (oT a))))
theorem fj {R:List Rw}{j:Nat}{r:Rw}(hr:R.getD j default=r)(a:j<R.length):R[j]=r:=by rw[<-hr];simp[a]
theorem LF (t j){ty:TypeId}{sz c m:Nat}{A:Z9}{cs:List Value}{bt m2 c2:Nat}{z:Value}{a:Addr}(news)(s:SS w0 h0 w h B Rs F)(d:∀ i u,news[i]?=some u->w.cell? (a.add i)=some u)(Z:news.length=m2*sz)(h1:∀ u∈news,u.oneCell'=true)(I:j<Rs.length)(hr:Rs[j]=⟨ty,sz,A,c,m,cs⟩)
  (D:cL ops Γ k t n=true)(Y:sJ P (ev Γ) (am ops k)=some (.slice A m c,.slice (some a) m2 c2,ty,z,sz,bt))(C:z.cells.size=sz)(e:0<sz)(U:m+m2<=(2^40))(L:(m+m2)*bt<=(2^47))
  (H:∀ o c' w' p,SS w0 h0 w' p B (Rs.set j ⟨ty,sz,o,c',m+m2,cs++news⟩) F->LG P n N R X ops (k+1) ((t,.slice o (m+m2) c')::Γ) w'):LG P n N R X ops k Γ w:=by
 obtain ⟨x,y,K,M,S,hy,O,hi⟩:=j3 Y;have r:=s.ro _ (gg I);rw[hr] at r
 obtain ⟨v',w',f,Q,V,l⟩:=me (P:=P) M S hy O hi C e s.st r Z d h1 U L;have J:=s.grown (j:=j) I (w':=w') (v':=v') (m2:=m2) (news:=news) (by rw[hr];exact Q) (by rw[hr];exact V) (by rw[hr];exact l);rw[hr] at J
 obtain ⟨p,o,c',rfl,_,W⟩:=J;exact LG.val t _ w' (bS D).1 (bS D).2 f (H o c' w' p W)
theorem nw {α:Type}{f:α->List Value}{l:List α}{x:α}:l.flatMap f++f x=(l++[x]).flatMap f:=by simp
theorem lY {α:Type}(t j ty sz c A)(l:List α)(f:α->List Value)(x:α)(bt b z)(s:SS w0 h0 w h B Rs F)(O:Seg h b 0 (f x))
  (H:∀ e c' w' o,SS w0 h0 w' o B (Rs.set j ⟨ty,sz,e,c',(l++[x]).length,(l++[x]).flatMap f⟩) F->LG P n N R X ops (k+1) ((t,.slice e (l++[x]).length c')::Γ) w')
  (C:cL ops Γ k t n=true:=by kernel_rfl)(L:sJ P (ev Γ) (am ops k)=some (.slice A l.length c,.slice (some ⟨b,0,none⟩) 1 1,ty,z,sz,bt):=by kernel_rfl)(i:z.cells.size=sz:=by kernel_rfl)(d:0<sz:=by decide)
  (hr:Rs.getD j default=⟨ty,sz,A,c,l.length,l.flatMap f⟩:=by kernel_rfl)(J:decide (j<Rs.length)=true:=by kernel_rfl)(h1:(f x).all (·.oneCell')=true:=by kernel_rfl)(M:(f x).length=1*sz:=by kernel_rfl)(K:l.length+1<=(2^40):=by omega)(D:(l.length+1)*bt<=(2^47):=by omega):LG P n N R X ops k Γ w:=by
 have a:=oT J;refine LF t j (f x) s (kO s.g O) M (fun u I=>(o0.1 h1) u I) a (fj hr a) C L i d K D (fun e c' w' o y=>?_);have p:l.length+1=(l++[x]).length:=by simp
 rw[nw,p] at y;rw[p];exact H e c' w' o y
end listed
section code
variable {P:Program}{n:Nat}{N R:Po}{X:Nat->Po}{Γ:cC}{w:World}
theorem aA {id:Nat}{ops:Array Oper}{y:Code}(H:LG P n (fun a w=>y.wp P (iy N R X) a w) R X ops 0 Γ w):CG P n N R X (.seq (.region id ops false) y) Γ w:=CG.seq (CG.listed H)
theorem ck {c:Operand}{x y:Code}(d:CG P n N R X x Γ w)(a:i6 Γ c=true:=by kernel_rfl)(hv:ev Γ c=.bool true:=by kernel_rfl):CG P n N R X (.cond c x y) Γ w:=CG.condT a hv d
theorem dE {c:Operand}{x y:Code}(d:CG P n N R X y Γ w)(a:i6 Γ c=true:=by kernel_rfl)(hv:ev Γ c=.bool false:=by kernel_rfl):CG P n N R X (.cond c x y) Γ w:=CG.condF a hv d
theorem bH {c:Code}(Γ':cC)(H:CG P n N R X c Γ' w)(a:kM Γ (Γ'.map (·.1))=Γ':=by kernel_rfl)(d:gI Γ'=gI Γ:=by kernel_rfl):CG P n N R X c Γ w:=CG.to Γ' a d H
theorem lN {ops:Array Oper}{k:Nat}{y:Code}{N' R':Po}{X':Nat->Po}(H:CG P n N' R' X' y Γ w)(c:(k == ops.size)=true:=by kernel_rfl):LG P n (fun a w=>y.wp P (iy N' R' X') a w) R X ops k Γ w:=LG.next c H
theorem aG {ops:Array Oper}{k:Nat}{id:Nat}{c:Array Oper}{y:Code}{N' R':Po}{X':Nat->Po}(H:LG P n (fun a w=>y.wp P (iy N' R' X') a w) R' X' c 0 Γ w)(d:(k == ops.size)=true:=by kernel_rfl):LG P n (fun a w=>(Code.seq (.region id c false) y).wp P (iy N' R' X') a w) R X ops k Γ w:=lN (aA H) d
theorem lD {ops:Array Oper}{k:Nat}(H:∀ a,Kn n a Γ->N a w)(c:(k == ops.size)=true:=by kernel_rfl):LG P n N R X ops k Γ w:=LG.done c H
theorem lG {ops:Array Oper}{k:Nat}(t)(H:LG P n N R X ops (k+1) ((t,undef)::Γ) w)(a:(decide (k<ops.size) && ((am ops k).dst == some t) && decide (t<n))=true:=by kernel_rfl)(c:bu ops Γ (am ops k)=some false:=by kernel_rfl):LG P n N R X ops k Γ w:=LG.out t a c H
theorem SS.ret {c:Func}{Φ:Value->Hp->Prop}{w0:World}{h0:Hp}{h:Hp}{B:List Bx}{Rs:List Rw}{F:List (Hp->Prop)}(s:SS w0 h0 w h B Rs F)(ps:List (Nat × Nat × Nat))(v)(d:Φ v h)(hk:(ot c Γ && dt B ps)=true:=by kernel_rfl)(e:cc P (pK c Γ) (dY B ps)=some (v,cJ B ps):=by kernel_rfl):∀ a,Kn n a Γ->oh P c (Ret w0 h0 Φ) a w:=L5 s.st ps v hk e d
theorem SS.retM {c:Func}{rb:Nat}{Φ:Value->World->Hp->Prop}{w0 wz:World}{h0 hz:Hp}{h:Hp}{B:List Bx}{Rs:List Rw}{F:List (Hp->Prop)}(s:SS wz hz w h B Rs F)(e:UpM [rb] w0 h0 w h)(ps:List (Nat × Nat × Nat))(v)(d:Φ v w h)(hk:(ot c Γ && dt B ps)=true:=by kernel_rfl)(f:cc P (pK c Γ) (dY B ps)=some (v,cJ B ps):=by kernel_rfl):∀ a,Kn n a Γ->oh P c (fl rb w0 h0 Φ) a w:=Go.Proofs.YtjljjeiejbhegaaGreatDoor.retM s.st e ps v hk f d
theorem go {f:FuncId}{a:Func}{c:Code}{args:Array Value}{e:Ending->World->Prop}(hf:P.funcs[f]?=some a)(Γ0:cC)(i:a.body=some c)(H:CG P a.ntmps (oh P a e) (oh P a e) (fun _ _ _=>False) c Γ0 w)(j:Nat.ble args.size a.ntmps=true:=by kernel_rfl)(h:Γ0=envOf args.toList:=by kernel_rfl)(d:Nat.ble a.ntmps 1000000=true:=by kernel_rfl):Calls P f args w e :=
 enter hf i rfl (Hi j) (Hi d) Γ0 h H
end code
section
variable {P:Program}{n:Nat}{N R N' R' R2:Po}{X X' X2:Nat->Po}{Γ:cC}{w w0:World}{h h0:Hp}{B:List Bx}{Rs:List Rw}{F:List (Hp->Prop)}{ops:Array Oper}{k:Nat}
theorem ar (t){f:FuncId}{args:Array Value}{x:Value}(s:SS w0 h0 w h B Rs F)(c:Calls P f args w (Ret w h fun v _=>v=x))(H:∀ w1 h1,SS w0 h0 w1 h1 B Rs F->LG P n N R X ops (k+1) ((t,x)::Γ) w1)(a:cL ops Γ k t n=true:=by kernel_rfl)(hr:(execOp (ev Γ) (am ops k)).run P w=.ok (.enter f args) w:=by kernel_rfl):LG P n N R X ops k Γ w:=lC t s c (fun v w1 h1 d e=>by subst e;exact H w1 h1 d) a hr
theorem aa {id:Nat}{y:Code}(s:SS w0 h0 w h B Rs F)(l:List It)(H:LG P n (fun a w=>y.wp P (iy N R X) a w) R X ops (0+l.length) (vo Γ (xI ops 0 Γ l)) w)(c:J4 n ops B Γ 0 (xI ops 0 Γ l)=true:=by kernel_rfl)(d:Jo P ops B Γ 0 (xI ops 0 Γ l)=(xI ops 0 Γ l).map (fun x=>some (.value x.2.1,cJ B x.2.2)):=by kernel_rfl):CG P n N R X (.seq (.region id ops false) y) Γ w:=aA (lL s l H c d)
theorem ag {x y:Code}(H:CG P n (fun a w=>y.wp P (iy N' R' X') a w) R' X' x Γ w)(c:(k==ops.size)=true:=by kernel_rfl):LG P n (fun a w=>(Code.seq x y).wp P (iy N' R' X') a w) R X ops k Γ w:=lN (CG.seq H) c
theorem aZ {id:Nat}{c:Code}(H:CG P n N' R' (fun i=>if i=id then N' else X' i) c Γ w)(d:(k==ops.size)=true:=by kernel_rfl):LG P n (fun a w=>(Code.block id c).wp P (iy N' R' X') a w) R X ops k Γ w:=lN (CG.block H) d
theorem ah {c:Operand}{x y:Code}(H:CG P n N' R' X' y Γ w)(d:(k==ops.size)=true:=by kernel_rfl)(hi:i6 Γ c=true:=by kernel_rfl)(hv:ev Γ c=.bool false:=by kernel_rfl):LG P n (fun a w=>(Code.cond c x y).wp P (iy N' R' X') a w) R X ops k Γ w:=lN (dE H hi hv) d
theorem ak {c:Operand}{x y:Code}(H:CG P n N' R' X' x Γ w)(d:(k==ops.size)=true:=by kernel_rfl)(hi:i6 Γ c=true:=by kernel_rfl)(hv:ev Γ c=.bool true:=by kernel_rfl):LG P n (fun a w=>(Code.cond c x y).wp P (iy N' R' X') a w) R X ops k Γ w:=lN (ck H hi hv) d
theorem ae {c:Func}{Φ:Value->Hp->Prop}(s:SS w0 h0 w h B Rs F)(ps:List (Nat×Nat×Nat))(v)(d:Φ v h)(e:(k==ops.size)=true:=by kernel_rfl)(hk:(ot c Γ&&dt B ps)=true:=by kernel_rfl)(f:cc P (pK c Γ) (dY B ps)=some (v,cJ B ps):=by kernel_rfl):LG P n (fun a w=>Code.ret.wp P (iy N' (oh P c (Ret w0 h0 Φ)) X') a w) R X ops k Γ w:=lN (CG.ret (s.ret ps v d hk f)) e
end
section drawn
variable {M:Ms}{P:Program}{n:Nat}{N R:Po}{X:Nat->Po}{ops:Array Oper}{k0:Nat}{hr:Hp}{AL:List Al}{L:Array Bool}{Γ:cC}{w:World}{h:Hp}{w0:World}{h0:Hp}{B:List Bx}{Rs:List Rw}{F:List (Hp->Prop)}
def cE (n:Nat)(ops:Array Oper)(k0:Nat)(AL:List Al)(L:Array Bool)(Γ:cC)(i t:Nat):Bool:=em n ops k0 AL L i t && bc Γ (am ops i) && (bu ops Γ (am ops i) == some true)
def Dr (n:Nat)(ops:Array Oper)(k0:Nat)(AL:List Al)(L:Array Bool)(Γ:cC)(i t:Nat):Bool:=em n ops k0 AL L i t && bc Γ (am ops i) && ju ops k0 i && (bu ops Γ (am ops i) == some true)
def Gq (n:Nat)(ops:Array Oper)(k0:Nat)(AL:List Al)(L:Array Bool)(Γ:cC)(i t:Nat):Bool:=oP n ops k0 AL L i t && bc Γ (am ops i) && (bu ops Γ (am ops i) == some true)
theorem jy {i t:Nat}(h:cE n ops k0 AL L Γ i t=true):(em n ops k0 AL L i t && bc Γ (am ops i))=true/\bu ops Γ (am ops i)=some true:=by
 unfold cE at h;rw[lu] at h;exact ⟨h.1,by simpa using h.2⟩
theorem i9 {i t:Nat}(h:Dr n ops k0 AL L Γ i t=true):(em n ops k0 AL L i t && bc Γ (am ops i) && ju ops k0 i)=true/\bu ops Γ (am ops i)=some true:=by
 unfold Dr at h;rw[lu] at h;exact ⟨h.1,by simpa using h.2⟩
theorem jK {i t:Nat}(h:Gq n ops k0 AL L Γ i t=true):(oP n ops k0 AL L i t && bc Γ (am ops i))=true/\bu ops Γ (am ops i)=some true:=by
 unfold Gq at h;rw[lu] at h;exact ⟨h.1,by simpa using h.2⟩
theorem eV (i t v)(H:EG M P n N R X ops k0 hr AL (L.setIfInBounds i true) ((t,v)::Γ) w h)(a:cE n ops k0 AL L Γ i t=true:=by kernel_rfl)(hv:∀ w,(execOp (ev Γ) (am ops i)).run P w=.ok (.value v) w:=by intro _;kernel_rfl):EG M P n N R X ops k0 hr AL L Γ w h :=
 Rg.pure i t v (jy a).1 (jy a).2 hv H
theorem eB (i t){e b:Bool}(c:e=b)(H:EG M P n N R X ops k0 hr AL (L.setIfInBounds i true) ((t,.bool b)::Γ) w h)(a:cE n ops k0 AL L Γ i t=true:=by kernel_rfl)(hv:∀ w,(execOp (ev Γ) (am ops i)).run P w=.ok (.value (.bool e)) w:=by intro _;kernel_rfl):EG M P n N R X ops k0 hr AL L Γ w h :=
 Rg.pure i t _ (jy a).1 (jy a).2 (fun w=>c▸hv w) H
theorem eI (i t m)(H:EG M P n N R X ops k0 hr AL (L.setIfInBounds i true) ((t,.int .i64 m)::Γ) w h)(a:cE n ops k0 AL L Γ i t=true:=by kernel_rfl)(hv:∀ w,(execOp (ev Γ) (am ops i)).run P w=.ok (.value (.int .i64 (IntKind.wrap .i64 m))) w:=by intro _;kernel_rfl)(h0 : -(2^63)<=m:=by omega)(h1:m<=(2^63-1):=by omega):EG M P n N R X ops k0 hr AL L Γ w h :=
 Rg.pure i t _ (jy a).1 (jy a).2 (fun w=>by have:=hv w;rw[g5 h0 h1] at this;exact this) H
theorem kL (i t:Nat)(m:Int)(j:Nat)(H:EG M P n N R X ops k0 hr AL (L.setIfInBounds i true) ((t,.int .i64 (j:Int))::Γ) w h)(a:cE n ops k0 AL L Γ i t=true:=by kernel_rfl)(hv:∀ w,(execOp (ev Γ) (am ops i)).run P w=.ok (.value (.int .i64 (IntKind.wrap .i64 m))) w:=by intro _;kernel_rfl)(c:m=j:=by omega)(h1:m<=9223372036854775807:=by omega):EG M P n N R X ops k0 hr AL L Γ w h :=
 Rg.pure i t _ (jy a).1 (jy a).2 (fun w=>by have:=hv w;rw[g5 oM h1,c] at this;exact this) H
theorem eG (i t)(H:EG M P n N R X ops k0 hr AL (L.setIfInBounds i true) ((t,undef)::Γ) w h)(a:em n ops k0 AL L i t=true:=by kernel_rfl)(c:bu ops Γ (am ops i)=some false:=by kernel_rfl):EG M P n N R X ops k0 hr AL L Γ w h:=Rg.skip i t a c H
theorem eO (i t)(ps:List (Nat × Nat × Nat))(v)(s:SS w0 h0 w h B Rs F)(H:EG M P n N R X ops k0 hr AL (L.setIfInBounds i true) ((t,v)::Γ) w h)(hM:∀ p∈ps,(aw B p.1).b ∉ M.l:=by intro _ _;exact List.not_mem_nil)(a:Dr n ops k0 AL L Γ i t=true:=by kernel_rfl)(c:dt B ps=true:=by kernel_rfl)(d:cc P (execOp (ev Γ) (am ops i)) (dY B ps)=some (.value v,cJ B ps):=by kernel_rfl):EG M P n N R X ops k0 hr AL L Γ w h :=
 Rg.own i t ps v s.st (i9 a).1 (i9 a).2 hM c d H
theorem eH (i t v){b o:Nat}{cs:List Value}(s:SS w0 h0 w h B Rs F)(d:Seg h b o cs)(H:EG M P n N R X ops k0 hr AL (L.setIfInBounds i true) ((t,v)::Γ) w h)(hM:∀ b∈M.l,h[b]?=some bp:=by intro _ hb;cases hb)(a:Dr n ops k0 AL L Γ i t=true:=by kernel_rfl)(c:cc P (execOp (ev Γ) (am ops i)) cs=some (.value v,mn b o cs.length):=by kernel_rfl):EG M P n N R X ops k0 hr AL L Γ w h :=
 Rg.load i t v (i9 a).1 (i9 a).2 (fun _ e=>Seg.runM d s.g hM e c) H
theorem qL (i t v){u:Value}{b o:Nat}{cs:List Value}(s:SS w0 h0 w h B Rs F)(d:Seg h b o cs)(e:v=u)(H:EG M P n N R X ops k0 hr AL (L.setIfInBounds i true) ((t,u)::Γ) w h)(hM:∀ b∈M.l,h[b]?=some bp:=by intro _ hb;cases hb)(a:Dr n ops k0 AL L Γ i t=true:=by kernel_rfl)(c:cc P (execOp (ev Γ) (am ops i)) cs=some (.value v,mn b o cs.length):=by kernel_rfl):EG M P n N R X ops k0 hr AL L Γ w h :=
 Rg.load i t u (i9 a).1 (i9 a).2 (fun _ f=>e▸Seg.runM d s.g hM f c) H
theorem eX (i t A len a sz x j)(f:A=some ⟨aB A,aO A,none⟩)(H:EG M P n N R X ops k0 hr AL (L.setIfInBounds i true) ((t,.pointer (some ⟨aB A,aO A+j*sz,none⟩))::Γ) w h)(d:cE n ops k0 AL L Γ i t=true:=by kernel_rfl)(e:EE P (ev Γ) (am ops i)=some (.slice A len a,.int .i64 x,sz):=by kernel_rfl)(hk:x=j:=by omega)(c:j<len:=by omega):EG M P n N R X ops k0 hr AL L Γ w h :=
 Rg.pure i t _ (jy d).1 (jy d).2 (im e f hk c) H
theorem eT (i t:Nat)(A:Z9)(len a sz:Nat)(x:Int)(j:Nat)(H:EG M P n N R X ops k0 hr AL (L.setIfInBounds i true) ((t,.slice A j a)::Γ) w h)(d:cE n ops k0 AL L Γ i t=true:=by kernel_rfl)(e:DA P (ev Γ) (am ops i)=some (.slice A len a,none,some (.int .i64 x),sz):=by kernel_rfl)(hk:x=j:=by omega)(c:j<=a:=by omega):EG M P n N R X ops k0 hr AL L Γ w h :=
 Rg.pure i t _ (jy d).1 (jy d).2 (uv j e hk c) H
theorem eQ {α:Type}(i t j)(l:List α)(f:α->List Value)(sz)(d:α)(e v)(s:SS w0 h0 w h B Rs F)(hk:e<l.length)(H:EG M P n N R X ops k0 hr AL (L.setIfInBounds i true) ((t,v)::Γ) w h)(hM:(aw B j).b ∉ M.l:=by exact List.not_mem_nil)(a:Dr n ops k0 AL L Γ i t=true:=by kernel_rfl)
  (c:decide (j<B.length)=true:=by kernel_rfl)(hB:(aw B j).vs=l.flatMap f:=by kernel_rfl)(hf:∀ x,(f x).length=sz:=by intro _;rfl)
  (o:cc P (execOp (ev Γ) (am ops i)) (f (l.getD e d))=some (.value v,mn (aw B j).b (0+e*sz) (f (l.getD e d)).length):=by kernel_rfl):EG M P n N R X ops k0 hr AL L Γ w h :=
 Rg.ownA i t j l f sz d e v s.st (i9 a).1 (i9 a).2 hM c hB hf hk o H
theorem eC (i t){f:FuncId}{args:Array Value}{Φ:World->Hp->Value->Hp->Prop}(s:SS w0 h0 w h B Rs F)(c:∀ w1 h1,SS w0 h0 w1 h1 B Rs F->Calls P f args w1 (Ret w1 h1 (Φ w1 h1)))(H:∀ w1 h1 v w' a,SS w0 h0 w' a B Rs F->Φ w1 h1 v a->EG M P n N R X ops k0 hr AL (L.setIfInBounds i true) ((t,v)::Γ) w' a)(o:Gq n ops k0 AL L Γ i t=true:=by kernel_rfl)(hv:∀ w,(execOp (ev Γ) (am ops i)).run P w=.ok (.enter f args) w:=by intro _;kernel_rfl):EG M P n N R X ops k0 hr AL L Γ w h :=
 Rg.call i t f args (jK o).1 (jK o).2 hv (fun w1 h1 u=>(c w1 h1 (s.step u)).mono fun e w' ⟨v,a,p,j,d⟩=>⟨v,a,p,j.m M.l,H w1 h1 v w' a ((s.step u).step j) d⟩)
theorem eR (i t ty m cs)(s:SS w0 h0 w h B Rs F)(H:∀ b w' a,SS w0 h0 w' a B Rs ((fun h=>Seg h b 0 cs)::F)->EG M P n N R X ops k0 hr AL (L.setIfInBounds i true) ((t,.slice (some ⟨b,0,none⟩) m m)::Γ) w' a)(c:Gq n ops k0 AL L Γ i t=true:=by kernel_rfl)
  (hv:∀ w,(execOp (ev Γ) (am ops i)).run P w=.ok (.value (.slice (some ⟨w.heap.size,0,none⟩) m m)) (w.alloc (.cells cs.toArray ty (0,0))):=by intro _;kernel_rfl):EG M P n N R X ops k0 hr AL L Γ w h :=
 Rg.row i t ty m cs (jK c).1 (jK c).2 hv (fun b w' a u d=>H b w' a ((s.step u).a_Seg d))
theorem eY {α:Type}(i t j ty sz c A)(l:List α)(f:α->List Value)(x:α)(bt b z)(s:SS w0 h0 w h B Rs F)(sg:∀ h,AllF F h->Seg h b 0 (f x))(W:∀ b,(Value.slice A l.length c).ownBlock=some b->b∈M.l)
  (H:∀ O c' w' C,SS w0 h0 w' C B (Rs.set j ⟨ty,sz,O,c',(l++[x]).length,(l++[x]).flatMap f⟩) F->EG M P n N R X ops k0 hr AL (L.setIfInBounds i true) ((t,.slice O (l++[x]).length c')::Γ) w' C)
  (K:Gq n ops k0 AL L Γ i t=true:=by kernel_rfl)(he:sJ P (ev Γ) (am ops i)=some (.slice A l.length c,.slice (some ⟨b,0,none⟩) 1 1,ty,z,sz,bt):=by kernel_rfl)(S:z.cells.size=sz:=by kernel_rfl)(J:0<sz:=by decide)
  (U:Rs.getD j default=⟨ty,sz,A,c,l.length,l.flatMap f⟩:=by kernel_rfl)(hj:decide (j<Rs.length)=true:=by kernel_rfl)(h1:(f x).all (·.oneCell')=true:=by kernel_rfl)(hl:(f x).length=1*sz:=by kernel_rfl)(hm:l.length+1<=(2^40):=by omega)(hb:(l.length+1)*bt<=(2^47):=by omega):EG M P n N R X ops k0 hr AL L Γ w h:=by
 have d:=oT hj;refine Rg.event i t (jK K).1 (jK K).2 (fun w1 h1' u=>?_);have D:=s.step u;obtain ⟨x',y,ty',ho,hx,hy,V,hi⟩:=j3 he;have r:=D.ro _ (gg d);have p:=fj U d;rw[p] at r
 obtain ⟨v',w',a,ow,o,I⟩:=me (P:=P) ho hx hy V hi S J D.st r hl (kO D.g (sg _ D.f)) (fun u V=>(o0.1 h1) u V) hm hb;have Y:=D.grown (j:=j) d (w':=w') (v':=v') (m2:=1) (news:=f x) (by rw[p];exact ow) (by rw[p];exact o) (by rw[p];exact I);rw[p] at Y
 obtain ⟨C,O,c',rfl,e2,Q⟩:=Y;have Z:l.length+1=(l++[x]).length:=by simp
 simp only[] at Q;rw[nw,Z] at Q;rw[Z] at a;exact .inl ⟨_,w',C,a,⟨⟨o.os,o.tape,o.output,o.size,fun c K hn=>o.block c K (fun e=>hn (W c e.symm))⟩,e2,Q.g⟩,H O c' w' C Q⟩
theorem bM (s:SS w0 h0 w h B Rs F)(H:∀ w' a,SS w0 h0 w' a B Rs F->AG M P n N R X ops k0 L Γ w')(c:gX ops [] L=true:=by kernel_rfl):EG M P n N R X ops k0 hr [] L Γ w h:=Rg.fin0 c (fun w' a u=>H w' a (s.step u))
def cT (n:Nat)(ops:Array Oper)(k0:Nat)(L:Array Bool)(Γ:cC)(i t:Nat):Bool:=iE ops k0 L i && bc Γ (am ops i) && ((am ops i).dst == some t) && decide (t<n) && (bu ops Γ (am ops i) == some true)
def Jb (ops:Array Oper)(k0:Nat)(L:Array Bool)(Γ:cC)(i:Nat):Bool:=iE ops k0 L i && bc Γ (am ops i) && ((am ops i).dst == none) && (bu ops Γ (am ops i) == some true)
theorem jG {i t:Nat}(h:cT n ops k0 L Γ i t=true):(iE ops k0 L i && bc Γ (am ops i) && ((am ops i).dst == some t) && decide (t<n))=true/\bu ops Γ (am ops i)=some true:=by
 unfold cT at h;rw[lu] at h;exact ⟨h.1,by simpa using h.2⟩
theorem lp {i:Nat}(h:Jb ops k0 L Γ i=true):(iE ops k0 L i && bc Γ (am ops i) && ((am ops i).dst == none))=true/\bu ops Γ (am ops i)=some true:=by
 unfold Jb at h;rw[lu] at h;exact ⟨h.1,by simpa using h.2⟩
theorem tV (i t v)(H:AG M P n N R X ops k0 (L.setIfInBounds i true) ((t,v)::Γ) w)(a:cT n ops k0 L Γ i t=true:=by kernel_rfl)(hv:(execOp (ev Γ) (am ops i)).run P w=.ok (.value v) w:=by kernel_rfl):AG M P n N R X ops k0 L Γ w:=T.val i t v w (jG a).1 (jG a).2 hv H
theorem tP (i j o cs)(s:SS w0 h0 w h B Rs F)(H:∀ w',SS w0 h0 w' h (iH B j o cs) Rs F->AG M P n N R X ops k0 (L.setIfInBounds i true) Γ w')(c:Jb ops k0 L Γ i=true:=by kernel_rfl)
  (a:(decide (j<B.length) && decide (o+cs.length<=(aw B j).vs.length))=true:=by kernel_rfl)(f:d8 P (execOp (ev Γ) (am ops i))=some (.skip,od (aw B j).b o cs):=by kernel_rfl)(hz:∀ K bs,M.z=some (K,bs)->K<=(aw B j).b\/(aw B j).b∈bs:=by intro _ _ e;cases e):AG M P n N R X ops k0 L Γ w :=
 T.put i j o cs s.st s.g0 (lp c).1 (lp c).2 a f (fun w' p d=>H w' (s.put0 (oT (lu _ _▸a).1) p d (qA (oT (lu _ _▸a).1)))) hz
theorem tW {α:Type}(i j)(l:List α)(f:α->List Value)(sz e)(x:α)(s:SS w0 h0 w h B Rs F)(hk:e<l.length)(H:∀ w',SS w0 h0 w' h (iP B j ((l.set e x).flatMap f)) Rs F->AG M P n N R X ops k0 (L.setIfInBounds i true) Γ w')(c:Jb ops k0 L Γ i=true:=by kernel_rfl)
  (a:decide (j<B.length)=true:=by kernel_rfl)(hB:(aw B j).vs=l.flatMap f:=by kernel_rfl)(hf:∀ x,(f x).length=sz:=by intro _;rfl)
  (o:d8 P (execOp (ev Γ) (am ops i))=some (.skip,od (aw B j).b (0+e*sz) (f x)):=by kernel_rfl)(hz:∀ K bs,M.z=some (K,bs)->K<=(aw B j).b\/(aw B j).b∈bs:=by intro _ _ e;cases e):AG M P n N R X ops k0 L Γ w :=
 T.putA i j l f sz e x s.st s.g0 (lp c).1 (lp c).2 a hB hf hk o (fun w' p d=>H w' (s.put0 (oT a) p d (li (oT a)))) hz
theorem tN {y:Code}{N' R':Po}{X':Nat->Po}(H:CG P n N' R' X' y Γ w)(c:(Region.ready .any ops L).isEmpty=true:=by kernel_rfl):AG M P n (fun a w=>y.wp P (iy N' R' X') a w) R X ops k0 L Γ w:=T.next c H
theorem rm {id:Nat}{c:Array Oper}{y:Code}{N' R':Po}{X':Nat->Po}(H:LG P n (fun a w=>y.wp P (iy N' R' X') a w) R' X' c 0 Γ w)(d:(Region.ready .any ops L).isEmpty=true:=by kernel_rfl):AG M P n (fun a w=>(Code.seq (.region id c false) y).wp P (iy N' R' X') a w) R X ops k0 L Γ w:=tN (aA H) d
theorem tD (H:∀ a,Kn n a Γ->N a w)(c:(Region.ready .any ops L).isEmpty=true:=by kernel_rfl):AG M P n N R X ops k0 L Γ w:=T.done c H
theorem cR {id:Nat}{d:Bool}(k0)(AL:List Al)(e:P.follows .mixedOrders=true)(s:SS w0 h0 w h B Rs F)(c:∀ x∈AL,AlOk P ops k0 x)(H:EG ⟨[],none⟩ P n N R X ops k0 h AL (tw ops.size false) Γ w h)(a:mE ops=true:=by kernel_rfl):CG P n N R X (.region id ops d) Γ w :=
 CG.region ⟨[],none⟩ k0 AL e a s.g c (fun _ f=>by cases f) H
end drawn
theorem au {M:Ms}{P:Program}{n:Nat}{N R:Po}{X:Nat->Po}{ops:Array Oper}{k0:Nat}{hr:Hp}{AL:List Al}{L:Array Bool}{Γ:cC}{w w0:World}{h h0:Hp}{B:List Bx}{Rs:List Rw}{F:List (Hp->Prop)}(i t){f:FuncId}{args:Array Value}{x:Value}(s:SS w0 h0 w h B Rs F)(c:∀ w1 h1,SS w0 h0 w1 h1 B Rs F->Calls P f args w1 (Ret w1 h1 fun v _=>v=x))(H:∀ w1 h1,SS w0 h0 w1 h1 B Rs F->EG M P n N R X ops k0 hr AL (L.setIfInBounds i true) ((t,x)::Γ) w1 h1)(a:Gq n ops k0 AL L Γ i t=true:=by kernel_rfl)(hv:∀ w,(execOp (ev Γ) (am ops i)).run P w=.ok (.enter f args) w:=by intro _;kernel_rfl):EG M P n N R X ops k0 hr AL L Γ w h:=eC i t s c (fun _ _ v w1 h1 d e=>by subst e;exact H w1 h1 d) a hv
theorem DG {w:World}{h:Hp}(g:G w h){b:Nat}{ty:TypeId}{vs:List Value}(j:h[b]?=some bp)(o:Own w b ty vs):∃ d,G w d/\Gw h d/\Seg d b 0 vs/\∀ c,c≠b->d[c]?=h[c]?:=by
 have a:=aW j;refine ⟨h.setIfInBounds b (.cells vs.toArray ty (0,0)),⟨by simp;exact g.size,fun c=>?_⟩,⟨by simp,fun c f=>?_⟩,fun i v hv=>?_,fun c f=>la (Ne.symm f)⟩
 ·by_cases e:b=c
  ·subst e;left;rw[Bs a];exact o.symm
  ·rw[la e];exact g.blk c
 ·by_cases e:b=c
  ·subst e;exact .inr j
  ·left;rw[la e]
 ·unfold eF
  rw[Bs a];simpa using hv
theorem uw {w w':World}{h d i:Hp}{b:Nat}(l:h[b]?=some bp)(o:∀ c,c≠b->d[c]?=h[c]?)(f:d.size=h.size)(u:Up w d w' i):∃ j,Up w h w' j:=by
 have p:=aW l;have a:b<i.size:=er oM u.gr.size;refine ⟨i.setIfInBounds b bp,u.ext,⟨by simp;rw[<-f];exact u.gr.size,fun c x=>?_⟩,⟨by simp;exact u.g.size,fun c=>?_⟩⟩
 ·by_cases e:b=c
  ·subst e;rw[Bs a,l]
  ·rw[la e,u.gr.blk c oM,o c (Ne.symm e)]
 ·by_cases e:b=c
  ·subst e;right;rw[Bs a]
  ·rw[la e];exact u.g.blk c
theorem G.sz {w:World}{h a:Hp}(g:G w h)(g':G w a):a.size=h.size:=by rw[<-g.size,<-g'.size]
section lent
variable {M:Ms}{P:Program}{n:Nat}{N R:Po}{X:Nat->Po}{ops:Array Oper}{k k0:Nat}{hr:Hp}{AL:List Al}{L:Array Bool}{Γ:cC}{w:World}{h:Hp}{w0:World}{h0:Hp}{B:List Bx}{Rs:List Rw}{F:List (Hp->Prop)}
theorem SS.lends (s:SS w0 h0 w h B Rs F){j:Nat}(p:j<B.length){f:FuncId}{args:Array Value}{Φ:Value->Prop}(c:∀ a,G w a->AllF F a->Seg a (aw B j).b 0 (aw B j).vs->Calls P f args w (Ret w a (fun v _=>Φ v))):Calls P f args w (Ret w h (fun v _=>Φ v)):=by
 have l:=bC p;obtain ⟨a,g,gw,z,o⟩:=DG s.g (s.st.jk _ l) (s.st.own _ l);refine (c a g (s.f.gw s.mo gw) z).mono ?_;rintro e w' ⟨v,C,y,u,i⟩;obtain ⟨d,x⟩:=uw (s.st.jk _ l) o (s.g.sz g) u;exact ⟨v,d,y,x,i⟩
theorem LY (t j){f:FuncId}{args:Array Value}{Φ:Value->Prop}(s:SS w0 h0 w h B Rs F)(c:∀ hp,G w hp->AllF F hp->Seg hp (aw B j).b 0 (aw B j).vs->Calls P f args w (Ret w hp (fun v _=>Φ v)))(H:∀ v w' h',SS w0 h0 w' h' B Rs F->Φ v->LG P n N R X ops (k+1) ((t,v)::Γ) w')(d:decide (j<B.length)=true:=by kernel_rfl)(a:cL ops Γ k t n=true:=by kernel_rfl)(hr:(execOp (ev Γ) (am ops k)).run P w=.ok (.enter f args) w:=by kernel_rfl):LG P n N R X ops k Γ w :=
 lC t s (s.lends (oT d) c) H a hr
end lent
section unroll
variable {P:Program}{n:Nat}{N R:Po}{X:Nat->Po}{Γ:cC}{w:World}
def Me (P:Program)(N R:Po)(X:Nat->Po)(c:Code)(a:Act)(w:World):Prop:=∀ (b:Frame) (k:List Item) (cs:List Frame),∃ e a' w',iy N R X e a' w'/\Arrives P (lone (b.at a (.code c::.inLoop c::k)) cs w) b k cs e a' w'
def CL (P:Program)(n:Nat)(N R:Po)(X:Nat->Po)(c:Code)(Γ:cC)(w:World):Prop:=∀ a,Kn n a Γ->Me P N R X c a w
theorem cU {c:Code}(H:CL P n N R X c Γ w):CG P n N R X (.loop c) Γ w:=fun a f b k cs=>by
 obtain ⟨e,i,w',h,d⟩:=H a f b k cs;exact ⟨e,i,w',h,.of_steps (.one step_loop) d⟩
theorem cN {c:Code}(H:CG P n (Me P N R X c) R X c Γ w):CL P n N R X c Γ w:=fun a z b k cs=>by
  obtain ⟨e,i,h,o,d⟩:=H a z b (.inLoop c::k) cs;cases e with
  | normal =>
    obtain ⟨p,y,u,j,f⟩:=o b k cs;exact ⟨p,y,u,j,.of_steps (Steps.trans d (.one step_inLoop)) f⟩
  | exit id=>exact ⟨.exit id,i,h,o,.pass (x:=.inLoop c) rfl (fun _ _=>.inl (by simp)) d⟩
  | goto l=>exact o.elim
  | ret=>exact ⟨.ret,i,h,o,.pass (x:=.inLoop c) rfl (fun _ _=>.inl (by simp)) d⟩
  | panic ch=>exact o.elim
  | outgrown=>exact o.elim
theorem CL.to {c:Code}(Γ':cC)(H:CL P n N R X c Γ' w)(e:kM Γ (Γ'.map (·.1))=Γ':=by kernel_rfl)(f:gI Γ'=gI Γ:=by kernel_rfl):CL P n N R X c Γ w:=fun a d=>H a (d.to Γ' e f)
end unroll
theorem mixed:Tryz.prog.follows .mixedOrders=true:=by kernel_rfl
theorem rb {s:Result Next}{e b:Bool}{w:World}(h:s=.ok (.value (.bool e)) w)(a:e=b):s=.ok (.value (.bool b)) w:=a▸h
theorem aK {s:Result Next}{k:IntKind}{n m:Int}{w:World}(h:s=.ok (.value (.int k n)) w)(e:n=m):s=.ok (.value (.int k m)) w:=e▸h
theorem rU {s:Result Next}{m:Int}{w:World}(x)(h:s=.ok (.value (.int .u64 (IntKind.wrap .u64 x))) w)(e:IntKind.wrap .u64 x=m):s=.ok (.value (.int .u64 m)) w:=aK (n:=IntKind.wrap .u64 x) h e
theorem rS {s:Result Next}{m:Int}{w:World}(x)(h:s=.ok (.value (.int .i64 (IntKind.wrap .i64 x))) w)(e:IntKind.wrap .i64 x=m):s=.ok (.value (.int .i64 m)) w:=aK (n:=IntKind.wrap .i64 x) h e
theorem rT {s:Result Next}{m:Int}{w:World}(x)(h:s=.ok (.value (.int .u32 (IntKind.wrap .u32 x))) w)(e:IntKind.wrap .u32 x=m):s=.ok (.value (.int .u32 m)) w:=aK (n:=IntKind.wrap .u32 x) h e
theorem DW (n:Nat):IntKind.wrap .u8 (n:Int)=((n%256:Nat):Int):=by rw[IntKind.wrap_u8];omega
theorem g8 (n:Nat):IntKind.wrap .u32 (n:Int)=((n%4294967296:Nat):Int):=by rw[IntKind.wrap_u32];omega
theorem B1 (n:Nat):IntKind.wrap .u64 (n:Int)=((n%18446744073709551616:Nat):Int):=by rw[IntKind.wrap_u64];omega
theorem qi {n:Int}(h0:0<=n)(h:n<(2^32)):IntKind.wrap .u32 n=n:=by rw[IntKind.wrap_u32];omega
theorem bh {n:Int}(h0:0<=n)(h:n<(2^64)):IntKind.wrap .u64 n=n:=by rw[IntKind.wrap_u64];omega
theorem pn {n:Int}(h0 : -(2^63)<=n)(h:n<(2^63)):IntKind.wrap .i64 n=n:=by rw[IntKind.wrap_i64];omega
theorem Jv {n:Nat}(h:n<(2^32)):IntKind.wrap .u32 (n:Int)=(n:Int):=by rw[IntKind.wrap_u32];omega
theorem Jn {n:Nat}(h:n<(2^64)):IntKind.wrap .u64 (n:Int)=(n:Int):=by rw[IntKind.wrap_u64];omega
theorem K6 {n:Nat}(h:n<(2^63)):IntKind.wrap .i64 (n:Int)=(n:Int):=by rw[IntKind.wrap_i64];omega
theorem eN (a b:Nat):Int.fdiv (a:Int) (b:Int)=((a/b:Nat):Int):=by rw[Hj _ oM];simp
theorem uH (a b:Nat):HA (a:Int) (b:Int)=((a/b:Nat):Int):=rfl
theorem dH (a b:Nat):Int.tmod (a:Int) (b:Int)=((a%b:Nat):Int):=rfl
theorem lk (a b:Nat)(h:a<(2^64)):IntKind.wrap .u64 (HA (a:Int) (b:Int))=((a/b:Nat):Int):=by rw[uH];exact Jn (H1 (L2 _ _) h)
theorem dN (a b:Nat)(h:a<(2^63)):IntKind.wrap .i64 (HA (a:Int) (b:Int))=((a/b:Nat):Int):=by rw[uH];exact K6 (H1 (L2 _ _) h)
section div
variable {P:Program}{Γ:cC}{o:Oper}
theorem dU {t u:TypeId}{x y:Operand}{k:IntKind}{a b:Int}(d:o.op=.binOp .quo t x y u)(e:ev Γ x=.int k a)(f:ev Γ y=.int k b)(c:b≠0)(w):
  (execOp (ev Γ) o).run P w=.ok (.value (.int k (k.wrap (a.tdiv b)))) w:=by
 unfold execOp;simp only[d];rw[e,f];simp[binOp,eqGuard,Op.intDiv,c,Result.andThen]
theorem fP {t u:TypeId}{x y:Operand}{k:IntKind}{a b:Int}(d:o.op=.binOp .rem t x y u)(e:ev Γ x=.int k a)(f:ev Γ y=.int k b)(c:b≠0)(w):
  (execOp (ev Γ) o).run P w=.ok (.value (.int k (a.tmod b))) w:=by
 unfold execOp;simp only[d];rw[e,f];simp[binOp,eqGuard,Op.intDiv,c,Result.andThen]
theorem KJ {t u:TypeId}{x y:Operand}{k ky:IntKind}{a:Int}{n:Nat}(d:o.op=.binOp .shl t x y u)(e:ev Γ x=.int k a)(f:ev Γ y=.int ky (n:Int))(hn:n<=k.bits)(w):
  (execOp (ev Γ) o).run P w=.ok (.value (.int k (k.wrap (a*2^n)))) w:=by
 unfold execOp;simp only[d];rw[e,f];have c:min n k.bits=n:=by omega
 have hz:¬((n:Int)<0):=by omega
 simp[binOp,eqGuard,Op.shift,Result.andThen,c,hz]
theorem Kj {t u:TypeId}{x y:Operand}{k ky:IntKind}{a:Int}{n:Nat}(e:o.op=.binOp .shr t x y u)(f:ev Γ x=.int k a)(h:ev Γ y=.int ky (n:Int))(hn:n<=k.bits)(w):
  (execOp (ev Γ) o).run P w=.ok (.value (.int k (a/2^n))) w:=by
 unfold execOp;simp only[e];rw[f,h];have c:min n k.bits=n:=by omega
 have hz:¬((n:Int)<0):=by omega
 have d:(0:Int)<=2^n:=My kD
 simp[binOp,eqGuard,Op.shift,Result.andThen,c,hz,Hj _ d]
theorem iO {t u:TypeId}{x y:Operand}{a b:Nat}(d:o.op=.binOp .or t x y u)(f:ev Γ x=.int .u64 (a:Int))(h:ev Γ y=.int .u64 (b:Int))(ha:a<(2^64))(c:b<(2^64))(w):
  (execOp (ev Γ) o).run P w=.ok (.value (.int .u64 ((a ||| b:Nat):Int))) w:=by
 unfold execOp;simp only[d];rw[f,h];have e:bits .or .u64 (a:Int) (b:Int)=((a ||| b:Nat):Int):=by
  unfold bits;have h1:(BitVec.ofInt 64 (a:Int) ||| BitVec.ofInt 64 (b:Int)).toNat=a ||| b:=by
   rw[BitVec.toNat_or];congr 1<;>(simp[BitVec.toNat_ofInt];omega)
  show IntKind.wrap .u64 (((BitVec.ofInt 64 (a:Int) ||| BitVec.ofInt 64 (b:Int)).toNat:Nat):Int)=_
  rw[h1];have:=MM (n:=64) ha c;exact bh oM oM
 simp[binOp,eqGuard,Result.andThen,intBits_or,e]
theorem IN {t u:TypeId}{x y:Operand}{a b:Nat}(d:o.op=.binOp .or t x y u)(f:ev Γ x=.int .u32 (a:Int))(h:ev Γ y=.int .u32 (b:Int))(ha:a<(2^32))(c:b<(2^32))(w):
  (execOp (ev Γ) o).run P w=.ok (.value (.int .u32 ((a ||| b:Nat):Int))) w:=by
 unfold execOp;simp only[d];rw[f,h];have e:bits .or .u32 (a:Int) (b:Int)=((a ||| b:Nat):Int):=by
  unfold bits;have h1:(BitVec.ofInt 32 (a:Int) ||| BitVec.ofInt 32 (b:Int)).toNat=a ||| b:=by
   rw[BitVec.toNat_or];congr 1<;>(simp[BitVec.toNat_ofInt];omega)
  show IntKind.wrap .u32 (((BitVec.ofInt 32 (a:Int) ||| BitVec.ofInt 32 (b:Int)).toNat:Nat):Int)=_
  rw[h1];have:=MM (n:=32) ha c;exact qi oM oM
 simp[binOp,eqGuard,Result.andThen,intBits_or,e]
end div
def lo (n:Nat):Int:=((n%18446744073709551616:Nat):Int)
def wb:Nat->Nat->List UInt8
  | 0,_=>[]
  | f+1,m=>if m=0 then [] else (o2 8).map (fun k=>UInt8.ofNat (m/256^k))++wb f (m/18446744073709551616)
def hi (n:Nat):ByteArray:=⟨(wb n (n/18446744073709551616)).toArray⟩
abbrev uX (r k:Rat)(s b t:Int)(d:Nat):Value:=.agg #[.bool (af r.num),uV (lo (ab r.num)),.string (hi (ab r.num)),uV (lo (qd r)),.string (hi (qd r)),.bool (af k.num),uV (lo (ab k.num)),.string (hi (ab k.num)),uV (lo (qd k)),.string (hi (qd k)),iV s,iV b,iV t,mV d]
abbrev uC (r k:Rat)(s b t:Int)(d:Nat):List Value:=[.bool (af r.num),uV (lo (ab r.num)),.string (hi (ab r.num)),uV (lo (qd r)),.string (hi (qd r)),.bool (af k.num),uV (lo (ab k.num)),.string (hi (ab k.num)),uV (lo (qd k)),.string (hi (qd k)),iV s,iV b,iV t,mV d]
abbrev qX (q:Rat):Value:=.agg #[.bool (af q.num),uV (lo (ab q.num)),.string (hi (ab q.num)),uV (lo (qd q)),.string (hi (qd q))]
abbrev qC (q:Rat):List Value:=[.bool (af q.num),uV (lo (ab q.num)),.string (hi (ab q.num)),uV (lo (qd q)),.string (hi (qd q))]
abbrev qY (q:Rat)(A:Z9)(m c:Nat):Value:=.agg #[.bool (af q.num),uV (lo (ab q.num)),.string (hi (ab q.num)),uV (lo (qd q)),.string (hi (qd q)),.slice A m c]
abbrev qZ (q:Rat)(A:Z9)(m c:Nat):List Value:=[.bool (af q.num),uV (lo (ab q.num)),.string (hi (ab q.num)),uV (lo (qd q)),.string (hi (qd q)),.slice A m c]
abbrev wX (b:Value)(m:Nat):Value:=.agg #[b,uV (lo m),.string (hi m)]
abbrev wC (b:Value)(m:Nat):List Value:=[b,uV (lo m),.string (hi m)]
def nc (n:Nat):List Value:=[.int .u64 (lo n),.string (hi n)]
def nv (n:Nat):Value:=.agg #[.int .u64 (lo n),.string (hi n)]
def ic (z:Int):List Value:=[.bool (af z),.int .u64 (lo (ab z)),.string (hi (ab z))]
def iv (z:Int):Value:=.agg #[.bool (af z),.int .u64 (lo (ab z)),.string (hi (ab z))]
def qc (q:Rat):List Value:=[.bool (af q.num),.int .u64 (lo (ab q.num)),.string (hi (ab q.num)),.int .u64 (lo (qd q)),.string (hi (qd q))]
abbrev Sq (A:Z9)(l:List Rat):Hp->Prop:=fun h_=>SlO 5 qc 0 h_ A l
def qv (q:Rat):Value:=.agg #[.bool (af q.num),.int .u64 (lo (ab q.num)),.string (hi (ab q.num)),.int .u64 (lo (qd q)),.string (hi (qd q))]
theorem nK {n:Nat}(h:n<(2^64)):lo n=(n:Int):=by unfold lo;rw[Am h]
theorem nz {n:Nat}(h:n<(2^64)):hi n=⟨#[]⟩:=by
 unfold hi;rw[MN h];cases n<;>rfl
def ee:List Nat->Nat
  | []=>0
  | x::l=>x+4294967296*ee l
def ry:Nat->Nat->List Nat
  | 0,_=>[]
  | f+1,n=>if n=0 then [] else n%4294967296::ry f (n/4294967296)
def lim (n:Nat):List Nat:=ry n n
abbrev iT (q:Rat)(A:Z9)(c:Nat)(D:Z9)(d:Nat):List Value:=[.bool (af q.num),.slice A (lim (ab q.num)).length c,.slice D (lim q.den).length d]
abbrev rG (q:Rat)(A:Z9)(c:Nat)(D:Z9)(d:Nat):Value:=.agg #[.bool (af q.num),.slice A (lim (ab q.num)).length c,.slice D (lim q.den).length d]
theorem vO:∀ (f g n:Nat),n<=f->n<=g->ry f n=ry g n
  | 0,g,n,hf,hg=>by
    have:n=0:=by omega
    subst this;cases g<;>rfl
  | f+1,0,n,hf,hg=>by
    have:n=0:=by omega
    subst this
    rfl
  | f+1,g+1,n,hf,hg=>by
    unfold ry
    split
    . rfl
    . rw[vO f g (n/4294967296) oM oM]
theorem gA:lim 0=[]:=rfl
theorem fN {n:Nat}(h:0<n):lim n=n%(2^32)::lim (n/(2^32)):=by
 unfold lim;obtain ⟨m,rfl⟩:∃ m,n=m+1:=⟨n-1,by omega⟩;rw[ry,if_neg oM];rw[vO m _ _ oM (ek _)]
theorem FH {n:Nat}(h0:0<n)(h:n<(2^32)):lim n=[n]:=by
 rw[fN h0,Am h,MN h,gA]
theorem gx (n):ee (lim n)=n:=by
  induction n using hP with
  | _ n ih =>
    rcases B2 n with h|h
    . subst h;rfl
    . rw[fN h,ee,ih (n/(2^32)) oM]
      omega
theorem lc (n):∀ x∈lim n,x<(2^32):=by
  induction n using hP with
  | _ n ih =>
    rcases B2 n with h|h
    . subst h;intro x a;cases a
    . rw[fN h]
      intro x a;rcases hC.1 a with rfl|a
      . omega
      . exact ih _ oM x a
theorem bV {n:Nat}:0<(lim n).length↔0<n:=by
 rcases B2 n with h|h
 ·subst h;simp[gA]
 ·rw[fN h];simp[h]
theorem uh {n:Nat}:lim n=[]↔n=0:=by
 constructor
 ·intro h;rcases B2 n with h0|h0;exact h0;rw[fN h0] at h;cases h
 ·rintro rfl;rfl
theorem eU {n k:Nat}(h:n<4294967296^k):(lim n).length<=k:=by
  induction k generalizing n with
  | zero => have:n=0:=by simpa using h
            subst this;simp[gA]
  | succ k ih =>
    rcases B2 n with h0|h0
    . subst h0;simp[gA]
    . rw[fN h0]
      have:n/4294967296<4294967296^k:=MO (by rw[MP,MQ] at h;exact h);have:=ih this
      simp;omega
def tl (l:List Nat):Nat->Nat
  | 0=>0
  | n+1=>if l.getD n 0=0 then tl l n else n+1
theorem iN (l):∀ n,tl l n<=n
 | 0=>ek _
 | n+1=>by unfold tl;split;exact Nat.le_succ_of_le (iN l n);exact ek _
theorem pf {l:List Nat}{n:Nat}(h:n=0\/l.getD (n-1) 0≠0):tl l n=n:=by
 cases n with
 | zero=>rfl
 | succ n=>unfold tl;rw[if_neg];rcases h with h|h;omega;exact h
theorem lm (a b:List Nat):ee (a++b)=ee a+4294967296^a.length*ee b:=by
  induction a with
  | nil=>simp[ee]
  | cons x a ih =>
    simp only[MR,ee,ih,uA,MP,MS]
    rw[<-MT,MQ (4294967296^a.length) 4294967296]
    omega
theorem ma {l:List Nat}(h:∀ x∈l,x<4294967296):ee l<4294967296^l.length:=by
  induction l with
  | nil=>simp[ee]
  | cons x l ih =>
    have h1:=h x (by simp);have c:=ih (fun y a=>h y (by simp[a]))
    simp only[ee,uA,MP];omega
theorem kg (x l):∀ n,tl l n=0->tl (x::l) (n+1)=if x=0 then 0 else 1
  | 0,_=>by simp[tl]
  | n + 1,h=>by
    unfold tl at h;split at h
    . rename_i h0
      show tl (x::l) (n+2)=_
      unfold tl;rw[if_pos (by simpa using h0)];exact kg x l n h
    . omega
theorem mC (l n):tl l (n+1)=if l.getD n 0=0 then tl l n else n+1:=rfl
theorem lE (x l):∀ n,0<tl l n->tl (x::l) (n+1)=tl l n+1
  | 0,h=>by simp[tl] at h
  | n + 1,h=>by
    rw[mC l n] at h ⊢
    rw[mC (x::l) (n+1),y9]
    by_cases h0:l.getD n 0=0
    . rw[if_pos h0] at h ⊢
      rw[if_pos h0];exact lE x l n h
    . rw[if_neg h0,if_neg h0]
theorem pt (l):ee l=0->tl l l.length=0:=by
  intro h;have key:∀ n,n<=l.length->tl l n=0:=by
    have hz:∀ k,l.getD k 0=0:=by
      induction l with
      | nil=>intro k;simp
      | cons x l ih =>
        simp only[ee] at h;intro k;cases k with
        | zero=>simp;omega
        | succ k=>simpa using ih oM k
    intro n;induction n with
    | zero=>intro _;rfl
    | succ n ih=>intro hn;unfold tl;rw[if_pos (hz n)];exact ih oM
  exact key _ (ek _)
theorem Bk {l:List Nat}(h:∀ x∈l,x<(2^32)):lim (ee l)=l.take (tl l l.length):=by
  induction l with
  | nil=>rfl
  | cons x l ih =>
    have h1:=h x (by simp);have a:=ih (fun y f=>h y (by simp[f]))
    rcases B2 (ee (x::l)) with h0|h0
    . rw[h0,gA,pt _ h0];rfl
    . rw[fN h0]
      have d:ee (x::l)%(2^32)=x:=by simp only[ee];omega
      have e:ee (x::l)/(2^32)=ee l:=by simp only[ee];omega
      rw[d,e,a];rcases B2 (tl l l.length) with ht|ht
      . have c:x≠0:=by
          intro c;have:lim (ee l)=[]:=by rw[a,ht];rfl
          have:=uh.1 this
          simp only[ee] at h0;omega
        rw[uA,kg x l _ ht,if_neg c,ht];rfl
      . rw[uA,lE x l _ ht];rfl
theorem ng (n)(h:0<n):(lim n).getD ((lim n).length-1) 0≠0:=by
  induction n using hP with
  | _ n ih =>
    rw[fN h];rcases B2 (n/(2^32)) with h0|h0
    . rw[h0,gA];simp;omega
    . have:=ih (n/(2^32)) oM h0
      have a:=bV.2 h0;rw[uA,show (lim (n/(2^32))).length+1-1=((lim (n/(2^32))).length-1)+1 by omega,y9];exact this
theorem n4 {l:List Nat}{k:Nat}(h:k<l.length):ee (l.take (k+1))=ee (l.take k)+(2^32)^k*l.getD k 0:=by
 have e:l.take (k+1)=l.take k++[l.getD k 0]:=by
  rw[MU];simp[h]
 rw[e,lm,MV,MW oM];show ee (l.take k)+(2^32)^k*(l.getD k 0+(2^32)*0)=_
 rw[MX,y5]
theorem xt {l:List Nat}{k:Nat}(h:k<l.length):ee (l.drop k)=l.getD k 0+(2^32)*ee (l.drop (k+1)):=by
 rw[MY h];simp[ee,h]
def nb (n:Nat):Nat:=if n=0 then 0 else Nat.log2 n+1
theorem DM:nb 0=0:=rfl
theorem cI {n:Nat}(h:0<n):2^(nb n-1)<=n/\n<2^nb n/\0<nb n:=by
 unfold nb;rw[if_neg oM];have:=(MZ (n:=n) (k:=n.log2) oM).1 rfl;exact ⟨this.1,this.2,by omega⟩
theorem lf {n k:Nat}(h1:2^k<=n)(a:n<2^(k+1)):nb n=k+1:=by
 have c:0<2^k:=M0 k
 unfold nb;rw[if_neg oM,(MZ oM).2 ⟨h1,a⟩]
theorem JL (n):n<2^nb n:=by
 rcases B2 n with h|h
 ·subst h;simp[nb]
 ·exact (cI h).2.1
theorem lU {n k:Nat}(h:n<2^k):nb n<=k:=by
 rcases B2 n with h0|h0
 ·subst h0;simp[nb]
 ·have:=cI h0
  rcases ea k (nb n) with hl|hl
  ·have:2^k<=2^(nb n-1):=M1 oM oM
   omega
  ·exact hl
theorem EJ {n:Nat}(h:0<n):nb n=nb (n/2)+1:=by
 rcases ea n 2 with h2|h2
 ·have:n=1:=by omega
  subst this;decide
 ·obtain ⟨c,a,d⟩:=cI (n:=n/2) oM
  apply lf
  ·have:2^nb (n/2)=2*2^(nb (n/2)-1):=by rw[<-M3,show (nb (n/2)-1).succ=nb (n/2) by omega]
   omega
  ·rw[MP];omega
theorem B3 {lo xH k:Nat}(c:lo<2^k)(d:0<xH):nb (lo+2^k*xH)=k+nb xH:=by
 obtain ⟨e,a,f⟩:=cI d;rw[show k+nb xH=(k+(nb xH-1))+1 by omega]
 apply lf
 ·rw[M4]
  have:=M5 (2^k) e
  omega
 ·rw[show k+(nb xH-1)+1=k+nb xH by omega,M4]
  have:=M5 (2^k) (show xH+1<=2^nb xH from a);rw[Nat.mul_succ] at this
  omega
theorem AE {a:Nat}(h:0<a):nb a=32*((lim a).length-1)+nb ((lim a).getD ((lim a).length-1) 0):=by
 have j:=bV.2 h;have e:=n4 (l:=lim a) (k:=(lim a).length-1) oM;rw[show (lim a).length-1+1=(lim a).length by omega,y8,gx] at e
 have c:=ma (l:=(lim a).take ((lim a).length-1)) (fun x i=>lc a x (M6 i));rw[MV,MW oM] at c
 have d:((2^32):Nat)^((lim a).length-1)=2^(32*((lim a).length-1)):=by rw[M7]
 rw[d] at e c;have f:=ng a h;have:=B3 c (Nat.pos_of_ne_zero f);rw[<-e] at this
 exact this
def gt (n:Nat):Nat->List Nat
  | 0=>[]
  | m+1=>n/256^m%256::gt n m
theorem kv (n m):(gt n m).length=m:=by induction m with|zero=>rfl|succ m ih=>simp[gt,ih]
theorem jA (n):∀ (m k:Nat),k<m->(gt n m).getD k 0=n/256^(m-1-k)%256
  | 0,k,h=>by omega
  | m+1,0,h=>by simp[gt]
  | m+1,k+1,h=>by
    rw[gt,y9,jA n m k oM];congr 3
    omega
theorem lr (n m k):(gt n m).getD k 0<256:=by
 rcases ea k m with h|h
 ·rw[jA n m k h];exact As _ oM
 ·simp[ua (show (gt n m).length<=k by rw[kv];exact h)]
theorem BN (n i):n%256^(i+1)=n%256^i+256^i*(n/256^i%256):=by
 rw[MP,Nat.mod_mul]
theorem ur (a):nb a<=32*(lim a).length:=by
 apply lU
 have:=ma (lc a);rw[gx] at this
 rw[M7];exact this
theorem BF (a k):(lim a).getD (k/4) 0/2^(8*(k%4))%256=a/256^k%256:=by
  have f:(lim a).getD (k/4) 0=a/(2^32)^(k/4)%(2^32):=by
    rcases ea (k/4) (lim a).length with h|h
    . have e:=lm ((lim a).take (k/4)) ((lim a).drop (k/4))
      rw[M8,gx,MV,MW oM] at e;have c:=ma (l:=(lim a).take (k/4)) (fun x d=>lc a x (M6 d));rw[MV,MW oM] at c
      have j:=xt h;have d:(lim a).getD (k/4) 0<(2^32):=by
        have:=lc a ((lim a)[k/4]) (gg h);simpa [h] using this
      have h1:(ee ((lim a).take (k/4))+(2^32)^(k/4)*ee ((lim a).drop (k/4)))/(2^32)^(k/4)=ee ((lim a).drop (k/4)):=by
        rw[M9 _ _ (Na oM),MN c,z6]
      rw[<-e] at h1;rw[h1,j];omega
    . have:a<(2^32)^(k/4):=by
        have h1:=ma (lc a);rw[gx] at h1
        exact er h1 (M1 oM h)
      rw[MN this];simp[ua h]
  rw[f];have i:(256:Nat)^k=(2^32)^(k/4)*2^(8*(k%4)):=by
    have:k=4*(k/4)+k%4:=by omega
    conv=>lhs;rw[this,M4,M7]
    rw[M7 2 8]
  rw[i,<-Nb];generalize a/(2^32)^(k/4)=y
  have:k%4=0\/k%4=1\/k%4=2\/k%4=3:=by omega
  rcases this with h|h|h|h<;>rw[h]<;>omega
theorem iC {l:List Nat}{m k x:Nat}{f:Nat->Nat}(h:l.length=m)(hk:k<m)(hv:∀ j,j<k->l.getD (m-1-j) 0=f j)(c:x=f k:=by rfl):∀ j,j<k+1->(l.set (m-1-k) x).getD (m-1-j) 0=f j:=by
 intro j d;by_cases e:j=k
 ·subst e
  have:m-1-j<l.length:=by omega
  simp[this,c]
 ·have a:m-1-k≠m-1-j:=by omega
  have:=hv j oM
  simp only[Nc] at this ⊢
  rw[vi a];exact this
theorem tE {l:List Nat}{n m:Nat}(d:l.length=m)(hv:∀ j,j<m->l.getD (m-1-j) 0=n/256^j%256):l=gt n m:=by
 apply List.ext_getElem
 ·rw[kv,d]
 ·intro i h1 a
  have c:=jA n m i oM;have:=hv (m-1-i) oM;rw[show m-1-(m-1-i)=i by omega,<-c] at this
  simpa [h1,a] using this
def fY (n k j:Nat):Nat:=n/256^k*256^k/4294967296^j%4294967296
theorem wU (n j):fY n 0 j=n/(2^32)^j%(2^32):=by unfold fY;simp
theorem Dn {n k:Nat}(h:n<256^k)(j):fY n k j=0:=by unfold fY;rw[MN h];simp
theorem pY (n k j):fY n k j<(2^32):=As _ oM
theorem xi (k):(256:Nat)^k=(2^32)^(k/4)*2^(8*(k%4)):=by
 have:k=4*(k/4)+k%4:=by omega
 conv=>lhs;rw[this,M4,M7]
 rw[M7 2 8]
theorem vE (y q j):y*(2^32)^q/(2^32)^j%(2^32)=if j<q then 0 else y/(2^32)^(j-q)%(2^32):=by
 split
 ·rename_i h
  have e:((2^32):Nat)^q=(2^32)^j*((2^32)^(q-j-1)*(2^32)):=by
   rw[<-MP,<-M4];congr 1;omega
  rw[e,<-MT,MQ y,MT,Nat.mul_div_cancel_left _ (Na oM),<-MT];exact Nd _ _
 ·rename_i h
  have e:((2^32):Nat)^j=(2^32)^q*(2^32)^(j-q):=by rw[<-M4];congr 1;omega
  rw[e,<-Nb,Nat.mul_div_cancel _ (Na oM)]
theorem FP (x b)(a:b<256):∀ r,r<4->(256*x+b)*2^(8*r)%(2^32)=256*x*2^(8*r)%(2^32)+b*2^(8*r)/\(256*x+b)*2^(8*r)/(2^32)=256*x*2^(8*r)/(2^32)/\256*x*2^(8*r)%(2^32)%2^(8*r+8)=0/\b*2^(8*r)<(2^32):=by
 intro r hr;have:r=0\/r=1\/r=2\/r=3:=by omega
 rcases this with rfl|rfl|rfl|rfl<;>omega
theorem oY (n k j):fY n k j=if j=k/4 then fY n (k+1) j ||| (n/256^k%256)*2^(8*(k%4)) else fY n (k+1) j:=by
  have u:n/256^k=256*(n/256^(k+1))+n/256^k%256:=by
    rw[MP,<-Nb];omega
  have h:n/256^k%256<256:=As _ oM;have f:=xi k;have a:(256:Nat)^(k+1)=(2^32)^(k/4)*2^(8*(k%4))*256:=by rw[MP,f]
  obtain ⟨l,l2,l3,z⟩:=FP (n/256^(k+1)) _ h (k%4) oM
  unfold fY;generalize n/256^(k+1)=x at *
  generalize hb2:n/256^k%256=b at *
  rw[u,f,a];have p:(256*x+b)*((2^32)^(k/4)*2^(8*(k%4)))=(256*x+b)*2^(8*(k%4))*(2^32)^(k/4):=by ac_rfl
  have o:x*((2^32)^(k/4)*2^(8*(k%4))*256)=256*x*2^(8*(k%4))*(2^32)^(k/4):=by ac_rfl
  rw[p,o,vE,vE];by_cases h1:j<k/4
  . rw[if_pos h1,if_pos h1,if_neg oM]
  . rw[if_neg h1,if_neg h1]
    by_cases h2:j=k/4
    . rw[if_pos h2,h2,ue,Nat.pow_zero,Nat.div_one,Nat.div_one,l]
      obtain ⟨c,hc⟩:∃ c,256*x*2^(8*(k%4))%(2^32)=2^(8*(k%4)+8)*c:=⟨_,(Nat.mul_div_cancel' (Nat.dvd_of_mod_eq_zero l3)).symm⟩;rw[hc]
      have e:b*2^(8*(k%4))<2^(8*(k%4)+8):=by
        rw[M4,MQ];exact Nf h (M0 _)
      exact Nat.two_pow_add_eq_or_of_lt e c
    . rw[if_neg h2]
      obtain ⟨d,hd⟩:∃ d,j-k/4=d+1:=⟨j-k/4-1,by omega⟩;have i:∀ y:Nat,y/(2^32)^(d+1)=y/(2^32)/(2^32)^d:=fun y=>by rw[M3,Nb]
      rw[hd,i,i,l2]
theorem jj:∀ (l:List Nat) (n:Nat),(∀ j,j<l.length->l.getD j 0=n/(2^32)^j%(2^32))->n<(2^32)^l.length->ee l=n
  | [],n,_,h=>by simp at h;simp[ee,h]
  | x :: l,n,hd,h=>by
    have h0:=hd 0 (by simp)
    simp at h0;have a:=jj l (n/(2^32)) (fun j c=>by
      have:=hd (j+1) (by simpa using c);rw[y9,M3,<-Nb] at this
      exact this) (MO (by rw[uA,M3] at h;exact h))
    rw[ee,a,h0];omega
def ai (b:Nat):List Nat->Nat
  | []=>0
  | x::l=>x+b*ai b l
def Dg (b:Nat)(l:List Nat):Prop:=∀ x∈l,x<b
theorem kY (l):ee l=ai (2^32) l:=by
 induction l with
 | nil=>rfl
 | cons x l ih=>simp only[ee,ai,ih]
theorem Dg.nil {b:Nat}:Dg b []:=fun _ h=>by cases h
theorem Dg.getD {b:Nat}{l:List Nat}(h:Dg b l)(a:0<b)(k):l.getD k 0<b:=by
 rcases ea k l.length with hk|hk
 ·have:=h (l[k]) (gg hk);simpa [hk] using this
 ·simpa [ua hk] using a
theorem Dg.set {b:Nat}{l:List Nat}(h:Dg b l)(k){x:Nat}(a:x<b):Dg b (l.set k x):=fun y c=>by
 rcases List.mem_or_eq_of_mem_set c with h1|h1
 ·exact h y h1
 ·rw[h1];exact a
theorem Dg.take {b:Nat}{l:List Nat}(h:Dg b l)(k):Dg b (l.take k):=fun x a=>h x (M6 a)
theorem Dg.drop {b:Nat}{l:List Nat}(h:Dg b l)(k):Dg b (l.drop k):=fun x a=>h x (z8 a)
theorem Dg.append {b:Nat}{l m:List Nat}(h:Dg b l)(k:Dg b m):Dg b (l++m):=fun x a=>by
 rcases gs.1 a with h1|h1
 ·exact h x h1
 ·exact k x h1
theorem Dg.one {b x:Nat}(h:x<b):Dg b [x]:=fun y a=>by rw[ti.1 a];exact h
theorem Dg.cons {b x:Nat}{l:List Nat}(h:x<b)(k:Dg b l):Dg b (x::l):=fun y a=>by
 rcases hC.1 a with rfl|h1
 ·exact h
 ·exact k y h1
theorem Dg.rep {b n:Nat}(a:0<b):Dg b (Af n 0):=fun y c=>by rw[(List.mem_replicate.1 c).2];exact a
theorem da (b x y):ai b (x++y)=ai b x+b^x.length*ai b y:=by
  induction x with
  | nil=>simp[ai]
  | cons a x ih =>
    simp only[MR,ai,ih,uA,MP,MS];rw[<-MT,MQ (b^x.length) b]
    omega
theorem bQ {b:Nat}{l:List Nat}(h:Dg b l):ai b l<b^l.length:=by
  induction l with
  | nil=>simp[ai]
  | cons x l ih =>
    have h1:=h x (by simp);have a:=ih (fun y d=>h y (by simp[d]))
    simp only[ai,uA,MP];have c:b*(ai b l+1)<=b*b^l.length:=M5 _ a;rw[MS,Ng,MQ b (b^l.length)] at c
    omega
theorem bU (b){l:List Nat}{k:Nat}(h:k<=l.length):ai b l=ai b (l.take k)+b^k*ai b (l.drop k):=by
 have e:=da b (l.take k) (l.drop k);rw[M8,MV,MW h] at e
 exact e
theorem ja {l:List Nat}{k:Nat}(h:k<l.length):l.take (k+1)=l.take k++[l.getD k 0]:=by
 rw[MU];simp[h]
theorem aN (b){l:List Nat}{k:Nat}(h:k<l.length):ai b (l.take (k+1))=ai b (l.take k)+b^k*l.getD k 0:=by
 rw[ja h,da,MV,MW oM];show ai b (l.take k)+b^k*(l.getD k 0+b*0)=_
 rw[MX,y5]
theorem ge (b){l:List Nat}{k:Nat}(h:k<l.length):ai b (l.drop k)=l.getD k 0+b*ai b (l.drop (k+1)):=by
 rw[MY h];simp[ai,h]
theorem cP (b){l:List Nat}{k:Nat}(x)(h:k<l.length):ai b (l.set k x)+b^k*l.getD k 0=ai b l+b^k*x:=by
  induction l generalizing k with
  | nil=>simp at h
  | cons y l ih =>
    cases k with
    | zero=>simp[ai];omega
    | succ k =>
      have:=ih (k:=k) (by simpa using h);rw[z2,y9,ai,ai,MP,MQ (b^k) b,MT,MT];have e:b*(ai b (l.set k x)+b^k*l.getD k 0)=b*(ai b l+b^k*x):=by rw[this]
      rw[MS,MS] at e;omega
theorem dQ (b n):ai b (Af n 0)=0:=by
 induction n with
 | zero=>rfl
 | succ n ih=>simp[Ag,ai,ih]
theorem oE {b:Nat}(c:0<b){l:List Nat}(h:ai b l=0)(k):l.getD k 0=0:=by
  induction l generalizing k with
  | nil=>simp
  | cons x l ih =>
    simp only[ai] at h;have h1:b*ai b l=0:=by omega
    have a:ai b l=0:=by
      rcases Nat.mul_eq_zero.1 h1 with a|a
      . omega
      . exact a
    cases k with
    | zero=>simp;omega
    | succ k=>simpa using ih a k
theorem iI (b){l:List Nat}(h:∀ k,l.getD k 0=0):ai b l=0:=by
  induction l with
  | nil=>rfl
  | cons x l ih =>
    have h0:=h 0;simp at h0;rw[ai,ih (fun k=>by have:=h (k+1);simpa using this),h0];simp
theorem jZ {l:List Nat}{k n:Nat}(h:k<n):(l.take n).getD k 0=l.getD k 0:=by
 simp only[Nc,List.getElem?_take,if_pos h]
theorem bG {l:List Nat}{k n:Nat}:(l.drop n).getD k 0=l.getD (n+k) 0:=by
 simp only[Nc,yy]
theorem bF {l:List Nat}{k j x:Nat}(h:k<l.length):(l.set k x).getD j 0=if k=j then x else l.getD j 0:=by
 simp only[Nc,List.getElem?_set,h,if_true];split<;>simp
theorem eJ {n k:Nat}:(Af n 0).getD k 0=0:=by
 simp only[Nc,List.getElem?_replicate];split<;>rfl
theorem cB {l:List Nat}{k:Nat}(h:l.length<=k):l.getD k 0=0:=by simp[ua h]
theorem kC (b)(l:List Nat):∀ n,n<=l.length->ai b (l.take (tl l n))=ai b (l.take n)
  | 0,_=>rfl
  | n + 1,h=>by
    unfold tl;split
    . rename_i h0
      rw[aN b oM,h0,kC b l n oM];simp
    . rfl
theorem uM {l:List Nat}:∀ n,tl l n=0\/l.getD (tl l n-1) 0≠0
  | 0=>.inl rfl
  | n+1=>by
    unfold tl;split
    . exact uM n
    . rename_i h;exact .inr h
def rj (b:Nat):Nat->Nat->List Nat
  | 0,_=>[]
  | f+1,n=>if n=0 then [] else n%b::rj b f (n/b)
def ig (b n:Nat):List Nat:=rj b n n
theorem vM {b:Nat}(a:2<=b):∀ (f g n:Nat),n<=f->n<=g->rj b f n=rj b g n
  | 0,g,n,hf,hg=>by
    have:n=0:=by omega
    subst this;cases g<;>rfl
  | f+1,0,n,hf,hg=>by
    have:n=0:=by omega
    subst this;rfl
  | f + 1,g+1,n,hf,hg=>by
    unfold rj;split
    . rfl
    . rename_i h0
      have:=Nh (n:=n) (k:=b) oM oM;rw[vM a f g (n/b) oM oM]
theorem kE (b):ig b 0=[]:=rfl
theorem fq {b n:Nat}(a:2<=b)(h:0<n):ig b n=n%b::ig b (n/b):=by
 unfold ig;obtain ⟨m,rfl⟩:∃ m,n=m+1:=⟨n-1,by omega⟩;have:=Nh (n:=m+1) (k:=b) oM oM;rw[rj,if_neg oM];rw[vM a m _ _ oM (ek _)]
theorem ku {b:Nat}(a:2<=b)(n):ai b (ig b n)=n:=by
  induction n using hP with
  | _ n ih =>
    rcases B2 n with h|h
    . subst h;rfl
    . rw[fq a h,ai,ih (n/b) (Nh h oM)]
      exact Nat.mod_add_div n b
theorem x9 {b:Nat}(a:2<=b)(n):Dg b (ig b n):=by
  induction n using hP with
  | _ n ih =>
    rcases B2 n with h|h
    . subst h;exact Dg.nil
    . rw[fq a h]
      exact Dg.cons (As _ oM) (ih _ (Nh h oM))
theorem qe {b n:Nat}(a:2<=b):0<(ig b n).length↔0<n:=by
 rcases B2 n with h|h
 ·subst h;simp[kE]
 ·rw[fq a h];simp[h]
theorem tA {b:Nat}(h:2<=b){l:List Nat}(e:Dg b l)(a:l=[]\/l.getD (l.length-1) 0≠0):ig b (ai b l)=l:=by
  induction l with
  | nil=>rfl
  | cons x l ih =>
    have d:=e x (by simp);have j:(x+b*ai b l)%b=x:=by rw[Nat.add_mul_mod_self_left,Am d]
    have i:(x+b*ai b l)/b=ai b l:=by rw[M9 _ _ oM,MN d,z6]
    have c:l=[]\/l.getD (l.length-1) 0≠0:=by
      rcases List.eq_nil_or_concat l with h0|⟨m,y,rfl⟩
      . exact .inl h0
      . right
        rcases a with a|a
        . cases a
        . rw[show (x::m.concat y).length-1=((m.concat y).length-1)+1 by simp,y9] at a
          exact a
    have f:0<ai b (x::l):=by
      rcases B2 (ai b (x::l)) with h0|h0
      . rcases a with a|a
        . cases a
        . exact absurd (oE oM h0 _) a
      . exact h0
    rw[fq h f];simp only[ai];rw[j,i,ih (fun y o=>e y (by simp[o])) c]
theorem G8 {b:Nat}(c:2<=b){l:List Nat}(d:Dg b l):ig b (ai b l)=l.take (tl l l.length):=by
 have e:=kC b l l.length (ek _);rw[y8] at e
 have a:=iN l l.length;have:=tA c (d.take (tl l l.length)) (by
  by_cases h0:tl l l.length=0
  ·left;rw[h0];rfl
  ·right
   rw[MV,MW a,jZ oM];rcases uM (l:=l) l.length with h|h
   ·exact absurd h h0
   ·exact h)
 rw[e] at this;exact this
theorem m7 {b:Nat}(a:2<=b)(n)(h:0<n):(ig b n).getD ((ig b n).length-1) 0≠0:=by
  induction n using hP with
  | _ n ih =>
    rw[fq a h];rcases B2 (n/b) with h0|h0
    . rw[h0,kE]
      have:n<b:=by
        rcases ea n b with h1|h1
        . exact h1
        . have:=Nat.div_pos h1 oM;omega
      simp[Am this];omega
    . have:=ih (n/b) (Nh h oM) h0
      have c:=(qe a).2 h0;rw[uA,show (ig b (n/b)).length+1-1=((ig b (n/b)).length-1)+1 by omega,y9];exact this
theorem fw {b n k:Nat}(a:2<=b)(h:n<b^k):(ig b n).length<=k:=by
 rcases B2 n with h0|h0
 ·subst h0;simp[kE]
 ·rcases ea k (ig b n).length with hk|hk
  ·exfalso
   have h1:=aN b (l:=ig b n) (k:=(ig b n).length-1) oM;rw[show (ig b n).length-1+1=(ig b n).length by omega,y8,ku a] at h1
   have d:=m7 a n h0;have e:b^((ig b n).length-1)*1<=b^((ig b n).length-1)*(ig b n).getD ((ig b n).length-1) 0:=M5 _ oM;have c:b^k<=b^((ig b n).length-1):=M1 oM oM
   omega
  ·exact hk
theorem j0 {b:Nat}(a:2<=b)(n):n<b^(ig b n).length:=by
 have:=bQ (x9 a n)
 rwa [ku a] at this
theorem tS {b n:Nat}(a:2<=b)(h:0<n):b^((ig b n).length-1)<=n:=by
 have d:=(qe a).2 h;have h1:=aN b (l:=ig b n) (k:=(ig b n).length-1) oM;rw[show (ig b n).length-1+1=(ig b n).length by omega,y8,ku a] at h1
 have c:=m7 a n h;have e:b^((ig b n).length-1)*1<=b^((ig b n).length-1)*(ig b n).getD ((ig b n).length-1) 0:=M5 _ oM
 omega
theorem i7 (b){l:List Nat}{k m:Nat}(hk:k+m<=l.length)(a:0<b)(f:Dg b l)(h:ai b l<b^(k+m)):ai b l/b^k=ai b ((l.drop k).take m)/\∀ i,k+m<=i->l.getD i 0=0:=by
 have e:=bU b (l:=l) (k:=k) oM;have c:=bU b (l:=l.drop k) (k:=m) (by rw[List.length_drop];omega);have h1:=bQ (f.take k);rw[MV,MW oM] at h1
 have d:0<b^k:=Na a
 have hz:ai b ((l.drop k).drop m)=0:=by
  rcases B2 (ai b ((l.drop k).drop m)) with h0|h0
  ·exact h0
  ·exfalso
   have o:b^m*1<=b^m*ai b ((l.drop k).drop m):=M5 _ h0;have j:b^k*b^m<=b^k*ai b (l.drop k):=M5 _ oM;rw[<-M4] at j
   omega
 rw[hz,MX,y5] at c;refine ⟨?_,fun i hi=>?_⟩
 ·rw[e,M9 _ _ d,MN h1,z6,c]
 ·have:=oE a hz (i-k-m)
  rw[bG,bG,show k+(m+(i-k-m))=i by omega] at this
  exact this
theorem AJ {b P u v U V G:Nat}(i:0<P)(o:U*P<=u)(y:u<(U+1)*P)(a:V*P<=v)(p:v<(V+1)*P)(e:b*P<=v)(c:u<b*v)(l:G*V<=U)(d:G+1=b\/U<(G+1)*V)(j:G<b):
    u/v<=G/\G<=u/v+1:=by
  have hv:0<v:=er (Nat.mul_pos oM i) e
  constructor
  . have x:u/v<G+1:=by
      rw[Nat.div_lt_iff_lt_mul hv];rcases d with h|h
      . rw[h];exact c
      . have h1:(U+1)*P<=(G+1)*V*P:=z7 _ h
        have f:(G+1)*(V*P)<=(G+1)*v:=M5 _ a;rw[MT] at h1
        omega
    omega
  . have h1:G*v<=u+v:=by
      have z:G*v<=G*((V+1)*P):=M5 _ oM;have B:G*((V+1)*P)=G*V*P+G*P:=by rw[<-MT,MS,Ng,Ni]
      have C:G*V*P<=U*P:=z7 _ l;have D:G*P<=b*P:=z7 _ oM
      omega
    have f:G<=(u+v)/v:=(Nat.le_div_iff_mul_le hv).2 h1;rw[Nat.add_div_right _ hv] at f
    omega
theorem aI (b)(l:List Nat)(k):ai b (l.take (k+1))=ai b (l.take k)+b^k*l.getD k 0:=by
 rcases ea k l.length with h|h
 ·exact aN b h
 ·rw[Nj oM,Nj h]
  simp[ua h]
theorem hJ {b:Nat}{l y:List Nat}{i c c' s X:Nat}(hi:i<l.length)(inv:ai b l+b^i*c=X+ai b (y.take i))(e:s+b*c'=l.getD i 0+y.getD i 0+c):
  ai b (l.set i s)+b^(i+1)*c'=X+ai b (y.take (i+1)):=by
 have h1:=cP b s hi;rw[aI,MP];generalize b^i=P at *
 generalize ai b (l.set i s)=S at *
 have a:P*(s+b*c')=P*(l.getD i 0+y.getD i 0+c):=by rw[e]
 simp only[MS,<-MT] at a ⊢
 omega
theorem i5 {b:Nat}{l y:List Nat}{i c c' s X:Nat}(hi:i<l.length)(inv:ai b l+ai b (y.take i)=X+b^i*c)(e:s+y.getD i 0+c=l.getD i 0+b*c'):
  ai b (l.set i s)+ai b (y.take (i+1))=X+b^(i+1)*c':=by
 have h1:=cP b s hi;rw[aI,MP];generalize b^i=P at *
 generalize ai b (l.set i s)=S at *
 have a:P*(s+y.getD i 0+c)=P*(l.getD i 0+b*c'):=by rw[e]
 simp only[MS,<-MT] at a ⊢
 omega
theorem nk {b:Nat}{l y:List Nat}{k j m c c' s X:Nat}(hi:k+j<l.length)(inv:ai b l+b^(k+j)*c=X+b^k*(m*ai b (y.take j)))(e:s+b*c'=l.getD (k+j) 0+m*y.getD j 0+c):
  ai b (l.set (k+j) s)+b^(k+(j+1))*c'=X+b^k*(m*ai b (y.take (j+1))):=by
 have h1:=cP b s hi;rw[aI,<-y3,MP];have a:b^(k+j)=b^k*b^j:=M4 _ _ _;have d:b^(k+j)*(s+b*c')=b^(k+j)*(l.getD (k+j) 0+m*y.getD j 0+c):=by rw[e]
 have f:b^k*(m*(ai b (y.take j)+b^j*y.getD j 0))=b^k*(m*ai b (y.take j))+b^(k+j)*(m*y.getD j 0):=by
  rw[a,MS,MS,<-MT m,MQ m (b^j),MT (b^j),<-MT (b^k) (b^j)]
 rw[f];generalize b^(k+j)=P at *
 generalize ai b (l.set (k+j) s)=S at *
 generalize b^k*(m*ai b (y.take j))=Y at *
 simp only[MS,<-MT] at d ⊢
 omega
theorem vz {b:Nat}{l y:List Nat}{k m c X:Nat}(hi:k+y.length<l.length)(inv:ai b l+b^(k+y.length)*c=X+b^k*(m*ai b (y.take y.length)))(h0:l.getD (k+y.length) 0=0):
  ai b (l.set (k+y.length) c)=X+b^k*(m*ai b y):=by
 have h1:=cP b c hi;rw[y8] at inv;rw[h0] at h1;omega
theorem vg {b:Nat}{x:List Nat}{i X Y:Nat}(h:X=ai b (x.take i)*Y):X+b^i*(x.getD i 0*Y)=ai b (x.take (i+1))*Y:=by
 rw[aI,Ni,h,MT]
theorem EY {b:Nat}{l:List Nat}{i d r a q X:Nat}(hi:i<l.length)(inv:X=d*(b^(i+1)*ai b (l.drop (i+1)))+(b^(i+1)*r+ai b (l.take (i+1))))(e:r*b+l.getD i 0=d*q+a):
  X=d*(b^i*ai b ((l.set i q).drop i))+(b^i*a+ai b ((l.set i q).take i)):=by
 have f:(l.set i q).take i=l.take i:=by rw[List.take_set_of_le (ek _)]
 have c:ai b ((l.set i q).drop i)=q+b*ai b (l.drop (i+1)):=by
  rw[ge b (by simpa using hi),bF hi,if_pos rfl,List.drop_set_of_lt oM]
 rw[f,c,inv,aN b hi,MP];have j:b^i*(r*b+l.getD i 0)=b^i*(d*q+a):=by rw[e]
 have h:d*(b^i*(q+b*ai b (l.drop (i+1))))=b^i*(d*q)+d*(b^i*b*ai b (l.drop (i+1))):=by
  rw[MS,MS,<-MT (b^i) b,Nat.mul_left_comm d (b^i) q]
 have o:b^i*b*r=b^i*(r*b):=by rw[MT,MQ b r]
 rw[h,o];simp only[MS] at j;omega
theorem vZ {b:Nat}{u v:List Nat}{j i G c c' a bo' t s X:Nat}(hi:j+i<u.length)(inv:ai b u+b^j*(G*ai b (v.take i))=X+b^(j+i)*(c+a))(o:t+b*c'=G*v.getD i 0+c)(d:s+t+a=u.getD (j+i) 0+b*bo'):
  ai b (u.set (j+i) s)+b^j*(G*ai b (v.take (i+1)))=X+b^(j+(i+1))*(c'+bo'):=by
 have h1:=cP b s hi;rw[aI,<-y3,MP];have l:b^(j+i)=b^j*b^i:=M4 _ _ _
 have f:b^j*(G*(ai b (v.take i)+b^i*v.getD i 0))=b^j*(G*ai b (v.take i))+b^(j+i)*(G*v.getD i 0):=by
  rw[l,MS,MS,<-MT G,MQ G (b^i),MT (b^i),<-MT (b^j) (b^i)]
 rw[f];have e:b^(j+i)*(t+b*c')=b^(j+i)*(G*v.getD i 0+c):=by rw[o]
 have h:b^(j+i)*(s+t+a)=b^(j+i)*(u.getD (j+i) 0+b*bo'):=by rw[d]
 generalize b^(j+i)=P at *
 generalize ai b (u.set (j+i) s)=S at *
 generalize b^j*(G*ai b (v.take i))=Y at *
 simp only[MS,<-MT] at e h inv ⊢
 omega
theorem AF {b:Nat}{u v:List Nat}{j G c a bo' s X:Nat}(hi:j+v.length<u.length)(inv:ai b u+b^j*(G*ai b (v.take v.length))=X+b^(j+v.length)*(c+a))(e:s+c+a=u.getD (j+v.length) 0+b*bo'):
  ai b (u.set (j+v.length) s)+b^j*(G*ai b v)=X+b^(j+v.length+1)*bo':=by
 have h1:=cP b s hi;rw[y8] at inv;rw[MP];have d:b^(j+v.length)*(s+c+a)=b^(j+v.length)*(u.getD (j+v.length) 0+b*bo'):=by rw[e]
 generalize b^(j+v.length)=P at *
 generalize ai b (u.set (j+v.length) s)=S at *
 generalize b^j*(G*ai b v)=Y at *
 simp only[MS,<-MT] at d inv ⊢
 omega
theorem uS {b:Nat}{u v:List Nat}{j i c c' s X:Nat}(hi:j+i<u.length)(inv:ai b u+b^(j+i)*c=X+b^j*ai b (v.take i))(e:s+b*c'=u.getD (j+i) 0+v.getD i 0+c):
  ai b (u.set (j+i) s)+b^(j+(i+1))*c'=X+b^j*ai b (v.take (i+1)):=by
 have:=nk (b:=b) (l:=u) (y:=v) (k:=j) (j:=i) (m:=1) (c:=c) (c':=c') (s:=s) (X:=X) hi (by rw[Nk];exact inv) (by rw[Nk];exact e);rw[Nk] at this
 exact this
theorem Cm {b:Nat}{u v:List Nat}{j c c' s X:Nat}(hi:j+v.length<u.length)(inv:ai b u+b^(j+v.length)*c=X+b^j*ai b (v.take v.length))(e:s+b*c'=u.getD (j+v.length) 0+c):
  ai b (u.set (j+v.length) s)+b^(j+v.length+1)*c'=X+b^j*ai b v:=by
 have h1:=cP b s hi;rw[y8] at inv;rw[MP];have a:b^(j+v.length)*(s+b*c')=b^(j+v.length)*(u.getD (j+v.length) 0+c):=by rw[e]
 generalize b^(j+v.length)=P at *
 generalize ai b (u.set (j+v.length) s)=S at *
 generalize b^j*ai b v=Y at *
 simp only[MS,<-MT] at a inv ⊢
 omega
def Above (u u0:List Nat)(k:Nat):Prop:=u.length=u0.length/\∀ i,k<=i->u.getD i 0=u0.getD i 0
theorem Above.refl (u k):Above u u k:=⟨rfl,fun _ _=>rfl⟩
theorem Above.set {u a:List Nat}{k i x:Nat}(h:Above u a k)(hi:i<k)(d:i<u.length):Above (u.set i x) a k:=⟨by rw[List.length_set];exact h.1,fun j c=>by rw[bF d,if_neg oM];exact h.2 j c⟩
theorem fI {b:Nat}(d:0<b){u a:List Nat}{k:Nat}(h:Above u a k)(f:Dg b u)(c:Dg b a)(hk:k<=u.length)(h0:ai b a<b^k):ai b u<b^k:=by
 have e:=bU b hk;have h1:=bQ (f.take k);rw[MV,MW hk] at h1
 have hz:ai b (u.drop k)=0:=iI b (fun i=>by
  rw[bG,h.2 _ oM];exact (i7 b (l:=a) (k:=k) (m:=0) (by rw[<-h.1];exact hk) d c h0).2 _ oM)
 rw[hz] at e;omega
theorem gc {b n j R v c G f:Nat}(F:2<=b)(hn:2<=n)(i:b^(n-1)<=v)(d:v<b^n)(hR:R<b^(j+1)*v)(C:c<b^(j+n+1))(e:c+b^j*(G*v)=R+b^(j+n+1)*f)(B:f<=1)
    (H:R/(b^j*v)<=G/\G<=R/(b^j*v)+1) :
    (f=0->G=R/(b^j*v)/\c=R-b^j*(G*v)/\c<b^j*v/\b^j*(G*v)<=R)/\(f=1->G=R/(b^j*v)+1/\c+b^j*v=(R-b^j*((G-1)*v))+b^(j+n+1)/\R-b^j*((G-1)*v)<b^j*v/\b^j*((G-1)*v)<=R):=by
  have p:0<b^j:=Na oM;have o:0<v:=er (Na oM) i;have y:0<b^j*v:=Nat.mul_pos p o;have eq:∀ g,b^j*(g*v)=g*(b^j*v):=fun g=>by rw[<-MT,MQ (b^j) g,MT]
  have l:=Nl R (b^j*v);have x:=As R y;rw[MQ] at l
  rw[eq] at e;have u:b^j*v<b^(j+n+1):=by
    have h1:b^j*v<b^j*b^n:=Nf d p;rw[<-M4] at h1
    have D:b^(j+n)<=b^(j+n+1):=M1 oM oM
    omega
  have z:R<b^(j+n+1):=by
    have h1:b^(j+1)*v<b^(j+1)*b^n:=Nf d (Na oM);rw[<-M4,show j+1+n=j+n+1 by omega] at h1
    omega
  generalize b^(j+n+1)=T at *
  generalize hWe:b^j*v=W at *
  generalize hQ:R/W=Q at *
  refine ⟨fun h=>?_,fun h=>?_⟩
  . subst h
    rw[eq];have a:G=Q:=by
      rcases ea Q G with h1|h1
      . exfalso
        have:G=Q+1:=by omega
        subst this;rw[Ni] at e;omega
      . omega
    subst a;omega
  . subst h
    have a:G=Q+1:=by
      rcases ea Q G with h1|h1
      . omega
      . exfalso
        have:G=Q:=by omega
        subst this;omega
    subst a;rw[eq,Nat.add_sub_cancel];rw[Ni] at e;omega
theorem oO {b n j G:Nat}{u v:List Nat}(L:2<=b)(hn:2<=n)(K:v.length=n)(f:Dg b v)(y:Dg b u)(M:j+n<u.length)(B:v.getD (n-1) 0≠0)(hR:ai b u<b^(j+1)*ai b v)
  (J:G*(v.getD (n-1) 0*b+v.getD (n-2) 0)<=u.getD (j+n) 0*b*b+u.getD (j+n-1) 0*b+u.getD (j+n-2) 0)
  (z:G+1=b\/u.getD (j+n) 0*b*b+u.getD (j+n-1) 0*b+u.getD (j+n-2) 0<(G+1)*(v.getD (n-1) 0*b+v.getD (n-2) 0))(o:G<b) :
  ai b u/(b^j*ai b v)<=G/\G<=ai b u/(b^j*ai b v)+1:=by
 have d:=bQ f;rw[K] at d;have D:0<b^(j+n-2):=Na oM
 have x:ai b u<b^(j+n-2+3):=by
  have h1:b^(j+1)*ai b v<b^(j+1)*b^n:=Nf d (Na oM);rw[<-M4,show j+1+n=j+n-2+3 by omega] at h1
  omega
 have e:∀ {l:List Nat} {k:Nat},k+3<=l.length->ai b ((l.drop k).take 3)=l.getD (k+2) 0*b*b+l.getD (k+1) 0*b+l.getD k 0:=fun {l k} hk=>by
  rw[aI,aI,aI,bG,bG,bG];simp[ai,MP]
  rw[MQ b (l[k+1]?.getD 0),MQ (b*b) (l[k+2]?.getD 0),MT]
  omega
 have two:∀ {l:List Nat} {k:Nat},k+2<=l.length->ai b ((l.drop k).take 2)=l.getD (k+1) 0*b+l.getD k 0:=fun {l k} hk=>by
  rw[aI,aI,bG,bG];simp[ai]
  rw[MQ b (l[k+1]?.getD 0)]
  omega
 have H:=(i7 b (l:=u) (k:=j+n-2) (m:=3) oM oM y x).1;have C:=(i7 b (l:=v) (k:=n-2) (m:=2) oM oM f (by rw[show n-2+2=n by omega];exact d)).1;rw[e oM,show j+n-2+2=j+n by omega,show j+n-2+1=j+n-1 by omega] at H
 rw[two oM,show n-2+1=n-1 by omega] at C;have a:b^(j+n-2)=b^j*b^(n-2):=by rw[<-M4];congr 1;omega
 have p:0<b^(n-2):=Na oM;have i:=Nl (ai b u) (b^(j+n-2));have F:=As (ai b u) D;have h:=Nl (ai b v) (b^(n-2));have I:=As (ai b v) p;rw[H] at i
 rw[C] at h;have c:b^(n-1)<=ai b v:=by
  have:=aN b (l:=v) (k:=n-1) oM;rw[show n-1+1=v.length by omega,y8] at this
  have O:b^(n-1)*1<=b^(n-1)*v.getD (n-1) 0:=M5 _ oM
  omega
 generalize hU:u.getD (j+n) 0*b*b+u.getD (j+n-1) 0*b+u.getD (j+n-2) 0=U at *
 generalize hV:v.getD (n-1) 0*b+v.getD (n-2) 0=V at *
 generalize ai b u%b^(j+n-2)=mu at *
 generalize ai b v%b^(n-2)=mv at *
 refine AJ (b:=b) (P:=b^(j+n-2)) (U:=U) (V:=V) D ?_ ?_ ?_ ?_ ?_ ?_ J z o
 ·rw[MQ];omega
 ·rw[Ni,Nk,MQ U];omega
 ·rw[a,MQ V,MT]
  exact M5 _ oM
 ·rw[a,MQ (V+1),MT,MS,Ng]
  exact Nf oM (Na oM)
 ·rw[a,MQ b (b^j*b^(n-2)),MT]
  refine M5 _ ?_;rw[<-MP,show (n-2).succ=n-1 by omega];exact c
 ·rw[MP] at hR
  rw[<-MT,MQ b (b^j)];exact hR
def ay (s:ByteArray)(i:Nat):Nat:=(s.data.toList.getD i 0).toNat
theorem cX (s i):ay s i<256:=UInt8.toNat_lt _
def wv (s:ByteArray):Nat:=ay s 0+ay s 1*256+ay s 2*65536+ay s 3*16777216+ay s 4*4294967296+ay s 5*1099511627776+ay s 6*281474976710656+ay s 7*72057594037927936
theorem Gv (s):wv s<(2^64):=by
 have h0:=cX s 0;have h1:=cX s 1;have c:=cX s 2;have h:=cX s 3;have a:=cX s 4;have d:=cX s 5;have e:=cX s 6;have f:=cX s 7;unfold wv;omega
section ops
variable {P:Program}{Γ:cC}{o:Oper}
theorem eh {tx:TypeId}{x i:Operand}{k:IntKind}{s:ByteArray}{n:Nat}{j:Int}(c:o.op=.index tx x i)(f:ev Γ x=.string s)(hi:ev Γ i=.int k j)(e:P.underlying tx=some .string)(d:j=(n:Int))(hn:n<s.size)(w):
  (execOp (ev Γ) o).run P w=.ok (.value (.int .u8 (ay s n:Nat))) w:=by
 unfold execOp;simp only[c];rw[f,hi,d];have h0:(0:Int)<=(n:Int):=Int.natCast_nonneg n;have a:n<s.data.size:=hn
 have h1:s[n]?=some (s.data.toList.getD n 0):=by
  simp[hn,a,ByteArray.getElem_eq_getElem_data]
 simp[Instr.index,asIntOf,run_underlying e,h1,ay,Result.andThen]
theorem sD {tx:TypeId}{x i:Operand}{k:IntKind}{s:ByteArray}{n:Nat}{j:Int}(a:o.op=.slice tx x (some i) none none)(e:ev Γ x=.string s)(hi:ev Γ i=.int k j)(d:P.underlying tx=some .string)(c:j=(n:Int))(hn:n<=s.size)(w):
  (execOp (ev Γ) o).run P w=.ok (.value (.string (s.extract n s.size))) w:=by
 unfold execOp;simp only[a];subst c;have h0:(n:Int)<=(s.size:Int):=by omega
 simp[Instr.sliceAt,e,hi,Instr.slice,run_underlying d,Instr.sliceBounds,Instr.sliceBound,asIntOf,Result.andThen,h0,hn]
theorem iq {t u:TypeId}{x y:Operand}{ky:IntKind}{a n:Nat}(c:o.op=.binOp .shl t x y u)(j:ev Γ x=.int .u64 (a:Int))(l:ev Γ y=.int ky (n:Int))(w:World) :
    (execOp (ev Γ) o).run P w=.ok (.value (.int .u64 ((a*2^n%18446744073709551616:Nat):Int))) w:=by
  unfold execOp;simp only[c];rw[j,l]
  have hz:¬((n:Int)<0):=by omega
  have e:IntKind.wrap .u64 ((a:Int)*2^(min n IntKind.u64.bits))=((a*2^n%18446744073709551616:Nat):Int):=by
    have d:(a:Int)*2^(min n IntKind.u64.bits)=((a*2^(min n 64):Nat):Int):=by
      rw[show IntKind.u64.bits=64 from rfl];push_cast;rfl
    rw[d,B1]
    rcases ea n 64 with h|h
    . rw[MW oM]
    . rw[Nm h]
      have f:(2:Nat)^n=18446744073709551616*2^(n-64):=by
        rw[show (18446744073709551616:Nat)=2^64 from rfl,<-M4];congr 1;omega
      have i:a*2^n%18446744073709551616=0:=by rw[f,<-MT,MQ a,MT,Nat.mul_mod_right]
      rw[i,show (2:Nat)^64=18446744073709551616 from rfl,Nd]
  simp[binOp,eqGuard,Op.shift,Result.andThen,hz,e]
theorem gY {t u:TypeId}{x y:Operand}{ky:IntKind}{a n:Nat}(d:o.op=.binOp .shr t x y u)(i:ev Γ x=.int .u64 (a:Int))(j:ev Γ y=.int ky (n:Int))(ha:a<(2^64))(w):
  (execOp (ev Γ) o).run P w=.ok (.value (.int .u64 ((a/2^n:Nat):Int))) w:=by
 unfold execOp;simp only[d];rw[i,j];have hz:¬((n:Int)<0):=by omega
 have c:(0:Int)<=2^(min n IntKind.u64.bits):=My kD
 have e:(a:Int)/2^(min n IntKind.u64.bits)=((a/2^n:Nat):Int):=by
  have f:(a:Int)/2^(min n IntKind.u64.bits)=((a/2^(min n 64):Nat):Int):=by
   rw[show IntKind.u64.bits=64 from rfl];push_cast;rfl
  rw[f];rcases ea n 64 with h|h
  ·rw[MW oM]
  ·have h1:(2:Nat)^64<=2^n:=M1 oM h
   rw[Nm h,MN oM,MN oM]
 simp[binOp,eqGuard,Op.shift,Result.andThen,hz,Hj _ c,e]
theorem sR {t u:TypeId}{x y:Operand}{a:Nat}{m:Int}(p:Nat)(f:o.op=.binOp .and t x y u)(h:ev Γ x=.int .u64 (a:Int))(i:ev Γ y=.int .u64 m)(ha:a<18446744073709551616)(c:p<=64/\m=((2^p-1:Nat):Int))(w:World) :
  (execOp (ev Γ) o).run P w=.ok (.value (.int .u64 ((a%2^p:Nat):Int))) w:=by
 unfold execOp;simp only[f];rw[h,i,c.2]
 have d:(2^p-1:Nat)<2^64:=by
  have:(2:Nat)^p<=2^64:=M1 oM c.1;have:=M0 p
  omega
 have e:bits .and .u64 (a:Int) ((2^p-1:Nat):Int)=((a%2^p:Nat):Int):=by
  unfold bits
  have h1:(BitVec.ofInt 64 (a:Int) &&& BitVec.ofInt 64 ((2^p-1:Nat):Int)).toNat=a%2^p:=by
   rw[BitVec.toNat_and,<-Nat.and_two_pow_sub_one_eq_mod]
   congr 1
   ·simp[BitVec.toNat_ofInt];omega
   ·rw[BitVec.toNat_ofInt,<-Int.natCast_emod,Aw,Am d]
  show IntKind.wrap .u64 (((BitVec.ofInt 64 (a:Int) &&& BitVec.ofInt 64 ((2^p-1:Nat):Int)).toNat:Nat):Int)=_
  rw[h1,B1];have:a%2^p<=a:=Nat.mod_le _ _;rw[Am oM]
 simp[binOp,eqGuard,Result.andThen,intBits_and,e]
end ops
theorem Bm (a b:Nat):IntKind.wrap .u64 ((a:Int)+(b:Int))=(((a+b)%18446744073709551616:Nat):Int):=by rw[IntKind.wrap_u64];omega
theorem lM (a b:Nat)(h:b<=18446744073709551616):IntKind.wrap .u64 ((a:Int)-(b:Int))=(((a+(18446744073709551616-b))%18446744073709551616:Nat):Int):=by rw[IntKind.wrap_u64];omega
theorem kf (a b:Nat):IntKind.wrap .u64 ((a:Int)*(b:Int))=((a*b%18446744073709551616:Nat):Int):=by
 rw[<-Int.natCast_mul,B1]
theorem jN (a b:Nat)(h:a*b<(2^64)):IntKind.wrap .u64 ((a:Int)*(b:Int))=((a*b:Nat):Int):=by rw[kf,Am h]
theorem fX (a b:Nat)(h:b<=a)(ha:a<(2^64)):IntKind.wrap .u64 ((a:Int)-(b:Int))=((a-b:Nat):Int):=by rw[IntKind.wrap_u64];omega
theorem fb (a b:Nat)(h:a+b<(2^64)):IntKind.wrap .u64 ((a:Int)+(b:Int))=((a+b:Nat):Int):=by rw[IntKind.wrap_u64];omega
theorem kp {s:ByteArray}(h:s=⟨#[]⟩):(s.toList == (⟨#[]⟩:ByteArray).toList)=true:=by rw[h,Lib.toList_data];rfl
theorem om {s:ByteArray}(h:s.size≠0):s.data.toList≠[]:=fun e=>h (by
 have:s.data.size=s.data.toList.length:=by simp
 show s.data.size=0
 rw[this,e];rfl)
theorem jH {s:ByteArray}(h:s.size≠0):(s.toList == (⟨#[]⟩:ByteArray).toList)=false:=by
 rw[Lib.toList_data,Lib.toList_data];have:=om h;cases e:s.data.toList with
 | nil=>exact absurd e this
 | cons a l=>rfl
theorem KK {s:ByteArray}(h:s=⟨#[]⟩):(!(s.toList == (⟨#[]⟩:ByteArray).toList))=false:=by rw[kp h];rfl
theorem JV {s:ByteArray}(h:s.size≠0):(!(s.toList == (⟨#[]⟩:ByteArray).toList))=true:=by rw[jH h];rfl
theorem rv (s k i):ay (s.extract k s.size) i=ay s (k+i):=by
 unfold ay;rw[Lib.extract_to_end];simp only[Nc,yy]
end Go.Proofs.YtjljjeiejbhegaaGreatDoor
