/- Laws of this claim, part 1. -/
import Derived.Below
import Derived.WalkKit
import Derived.Lib.Hide
import Derived.Deep.Draws
import Derived.Orders
import Derived.OrdersHeld
import Derived.KernelRfl
import Derived.Laws.MakeOwn
import Derived.Maps.AppendAt
import Derived.Test.YtmdaaeffcfheoaaGreatDoorProg
import Derived.Lib.IndexBytes
import Derived.Lib.Builder
import Derived.Lib.UnsafeStr
import Derived.Test.YtmdaaeffcfheoaaGreatDoorShelf
import Derived.Shelf.Spec.BitsCarry
import Derived.Lib.BitFns
import Derived.Laws.CopyRow
import Derived.Shelf.Strings.Builder1
import Derived.Shelf.Strings.Builder2
import Derived.Lib.TrailingZeros
import Derived.Laws.Bits64b
import Derived.WideMake
import Derived.ArgAppend
import Derived.Deep.Upon
import Derived.Shelf.SortM.Walk0sIn
import Derived.DeepKeys5
import Derived.StringKeys
import Derived.Shelf.SlIter.Nil
import Derived.Shelf.SortM.Plain
import Derived.Shelf.SortM.SortNone
import Derived.RangeFuncBox
import Derived.OwnWalkIn
import Derived.TacticsInMore
import Derived.LoopNIn
import Derived.LoopIn
import Derived.Sort.KeysCollected
set_option maxRecDepth 100000
set_option maxHeartbeats 4000000
namespace Go.Proofs.YtmdaaeffcfheoaaGreatDoor
open _root_.Array renaming all_eq_true_iff_forall_mem -> na, any_eq_true -> pg, getD -> gg, getElem?_append_left -> x0, getElem?_append_right -> yP, getElem?_eq_getElem -> e6, getElem?_eq_none -> eq, getElem?_eq_some_iff -> hO, getElem?_extract -> yS, getElem?_push_lt -> e5, getElem?_push_size -> fo, getElem?_replicate -> yQ, getElem?_setIfInBounds_ne -> i2, getElem?_setIfInBounds_self_of_lt -> yT, getElem_mem -> po, mapM_eq_mapM_toList -> yq, replicate -> vl, setIfInBounds_comm -> gs
open Bool renaming and_eq_true -> i3, false_eq_true -> sA, not_true -> tu, or_eq_true -> pa
open Int renaming fdiv_eq_ediv_of_nonneg -> zT, tdiv -> zW, toNat_natCast -> yN
open List renaming all_cons -> yk, all_eq_true -> oi, any_eq_true -> ta, cons_append -> z7, drop_eq_getElem_cons -> Ai, drop_eq_nil_of_le -> yC, drop_sublist -> yI, drop_zero -> yu, eq_nil_of_length_eq_zero -> yD, eraseIdx_sublist -> yY, ext_getElem? -> ye, flatMap_cons -> ys, getD_cons_succ -> yx, getD_eq_getElem?_getD -> zh, getElem?_append_left -> yl, getElem?_append_right -> yo, getElem?_drop -> yn, getElem?_eq_none -> ws, getElem?_eq_some_iff -> y6, getElem?_set_ne -> yg, getElem?_set_self -> yf, getElem?_take_of_lt -> ym, getElem_eraseIdx -> yV, getElem_inj -> yj, getElem_map -> yi, getElem_mem -> gp, getElem_set_ne -> y2, getElem_set_self -> y3, length_append -> yA, length_cons -> yc, length_drop -> zy, length_eraseIdx_of_lt -> yW, length_take -> y9, lookup_cons -> hP, mapM_cons -> yp, map_cons -> yR, map_set -> yd, mem_append -> gx, mem_cons -> g3, mem_iff_getElem -> yh, mem_map -> g1, mem_of_mem_drop -> yH, mem_of_mem_eraseIdx -> yX, mem_of_mem_take -> A6, mem_range -> o0, mem_singleton -> ul, nodup_cons -> g4, pairwise_iff_getElem -> yZ, perm_middle -> g2, range -> ov, range' -> um, range'_succ -> u9, range_eq_range' -> v2, replicate -> yJ, replicate_succ -> yK, set_cons_succ -> yE, take_add_one -> Af, take_append_drop -> A8, take_append_of_le_length -> yv, take_length -> yw, take_of_length_le -> Ft
open Nat renaming add_assoc -> yr, add_comm -> yz, add_mul -> zF, add_mul_div_left -> A9, add_zero -> yt, div_div_eq_div_mul -> D0, div_eq_of_lt -> z1, div_le_self -> zY, div_lt_iff_lt_mul -> y7, div_lt_of_lt_mul -> z2, div_lt_self -> D1, eq_zero_or_pos -> yU, le_of_ble_eq_true -> y5, le_refl -> ey, le_trans -> ez, log2_eq_iff -> Am, lt_of_le_of_lt -> zX, lt_of_lt_of_le -> e4, lt_or_ge -> ep, min_eq_left -> Ag, mod_eq_of_lt -> yL, mod_lt -> yM, mul_add -> z8, mul_assoc -> Ab, mul_comm -> y8, mul_le_mul_left -> A5, mul_le_mul_right -> yG, mul_zero -> Ah, one_mul -> F4, or_lt_two_pow -> zZ, pow_add -> A4, pow_le_pow_right -> Aw, pow_mul -> A7, pow_pos -> Bs, pow_succ -> z6, pow_succ' -> Az, strongRecOn -> hH, sub_self -> x1, succ_mul -> yy, two_pow_pos -> As, zero_add -> yF, zero_mul -> yB
open Option renaming isSome_iff_exists -> la, map_eq_none_iff -> y4, map_eq_some_iff -> ya, map_none -> yO, map_some -> yb
abbrev Z9:=Option Addr
theorem kD {p : Prop} (h : p := by decide) : p := h
theorem oM {p : Prop} (h : p := by omega) : p := h
theorem kR {p : Prop} (h : p := by kernel_rfl) : p := h
theorem aM {p : Prop} (h : p := by assumption) : p := h
theorem bQ {p : Prop} (h : p := by first | assumption | omega) : p := h
theorem sM {p : Prop} (h : p := by first | omega | (simp; done) | (simp; omega)) : p := h
theorem oT {p : Prop} [Decidable p] (h : decide p = true) : p := of_decide_eq_true h
theorem oF {p : Prop} [Decidable p] (h : decide p = false) : ¬p := of_decide_eq_false h
theorem dT {p : Prop} [Decidable p] (h : p) : decide p = true /\ p := ⟨decide_eq_true h, h⟩
theorem dF {p : Prop} [Decidable p] (h : ¬p) : decide p = false /\ ¬p := ⟨decide_eq_false h, h⟩
open Go.RowKit
abbrev pB (b:Nat):Value:=.pointer (some ⟨b,0,none⟩)
abbrev qP (b o:Nat):Value:=.pointer (some ⟨b,o,none⟩)
abbrev qT:Value:=.bool true
abbrev qF:Value:=.bool false
abbrev qS (A:Z9)(n c:Nat):Value:=.slice A n c
abbrev sZ:Value:=.slice none 0 0
abbrev eS:Value:=.string ⟨#[]⟩
abbrev sB (b:Nat):Z9:=some ⟨b,0,none⟩
abbrev iV (n:Int):Value:=.int .i64 n
abbrev uV (n:Int):Value:=.int .u64 n
abbrev a2:List Value:=[qF,uV 0,eS,uV 0,eS]
abbrev ca:List Value:=[iV 0,iV 0,qF,uV 0,eS,uV 0,eS,eS,sZ]
abbrev ci:Value:=.agg #[qF,uV 0,eS,uV 0,eS]
abbrev ea:List Value:=[qF,sZ,sZ]
abbrev eb:List ByteArray:=[⟨#[120]⟩,⟨#[121]⟩,⟨#[122]⟩]
abbrev uW (n:Int):Value:=.int .u32 n
abbrev nV (n:Nat):Value:=.int .i64 (n:Int)
abbrev mV (n:Nat):Value:=.int .u64 (n:Int)
abbrev mW (n:Nat):Value:=.int .u32 (n:Int)
def Ext (w w':World):Prop:=Below w.heap.size w w'
theorem Ext.refl (w:World):Ext w w:=Below.refl _ _
theorem Ext.trans {a b c:World}(h:Ext a b)(k:Ext b c):Ext a c:=Below.trans h (Below.mono k h.size)
theorem Ext.alloc {a w:World}(h:Ext a w)(o:Obj):Ext a (w.alloc o):=Below.alloc h h.size o
theorem Ext.drew {a w:World}(h:Ext a w):Ext a w.drew:=Below.drew h
theorem Ext.size {a w:World}(h:Ext a w):a.heap.size<=w.heap.size:=Below.size h
theorem Ext.cell {a w:World}(h:Ext a w){p:Addr}(b:p.block<a.heap.size):w.cell? p=a.cell? p:=Below.cell h b
theorem Ext.some {a w:World}(h:Ext a w){p:Addr}{v:Value}(b:a.cell? p=.some v):w.cell? p=.some v:=by
 rcases ep p.block a.heap.size with hl|hl
 ·rw[h.cell hl];exact b
 ·unfold World.cell? at b
  rw[eq hl] at b
  cases b
def aw (z:Int):Bool:=decide (z<0)
def ab (z:Int):Nat:=z.natAbs
def qd (q:Rat):Nat:=if q.den=1 then 0 else q.den
def bT (neg:Bool)(a:Nat):Int:=if neg then -(a:Int) else a
theorem iA (neg:Bool)(a:Nat):aw (bT neg a)=(neg && decide (0<a)):=by cases neg<;>simp[aw,bT]<;>omega
theorem dP (neg:Bool)(a:Nat):ab (bT neg a)=a:=by cases neg<;>simp[ab,bT]
theorem jX (z:Int):bT (aw z) (ab z)=z:=by unfold bT aw ab;by_cases h:z<0<;>simp[h]<;>omega
theorem pt (z:Int):bT (!aw z) (ab z) = -z:=by unfold bT aw ab;by_cases h:z<0<;>simp[h]<;>omega
theorem bp {z:Int}(h:aw z=true):z<0:=by simpa [aw] using h
theorem bc {z:Int}(h:aw z=false):0<=z:=by simpa [aw] using h
abbrev Hp:=Array Obj
def a6:Obj:=.cells #[] 0 (0,0)
structure G (w:World) (h:Hp):Prop where
  size:w.heap.size=h.size
  blk:∀ b:Nat,h[b]?=w.heap[b]?\/h[b]?=some a6
structure Gr (h h':Hp):Prop where
  size:h.size<=h'.size
  blk:∀ b:Nat,b<h.size->h'[b]?=h[b]?
structure Up (w:World) (h:Hp) (w':World) (h':Hp):Prop where
  ext:Ext w w'
  gr:Gr h h'
  g:G w' h'
theorem Gr.refl (h:Hp):Gr h h:=⟨ey _,fun _ _=>rfl⟩
theorem Gr.trans {a b c:Hp}(h:Gr a b)(k:Gr b c):Gr a c :=
 ⟨ez h.size k.size,fun x d=>(k.blk x (e4 d h.size)).trans (h.blk x d)⟩
theorem Gr.push (h:Hp)(o:Obj):Gr h (h.push o) :=
 ⟨by simp,fun b a=>by rw[e5 a];exact (e6 a).symm⟩
theorem Up.refl {w:World}{h:Hp}(g:G w h):Up w h w h:=⟨Ext.refl _,Gr.refl _,g⟩
theorem Up.trans {w w1 w2:World}{h h1 c:Hp}(a:Up w h w1 h1)(b:Up w1 h1 w2 c):Up w h w2 c:=⟨a.ext.trans b.ext,a.gr.trans b.gr,b.g⟩
theorem G.drew {w:World}{h:Hp}(g:G w h):G w.drew h:=⟨g.size,g.blk⟩
theorem Up.drew {w w1:World}{h h1:Hp}(a:Up w h w1 h1):Up w h w1.drew h1:=⟨a.ext.drew,a.gr,a.g.drew⟩
theorem heap_alloc (w:World)(o:Obj):(w.alloc o).heap=w.heap.push o:=rfl
theorem Up.allocAny {w:World}{h:Hp}(g:G w h)(o o':Obj)(a:o'=o\/o'=a6):Up w h (w.alloc o) (h.push o'):=by
 refine ⟨(Ext.refl _).alloc _,Gr.push _ _,⟨by rw[heap_alloc];simp[g.size],fun b=>?_⟩⟩;rw[heap_alloc];have e:=g.size
 rcases Nat.lt_trichotomy b h.size with hb|hb|hb
 ·rw[e5 hb,e5 oM]
  have:=g.blk b
  rwa [e6 hb,e6 oM] at this
 ·subst hb
  rw[fo];have:(w.heap.push o)[h.size]?=some o:=by rw[<-e];exact fo
  rw[this]
  rcases a with rfl|rfl
  ·exact .inl rfl
  ·exact .inr rfl
 ·left
  rw[eq (by simp;omega),eq (by simp;omega)]
structure Mo (M:List Nat) (w w':World):Prop where
  os:w'.os=w.os
  tape:w'.tape=w.tape
  output:w'.output=w.output
  size:w.heap.size<=w'.heap.size
  blk:∀ b,b<w.heap.size->b ∉ M->w'.heap[b]?=w.heap[b]?
theorem Mo.refl (M:List Nat)(w:World):Mo M w w:=⟨rfl,rfl,rfl,ey _,fun _ _ _=>rfl⟩
theorem Mo.trans {M:List Nat}{a b c:World}(h:Mo M a b)(k:Mo M b c):Mo M a c :=
 ⟨k.os.trans h.os,k.tape.trans h.tape,k.output.trans h.output,ez h.size k.size,fun x e d=>(k.blk x (e4 e h.size) d).trans (h.blk x e d)⟩
theorem Ext.mo {a b:World}(h:Ext a b)(M:List Nat):Mo M a b:=⟨h.os,h.tape,h.output,h.size,fun x c _=>Below.block h x c⟩
structure UpM (M:List Nat) (w:World) (h:Hp) (w':World) (h':Hp):Prop where
  mo:Mo M w w'
  gr:Gr h h'
  g:G w' h'
theorem Up.m {w w':World}{h a:Hp}(u:Up w h w' a)(M:List Nat):UpM M w h w' a:=⟨u.ext.mo M,u.gr,u.g⟩
theorem UpM.refl {M:List Nat}{w:World}{h:Hp}(g:G w h):UpM M w h w h:=⟨Mo.refl _ _,Gr.refl _,g⟩
theorem UpM.trans {M:List Nat}{w w1 w2:World}{h h1 c:Hp}(a:UpM M w h w1 h1)(b:UpM M w1 h1 w2 c):UpM M w h w2 c:=⟨a.mo.trans b.mo,a.gr.trans b.gr,b.g⟩
structure Ms where
  l:List Nat
  z:Option (Nat × List Nat)
def Tl (M:Ms)(w w':World):Prop:=∀ K bs,M.z=some (K,bs)->w.heap.size<=w'.heap.size/\∀ b,b<K->b ∉ bs->w'.heap[b]?=w.heap[b]?
theorem Tl.refl (M:Ms)(w:World):Tl M w w:=fun _ _ _=>⟨ey _,fun _ _ _=>rfl⟩
def Rl (M:Ms)(k0 i:Nat)(w w':World):Prop:=(i<k0->Mo M.l w w')/\(k0<=i->Tl M w w')
theorem Rl.refl (M:Ms)(k0 i:Nat)(w:World):Rl M k0 i w w:=⟨fun _=>Mo.refl _ _,fun _=>Tl.refl _ _⟩
theorem Rl.mo {M:Ms}{k0 i:Nat}{w w':World}(h:i<k0)(m:Mo M.l w w'):Rl M k0 i w w':=⟨fun _=>m,fun hk=>absurd hk oM⟩
theorem Rl.tl {M:Ms}{k0 i:Nat}{w w':World}(h:k0<=i)(m:Tl M w w'):Rl M k0 i w w':=⟨fun hk=>absurd hk oM,fun _=>m⟩
section region
variable (M:Ms)(P:Program)(ops:Array Oper)(Q:Exit->Act->World->Prop)(k0:Nat)
def oK:Nat->Array Bool->Act->World->Prop
  | 0,L,a,w=>Region.ready .any ops L=[]/\Q .normal a w
  | n + 1,L,a,w=>(Region.ready .any ops L=[]->Q .normal a w) /\
      ∀ i∈Region.ready .any ops L,wpOp P ops Q i (fun a' w'=>Rl M k0 i w w'/\oK n (L.setIfInBounds i true) a' w') a w
theorem jP:∀ (n:Nat) (L:Array Bool) (a:Act) (w:World),oK M P ops Q k0 n L a w->wpAny P .any ops Q n L a w
 | 0,_,_,_,h=>h
 | n+1,_,_,_,h=>⟨h.1,fun i hi=>wpOp_mono (fun a' w' h'=>jP n _ a' w' h'.2) (h.2 i hi)⟩
def rem (L:Array Bool):Nat:=L.toList.count false
def A (L:Array Bool)(a:Act)(w:World):Prop:=oK M P ops Q k0 (rem L) L a w
variable {M P ops Q k0}
theorem C2 {L:Array Bool}{i:Nat}(h:L.getD i true=false):∃ hi:i<L.size,L[i]=false:=by
 rcases ep i L.size with hi|hi
 ·exact ⟨hi,by simpa [gg,hi] using h⟩
 ·simp[gg,Nat.not_lt.2 hi] at h
theorem xp {L:Array Bool}{i:Nat}(h:L.getD i true=false):rem L=rem (L.setIfInBounds i true)+1:=by
 obtain ⟨hi,e⟩:=C2 h
 unfold rem
 rw[Array.toList_setIfInBounds,List.count_set (by simpa using hi)];have a:L.toList[i]'(by simpa using hi)=false:=by simpa using e
 have b:0<L.toList.count false:=List.count_pos_iff.2 (by rw[<-a];exact gp _);rw[a,if_pos (by rfl),if_neg kD]
 omega
theorem d8 {L:Array Bool}{i:Nat}(h:i∈Region.ready .any ops L):rem L=rem (L.setIfInBounds i true)+1:=xp (mem_ready.1 h).1
theorem A.intro {L:Array Bool}{a:Act}{w:World}(h0:Region.ready .any ops L=[]->Q .normal a w)
    (h1:∀ i∈Region.ready .any ops L,wpOp P ops Q i (fun a' w'=>Rl M k0 i w w'/\A M P ops Q k0 (L.setIfInBounds i true) a' w') a w):A M P ops Q k0 L a w:=by
  unfold A
  cases c:rem L with
  | zero =>
    have hr:Region.ready .any ops L=[]:=by
      cases hr:Region.ready .any ops L with
      | nil=>rfl
      | cons i l =>
        have:=d8 (ops:=ops) (L:=L) (i:=i) (by rw[hr];simp)
        omega
    exact ⟨hr,h0 hr⟩
  | succ n =>
    refine ⟨h0,fun i hi=>?_⟩;have e:=d8 hi;have b:=h1 i hi
    unfold A at b
    have e2:rem (L.setIfInBounds i true)=n:=by omega
    rw[e2] at b
    exact b
theorem A.done {L:Array Bool}{a:Act}{w:World}(hr:(Region.ready .any ops L).isEmpty=true)(h:Q .normal a w):A M P ops Q k0 L a w:=by
 have b:Region.ready .any ops L=[]:=by simpa using hr
 exact A.intro (fun _=>h) (fun i hi=>by rw[b] at hi;cases hi)
theorem jL {i:Nat}{D:Oper}{v:Value}{S:World->Prop}(hi:ops[i]?=some D)(C:∀ (j:Nat) (o:Oper) cs b,ops[j]?=some o->o.op≠.select cs b)
    (hQ:∀ c a w,Q (.panic c) (a.put D.dst v) w->Q (.panic c) a w)(J:∀ w w',S w->Mo M.l w w'->S w') :
    ∀ (n:Nat) (L:Array Bool) (a:Act) (w:World),
      (∀ j d,ops[j]?=some d->j≠i->L.getD j true=false->(∀ e∈d.after,Region.binds .any e=true->e.on≠i)->D.apart ops d=true) ->
      ((∀ w,S w)\/(∀ w w',S w->Tl M w w'->S w')\/∀ j d,ops[j]?=some d->k0<=j->j≠i->∃ e∈d.after,Region.binds .any e=true/\e.on=i) ->
      i∈Region.ready .any ops L->YieldsIf P ops S D v a->S w ->
      oK M P ops Q k0 n (L.setIfInBounds i true) (a.put D.dst v) w->(i<k0)->oK M P ops Q k0 (n+1) L a w:=by
  intro n
  induction n with
  | zero =>
    intro L a w _ _ hr U F H _;refine ⟨fun h=>(by rw[h] at hr;cases hr),fun j V=>?_⟩
    by_cases hji:j=i
    . subst hji;exact U.wpOp hi F ⟨Rl.refl _ _ _ _,H⟩
    . have:=ready_mono V hji
      rw[H.1] at this
      cases this
  | succ n ih =>
    intro L a w f p hr U F H hk;refine ⟨fun h=>(by rw[h] at hr;cases hr),fun j V=>?_⟩
    by_cases hji:j=i
    . subst hji;exact U.wpOp hi F ⟨Rl.refl _ _ _ _,H⟩
    . have h1:=H.2 j (ready_mono V hji)
      obtain ⟨z,d,y,I⟩:=mem_ready.1 V
      have B:∀ e∈d.after,Region.binds .any e=true->e.on≠i:=fun e Z X heq=>by
        have h1:=I e Z X;have h0:=(mem_ready.1 hr).1;rw[heq] at h1
        obtain ⟨u,h0'⟩:=C2 h0
        simp[gg,u,h0'] at h1
      have h2:=wpOp_putIf y (f j d y hji z B) (fun cs b=>C i D cs b hi) (fun cs b=>C j d cs b y) hQ U h1
      have x:∀ k ok,ops[k]?=some ok->k≠i->(L.setIfInBounds j true).getD k true=false ->
          (∀ e∈ok.after,Region.binds .any e=true->e.on≠i)->D.apart ops ok=true:=fun k ok hk hki K hno=>by
        refine f k ok hk hki ?_ hno
        by_cases hjk:j=k
        . subst hjk;exact z
        . rw[getD_set_ne true hjk] at K;exact K
      have W:∀ w',Rl M k0 j w w'->S w':=fun w' Y=>by
        rcases p with ht|ht|ht
        . exact ht w'
        . rcases ep j k0 with u|u
          . exact J _ _ F (Y.1 u)
          . exact ht _ _ F (Y.2 u)
        . rcases ep j k0 with u|u
          . exact J _ _ F (Y.1 u)
          . obtain ⟨e,Z,X,ho⟩:=ht j d y u hji
            exact absurd ho (B e Z X)
      refine wpOp_mono (fun a' w' O=>⟨O.2.1,ih (L.setIfInBounds j true) a' w' x p (ready_mono hr (Ne.symm hji)) O.1 (W w' O.2.1) ?_ hk⟩) h2;rw[gs _ _ hji];exact O.2.2
structure Al where
  i:Nat
  t:Nat
  o:Obj
structure AlOk (P:Program) (ops:Array Oper) (k0:Nat) (x:Al):Prop where
  ex:∃ o,ops[x.i]?=some o/\o.dst=some x.t/\o.guard=none/\o.after = #[]/\(∀ (ρ:Operand->Value) (w:World),(execOp ρ o).run P w=.ok (.value (.pointer (some ⟨w.heap.size,0,none⟩))) (w.alloc x.o))
  lt:x.i<k0
abbrev SA:=Al × Nat
def dg (L:Array Bool)(S:List SA):Array Bool:=S.foldr (fun s L=>L.setIfInBounds s.1.i true) L
def addA (a:Act)(S:List SA):Act:=S.foldr (fun s a=>a.put (some s.1.t) (.pointer (some ⟨s.2,0,none⟩))) a
def Blk (h0:Hp)(w:World)(h:Hp)(s:SA):Prop:=w.heap[s.2]?=some s.1.o/\h[s.2]?=some a6/\h0.size<=s.2
theorem Blk.up {h0:Hp}{w w':World}{h f:Hp}{s:SA}(b:Blk h0 w h s)(u:UpM M.l w h w' f)(hM:∀ b∈M.l,b<h0.size):Blk h0 w' f s:=by
 obtain ⟨e,d,j⟩:=b
 have a:s.2<w.heap.size:=by
  rcases ep s.2 w.heap.size with a|a
  ·exact a
  ·rw[eq a] at e;cases e
 have c:s.2<h.size:=by
  rcases ep s.2 h.size with a|a
  ·exact a
  ·rw[eq a] at d;cases d
 exact ⟨(u.mo.blk _ a (fun i=>by have:=hM _ i;omega)).trans e,(u.gr.blk _ c).trans d,j⟩
theorem Blk.lt {h0:Hp}{w:World}{h:Hp}{s:SA}(b:Blk h0 w h s):s.2<w.heap.size:=by
 rcases ep s.2 w.heap.size with hl|hl
 ·exact hl
 ·have:=b.1;rw[eq hl] at this;cases this
variable (M P ops Q k0) in
def E (h0:Hp)(AL:List Al)(L:Array Bool)(a:Act)(w:World)(h:Hp):Prop :=
  ∀ w' h',Up w h w' h'->∀ (S:List SA) (T:List Al),(S.map (·.1)++T).Perm AL->(∀ s∈S,Blk h0 w' h' s)->(S.map (·.2)).Nodup ->
    A M P ops Q k0 (dg L S) (addA a S) w'
theorem jB (L:Array Bool)(S:List SA)(i:Nat)(hi:∀ s∈S,s.1.i≠i):dg (L.setIfInBounds i true) S=(dg L S).setIfInBounds i true:=by
  induction S with
  | nil=>rfl
  | cons s S ih =>
    have h1:s.1.i≠i:=hi s (by simp)
    show (dg (L.setIfInBounds i true) S).setIfInBounds s.1.i true=((dg L S).setIfInBounds s.1.i true).setIfInBounds i true
    rw[ih (fun t a=>hi t (by simp[a])),gs _ _ (Ne.symm h1)]
theorem kg (a:Act)(S:List SA)(d:Option Tmp)(v:Value)(b:∀ s∈S,d≠some s.1.t):addA (a.put d v) S=(addA a S).put d v:=by
  induction S with
  | nil=>rfl
  | cons s S ih =>
    have h1:d≠some s.1.t:=b s (by simp)
    show (addA (a.put d v) S).put (some s.1.t) _=((addA a S).put (some s.1.t) _).put d v
    rw[ih (fun t f=>b t (by simp[f]))];exact Act.put_comm _ _ _ (fun x e c=>h1 (e.trans c.symm))
theorem fc {L:Array Bool}{S:List SA}{j:Nat}(h:(dg L S).getD j true=false):L.getD j true=false:=by
  induction S with
  | nil=>exact h
  | cons s S ih =>
    apply ih
    have a:((dg L S).setIfInBounds s.1.i true).getD j true=false:=h
    by_cases e:s.1.i=j
    . subst e
      obtain ⟨c,b⟩:=C2 a
      simp at b
    . rwa [getD_set_ne true e] at a
theorem gf {L:Array Bool}{S:List SA}{j:Nat}(d:Bool)(a:∀ s∈S,s.1.i≠j):(dg L S).getD j d=L.getD j d:=by
  induction S with
  | nil=>rfl
  | cons s S ih =>
    show ((dg L S).setIfInBounds s.1.i true).getD j d=_
    rw[getD_set_ne d (a s (by simp))];exact ih (fun t b=>a t (by simp[b]))
theorem iK {L:Array Bool}{S:List SA}{j:Nat}(h:L.getD j false=true):(dg L S).getD j false=true:=by
 induction S with
 | nil=>exact h
 | cons s S ih=>exact getD_set_true (listed:=dg L S) ih
theorem oz {L:Array Bool}{S:List SA}{i:Nat}(hi:∀ s∈S,s.1.i≠i)(h:i∈Region.ready .any ops L):i∈Region.ready .any ops (dg L S):=by
 rw[mem_ready] at *
 obtain ⟨h0,o,b,a⟩:=h;exact ⟨by rw[gf true hi];exact h0,o,b,fun e c d=>iK (a e c d)⟩
theorem kE {o:Oper}(i:∀ cs b,o.op≠.select cs b)(a:Act)(S:List SA)(h:∀ s∈S,s.1.t ∉ o.looksAt ops) :
    execOp (addA a S).eval o=execOp a.eval o/\Region.wanted o (yielded ops (addA a S).tmps)=Region.wanted o (yielded ops a.tmps):=by
  induction S with
  | nil=>exact ⟨rfl,rfl⟩
  | cons s S ih =>
    obtain ⟨i1,f⟩:=ih (fun t j=>h t (by simp[j]));have e:∀ d,some s.1.t=some d->d ∉ o.looksAt ops:=fun d c=>by injection c with c;subst c;exact h s (by simp)
    exact ⟨(execOp_put (ops:=ops) o i _ _ _ e).trans i1,(wanted_put (ops:=ops) o _ _ _ e).trans f⟩
theorem fO {S:List SA}{T AL:List Al}(a:(S.map (·.1)++T).Perm AL){s:SA}(b:s∈S):s.1∈AL :=
 a.mem_iff.1 (gx.2 (.inl (g1.2 ⟨s,b,rfl⟩)))
def OpR (P:Program)(ops:Array Oper)(o:Oper)(a:Act)(w:World)(R:Value->World->Prop):Prop :=
  Region.wanted o (yielded ops a.tmps)=true /\
  ((∃ v w',(execOp a.eval o).run P w=.ok (.value v) w'/\R v w')\/(∃ w',(execOp a.eval o).run P w=.ok .skip w'/\R undef w') \/
   (∃ f args,(execOp a.eval o).run P w=.ok (.enter f args) w/\Calls P f args w (fun e w'=>∃ v,e=.returned v/\R v w')))
theorem OpR.wpOp {i:Nat}{o:Oper}{a:Act}{w:World}{R:Value->World->Prop}{K:Act->World->Prop}(hi:ops[i]?=some o)(h:OpR P ops o a w R)
  (b:∀ v w',R v w'->K (a.put o.dst v) w'):wpOp P ops Q i K a w:=by
 obtain ⟨d,h⟩:=h
 unfold Go.wpOp
 simp only[hi,d,if_true]
 left
 unfold Oper.wp
 rcases h with ⟨v,w',hr,hR⟩|⟨w',hr,hR⟩|⟨f,args,hr,hc⟩
 ·rw[hr];exact b _ _ hR
 ·rw[hr];exact b _ _ hR
 ·rw[hr]
  refine Calls.mono hc fun e w' c=>?_
  obtain ⟨v,rfl,hR⟩:=c;exact b _ _ hR
theorem OpR.addA {o:Oper}{a:Act}{w:World}{R:Value->World->Prop}(h:OpR P ops o a w R)(d:∀ cs b,o.op≠.select cs b)(S:List SA)(c:∀ s∈S,s.1.t ∉ o.looksAt ops) :
  OpR P ops o (addA a S) w R:=by
 obtain ⟨e1,e2⟩:=kE (ops:=ops) d a S c
 unfold OpR at *
 rw[e1,e2];exact h
theorem xm {x:Al}(ok:AlOk P ops k0 x){a:Act}{w:World}{K:Act->World->Prop}(h:K (a.put (some x.t) (.pointer (some ⟨w.heap.size,0,none⟩))) (w.alloc x.o)):wpOp P ops Q x.i K a w:=by
 obtain ⟨o,h1,c,b,_,d⟩:=ok.ex
 unfold Go.wpOp
 simp only[h1]
 rw[if_pos (by simp[Region.wanted,b])]
 left
 unfold Oper.wp
 rw[d]
 show K (a.put o.dst _) _
 rw[c];exact h
theorem mT {x:Al}(ok:AlOk P ops k0 x){L:Array Bool}(h:L.getD x.i true=false):x.i∈Region.ready .any ops L:=by
 obtain ⟨o,h1,_,_,b,_⟩:=ok.ex;exact mem_ready.2 ⟨h,o,h1,fun e a=>by rw[b] at a;simp at a⟩
theorem ma {h0:Hp}{AL:List Al}{L:Array Bool}{a:Act}{w':World}{e:Hp}{S:List SA}{T:List Al}{x:Al}
  (f:∀ x∈AL,AlOk P ops k0 x)(hM:∀ b∈M.l,b<h0.size)(g:G w' e)(j:h0.size<=e.size)(y:(S.map (·.1)++T).Perm AL)(p:∀ s∈S,Blk h0 w' e s)(D:(S.map (·.2)).Nodup)(z:x∈T)
  (C:∀ (w1:World) (h1:Hp) (S1:List SA) (d:List Al),Up w' e w1 h1->(S1.map (·.1)++d).Perm AL->(∀ s∈S1,Blk h0 w1 h1 s)->(S1.map (·.2)).Nodup->d.length<T.length->A M P ops Q k0 (dg L S1) (addA a S1) w1) :
  wpOp P ops Q x.i (fun H w1=>Rl M k0 x.i w' w1/\A M P ops Q k0 ((dg L S).setIfInBounds x.i true) H w1) (addA a S) w':=by
 have c:x∈AL:=y.mem_iff.1 (gx.2 (.inr z))
 obtain ⟨d,hT⟩:∃ d,T.Perm (x::d):=by
  obtain ⟨F,l2,rfl⟩:=List.append_of_mem z;exact ⟨F++l2,g2⟩
 have u:Up w' e (w'.alloc x.o) (e.push a6):=Up.allocAny g _ _ (.inr rfl);refine xm (f x c) ⟨Rl.mo (f x c).lt (u.m M.l).mo,?_⟩;refine C (w'.alloc x.o) (e.push a6) ((x,w'.heap.size)::S) d u ?_ ?_ ?_ ?_
 ·refine List.Perm.trans ?_ y
  show (x::(S.map (·.1)++d)).Perm _
  refine List.Perm.trans g2.symm ?_;exact List.Perm.append_left _ hT.symm
 ·intro s h
  rcases g3.1 h with rfl|h
  ·refine ⟨?_,?_,?_⟩
   ·rw[heap_alloc];exact fo
   ·rw[g.size];exact fo
   ·show h0.size<=w'.heap.size;rw[g.size];exact j
  ·exact (p s h).up (u.m M.l) hM
 ·show (w'.heap.size::S.map (·.2)).Nodup
  refine g4.2 ⟨fun B=>?_,D⟩;obtain ⟨s,h,I⟩:=g1.1 B;have:=(p s h).lt
  omega
 ·have:=hT.length_eq
  simp at this
  omega
theorem fz {AL:List Al}{L:Array Bool}{S:List SA}{T:List Al}{x:Al}(c:(S.map (·.1)++T).Perm AL)(f:x∈AL)(hr:x.i∈Region.ready .any ops (dg L S)):x∈T:=by
  rcases gx.1 (c.mem_iff.2 f) with hm|hm
  . obtain ⟨s,d,b⟩:=g1.1 hm
    have h1:=(mem_ready.1 hr).1
    exfalso
    rw[<-b] at h1
    clear hr c hm b
    induction S with
    | nil=>cases d
    | cons t S ih =>
      have a:((dg L S).setIfInBounds t.1.i true).getD s.1.i true=false:=h1
      by_cases e:t.1.i=s.1.i
      . rw[e] at a
        obtain ⟨h,b⟩:=C2 a
        simp at b
      . rw[getD_set_ne true e] at a
        rcases g3.1 d with rfl|hs'
        . exact e rfl
        . exact ih hs' a
  . exact hm
end region
section laws
variable {M:Ms}{P:Program}{ops:Array Oper}{Q:Exit->Act->World->Prop}{k0:Nat}
theorem qO (L:Array Bool)(S:List SA):(dg L S).size=L.size:=by
 induction S with
 | nil=>rfl
 | cons s S ih=>show ((dg L S).setIfInBounds s.1.i true).size=_;simp[ih]
theorem E.take0 {h0:Hp}{AL:List Al}{L:Array Bool}{a:Act}{w:World}{h:Hp}{i:Nat}{o:Oper}{v:Value}{S:World->Prop}
  (hi:ops[i]?=some o)(hk:i<k0)(f:Region.noSelect ops=true)(hf:Region.free .any ops L i=true)(hr:i∈Region.ready .any ops L)
  (F:∀ x∈AL,x.i≠i/\x.t ∉ o.looksAt ops/\o.dst≠some x.t)(V:∀ c a w,¬Q (.panic c) a w)
  (C:∀ w w',S w->Mo M.l w w'->S w')(O:∀ w',Mo M.l w w'->S w')(Y:YieldsIf P ops S o v a)
  (p:(∀ w,S w)\/(∀ w w',S w->Tl M w w'->S w')\/∀ j B,ops[j]?=some B->k0<=j->j≠i->∃ e∈B.after,Region.binds .any e=true/\e.on=i)
  (H:E M P ops Q k0 h0 AL (L.setIfInBounds i true) (a.put o.dst v) w h):E M P ops Q k0 h0 AL L a w h:=by
 intro w' X u z T J U W;have b:∀ s∈z,s.1.i≠i/\s.1.t ∉ o.looksAt ops/\o.dst≠some s.1.t:=fun s d=>F _ (fO J d)
 have K:=H w' X u z T J U W;rw[jB L z i (fun s d=>(b s d).1),kg a z o.dst v (fun s d=>(b s d).2.2)] at K
 have y:=oz (fun s d=>(b s d).1) hr;obtain ⟨e1,e2⟩:=kE (ops:=ops) (Region.noSelect_spec f i o · · hi) a z (fun s d=>(b s d).2.1)
 unfold A at *
 rw[d8 y]
 exact jL hi (Region.noSelect_spec f) (fun c a w Z=>absurd Z (V _ _ _)) C _ _ _ _
  (fun j B hj D I=>Region.free_spec hi hf j B hj D (fc I)) p y (Y.of_same e1 e2) (O _ (u.m M.l).mo) K hk
theorem E.event0 {h0:Hp}{AL:List Al}{L:Array Bool}{a:Act}{w:World}{h:Hp}{i:Nat}{o:Oper}
    (hi:ops[i]?=some o)(hk:i<k0)(W:Region.noSelect ops=true)(hL:L.size=ops.size)(hun:L.getD i true=false)
    (I:∀ j Y,ops[j]?=some Y->L.getD j true=false->j≠i->(∀ x∈AL,x.i≠j)->∃ e∈Y.after,Region.binds .any e=true/\L.getD e.on false=false/\∀ x∈AL,x.i≠e.on)
    (V:∀ e∈o.after,Region.binds .any e=true->L.getD e.on false=true\/∃ x∈AL,x.i=e.on)
    (hal:∀ x∈AL,x.i≠i/\x.t ∉ o.looksAt ops/\o.dst≠some x.t)(D:∀ x∈AL,AlOk P ops k0 x)(hM:∀ b∈M.l,b<h0.size)(g:G w h)(hsz:h0.size<=h.size)
    (H:∀ w' y,Up w h w' y->OpR P ops o a w' (fun v p=>∃ z,UpM M.l w' y p z/\E M P ops Q k0 h0 AL (L.setIfInBounds i true) (a.put o.dst v) p z)):E M P ops Q k0 h0 AL L a w h:=by
  have key:∀ (m:Nat) (T:List Al),T.length=m->∀ w' y,Up w h w' y->∀ (S:List SA),(S.map (·.1)++T).Perm AL->(∀ s∈S,Blk h0 w' y s)->(S.map (·.2)).Nodup ->
      A M P ops Q k0 (dg L S) (addA a S) w':=by
    intro m
    induction m using hH with
    | _ m ih =>
      intro T hT w' y u S B X Z;have f:∀ s∈S,s.1.i≠i/\s.1.t ∉ o.looksAt ops/\o.dst≠some s.1.t:=fun s c=>hal _ (fO B c)
      refine A.intro (fun O=>?_) (fun j hj=>?_)
      . exfalso
        by_cases hd:∃ e∈o.after,Region.binds .any e=true/\(dg L S).getD e.on false=false
        . obtain ⟨e,C,d,hf⟩:=hd
          rcases V e C d with h1|⟨x,F,hxe⟩
          . rw[iK h1] at hf;cases hf
          . have U:x.i<(dg L S).size:=by
              obtain ⟨o',ho',_⟩:=(D x F).ex;rw[qO,hL];exact (hO.1 ho').1
            have:x.i∈Region.ready .any ops (dg L S):=mT (D x F) (by rw[<-hxe] at hf;simp[gg,U] at hf ⊢;exact hf);rw[O] at this
            cases this
        . have:i∈Region.ready .any ops (dg L S):=mem_ready.2 ⟨by rw[gf true (fun s c=>(f s c).1)];exact hun,o,hi,fun e C d=>by
            cases hv:(dg L S).getD e.on false
            . exact absurd ⟨e,C,d,hv⟩ hd
            . rfl⟩
          rw[O] at this
          cases this
      . by_cases hji:j=i
        . subst hji
          refine OpR.wpOp hi ((H w' y u).addA (Region.noSelect_spec W j o · · hi) S (fun s c=>(f s c).2.1)) ?_;rintro v p ⟨z,u2,H2⟩;refine ⟨Rl.mo hk u2.mo,?_⟩;rw[<-jB L S j (fun s c=>(f s c).1),<-kg a S o.dst v (fun s c=>(f s c).2.2)];exact H2 p z (Up.refl u2.g) S T B (fun s c=>(X s c).up u2 hM) Z
        . obtain ⟨J,Y,hoj,K⟩:=mem_ready.1 hj
          have F:∃ x∈AL,x.i=j:=by
            refine Classical.byContradiction fun hno=>?_
            obtain ⟨e,C,d,hf,hne⟩:=I j Y hoj (fc J) hji (fun x F C=>hno ⟨x,F,C⟩);have:=K e C d;rw[gf false (fun s c=>hne _ (fO B c)),hf] at this
            cases this
          obtain ⟨x,hxA,rfl⟩:=F;have hxT:=fz B hxA hj;exact ma D hM u.g (ez hsz u.gr.size) B X Z hxT (fun w1 h1 S1 T1 u1 hp1 hb1 hn1 U=>ih T1.length oM T1 rfl w1 h1 (u.trans u1) S1 hp1 hb1 hn1)
  exact fun w' y u S T B X Z=>key _ T rfl w' y u S B X Z
theorem E.fin0 {h0:Hp}{AL:List Al}{L:Array Bool}{a:Act}{w:World}{h:Hp}(hL:L.size=ops.size)
    (Y:∀ j F,ops[j]?=some F->L.getD j true=false->(∃ x∈AL,x.i=j)\/∀ x∈AL,∃ e∈F.after,Region.binds .any e=true/\e.on=x.i)
    (z:∀ x∈AL,L.getD x.i true=false)(C:∀ x∈AL,AlOk P ops k0 x)(hM:∀ b∈M.l,b<h0.size)(Z:h0.size<=h.size)(J:(AL.map (·.i)).Nodup)
    (H:∀ w' c,Up w h w' c->∀ S:List SA,(S.map (·.1)).Perm AL->(∀ s∈S,Blk h0 w' c s)->(S.map (·.2)).Nodup->A M P ops Q k0 (dg L S) (addA a S) w'):E M P ops Q k0 h0 AL L a w h:=by
  have key:∀ (m:Nat) (T:List Al),T.length=m->∀ w' c,Up w h w' c->∀ (S:List SA),(S.map (·.1)++T).Perm AL->(∀ s∈S,Blk h0 w' c s)->(S.map (·.2)).Nodup ->
      A M P ops Q k0 (dg L S) (addA a S) w':=by
    intro m
    induction m using hH with
    | _ m ih =>
      intro T hT w' c u S f D I;cases T with
      | nil=>exact H w' c u S (by simpa using f) D I
      | cons t T' =>
        have p:t∈AL:=f.mem_iff.1 (gx.2 (.inr (by simp)));have d:((S.map (·.1)++t::T').map (·.i)).Nodup:=(f.map (·.i)).nodup_iff.2 J
        have htS:∀ s∈S,s.1.i≠t.i:=fun s hs W=>by
          rw[List.map_append,List.nodup_append] at d
          exact d.2.2 s.1.i (g1.2 ⟨s.1,g1.2 ⟨s,hs,rfl⟩,rfl⟩) t.i (g1.2 ⟨t,by simp,rfl⟩) W
        have o:t.i∈Region.ready .any ops (dg L S):=mT (C t p) (by rw[gf true htS];exact z t p);refine A.intro (fun X=>by rw[X] at o;cases o) (fun j hj=>?_);obtain ⟨y,F,hoj,B⟩:=mem_ready.1 hj
        rcases Y j F hoj (fc y) with ⟨x,hxA,rfl⟩|hw
        . have V:=fz f hxA hj
          exact ma C hM u.g (ez Z u.gr.size) f D I V (fun w1 h1 S1 T1 u1 hp1 hb1 O hlt=>ih T1.length oM T1 rfl w1 h1 (u.trans u1) S1 hp1 hb1 O)
        . obtain ⟨e,W,U,K⟩:=hw t p
          have:=B e W U;rw[K] at this
          obtain ⟨hl,hv⟩:=C2 (mem_ready.1 o).1
          simp[gg,hl,hv] at this
  exact fun w' c u S T f D I=>key _ T rfl w' c u S f D I
end laws
abbrev bO:=List (Nat × Value)
def fl (Γ:bO):List Deferred:=match Γ.lookup 1000000 with|some (.int _ D)=>[{ target:=.collected D.toNat,args:=#[] }]|_=>[]
structure Kn (n:Nat) (a:Act) (Γ:bO):Prop where
  df:a.defers=fl Γ
  sz:a.tmps.size=n
  nb:n<=1000000
  has:∀ t v,t≠1000000->Γ.lookup t=some v->a.tmps[t]?=some v
def ev (Γ:bO):Operand->Value
  | .tmp t=>(Γ.lookup t).getD undef
  | .const v=>v
  | .global g=>.pointer (some ⟨g,0,none⟩)
  | .func f=>.func (.func f) #[] #[]
def ak (ops:Array Oper)(i:Nat):Oper:=ops.getD i default
def fT (Γ:bO):Operand->Bool
  | .tmp t=>t != 1000000 && (Γ.lookup t).isSome
  | _=>true
def a7 (Γ:bO)(o:Oper):Bool:=o.op.operands.all (fT Γ)
def bg (ops:Array Oper)(Γ:bO)(o:Oper):Option Bool :=
  match o.guard with
  | none=>some true
  | some (g,want)=>match ((ops[g]?).bind (·.dst)).bind (fun t=>if t=1000000 then none else Γ.lookup t) with
    | some (.bool b)=>some (b == want)
    | some (.tuple _)=>some false
    | _=>none
theorem Kn.put {n:Nat}{a:Act}{Γ:bO}(k:Kn n a Γ){t:Nat}(f:t<n)(v:Value):Kn n (a.put (some t) v) ((t,v)::Γ):=by
 have c:=k.nb;refine ⟨?_,by simpa [Act.put] using k.sz,k.nb,fun s u h b=>?_⟩
 ·have e:((1000000:Nat) == t)=false:=by simp;omega
  show a.defers=_
  rw[k.df];unfold fl;rw[hP,e]
 rw[hP] at b
 by_cases e:s=t
 ·subst e
  simp at b
  subst b
  simp[Act.put,k.sz,f]
 ·have d:(s == t)=false:=by simp[e]
  rw[d] at b
  simp only[Act.put]
  rw[i2 (Ne.symm e)];exact k.has s u h b
theorem Kn.eval {n:Nat}{a:Act}{Γ:bO}(k:Kn n a Γ){x:Operand}(b:fT Γ x=true):a.eval x=ev Γ x:=by
  cases x with
  | tmp t =>
    have b:(t != 1000000 && (Γ.lookup t).isSome)=true:=b;rw[i3] at b
    obtain ⟨v,hv⟩:=la.1 b.2;have:=k.has t v (by simpa using b.1) hv
    simp[Act.eval,ev,hv,this]
  | _=>rfl
theorem Kn.exec {n:Nat}{a:Act}{Γ:bO}(k:Kn n a Γ){o:Oper}(d:∀ cs b,o.op≠.select cs b)(hk:a7 Γ o=true):execOp a.eval o=execOp (ev Γ) o :=
 execOp_congr o d (fun x c=>k.eval ((na.1 hk) x c))
theorem Kn.want {n:Nat}{a:Act}{Γ:bO}(k:Kn n a Γ){ops:Array Oper}{o:Oper}{b:Bool}(h:bg ops Γ o=some b):Region.wanted o (yielded ops a.tmps)=b:=by
  unfold bg at h
  unfold Region.wanted
  split at h
  . rename_i d;simp only[d];simpa using h
  . rename_i g want d
    simp only[d]
    cases c:(ops[g]?).bind (·.dst) with
    | none=>rw[c] at h;simp at h
    | some t =>
      rw[c] at h
      simp only[Option.bind_some] at h
      by_cases ht0:t=1000000
      . rw[if_pos ht0] at h;simp at h
      rw[if_neg ht0] at h
      cases hv:Γ.lookup t with
      | none=>rw[hv] at h;simp at h
      | some u =>
        rw[hv] at h
        have e:=k.has t u ht0 hv;cases u with
        | bool x=>simp at h;subst h;simp[yielded,c,e]
        | tuple x=>simp at h;subst h;simp[yielded,c,e]
        | _=>simp at h
theorem Kn.mono {n:Nat}{a:Act}{Γ Γ':bO}(k:Kn n a Γ)(h:∀ t v,Γ'.lookup t=some v->Γ.lookup t=some v)(b:fl Γ'=fl Γ):Kn n a Γ':=⟨k.df.trans b.symm,k.sz,k.nb,fun t v c hv=>k.has t v c (h t v hv)⟩
def iE (Γ:bO):List Nat->bO
  | []=>[]
  | t::ts=>match Γ.lookup t with|some v=>(t,v)::iE Γ ts|none=>iE Γ ts
theorem dU (Γ:bO):∀ (ts:List Nat) (t:Nat) (v:Value),(iE Γ ts).lookup t=some v->Γ.lookup t=some v
  | [],_,_,h=>by simp[iE] at h
  | s :: ts,t,v,h=>by
    unfold iE at h
    split at h
    . rename_i u b
      rw[hP] at h
      by_cases e:t=s
      . subst e;simp at h;subst h;exact b
      . have a:(t == s)=false:=by simp[e]
        rw[a] at h
        exact dU Γ ts t v h
    . exact dU Γ ts t v h
abbrev Po:=Act->World->Prop
def gk (N R:Po)(X:Nat->Po):Exit->Act->World->Prop
  | .normal,a,w=>N a w
  | .ret,a,w=>R a w
  | .exit i,a,w=>X i a w
  | _,_,_=>False
def CG (P:Program)(n:Nat)(N R:Po)(X:Nat->Po)(c:Code)(Γ:bO)(w:World):Prop:=∀ a,Kn n a Γ->c.wp P (gk N R X) a w
def EG (M:Ms)(P:Program)(n:Nat)(N R:Po)(X:Nat->Po)(ops:Array Oper)(k0:Nat)(h0:Hp)(AL:List Al)(L:Array Bool)(Γ:bO)(w:World)(h:Hp):Prop :=
  (∀ x∈AL,AlOk P ops k0 x)->(∀ b∈M.l,b<h0.size)->G w h->h0.size<=h.size->∀ a,Kn n a Γ->E M P ops (gk N R X) k0 h0 AL L a w h
def AG (M:Ms)(P:Program)(n:Nat)(N R:Po)(X:Nat->Po)(ops:Array Oper)(k0:Nat)(L:Array Bool)(Γ:bO)(w:World):Prop :=
  ∀ a,Kn n a Γ->A M P ops (gk N R X) k0 L a w
section steps
variable {M:Ms}{P:Program}{n:Nat}{N R:Po}{X:Nat->Po}{ops:Array Oper}{k0:Nat}{h0:Hp}{AL:List Al}{L:Array Bool}{Γ:bO}{w:World}{h:Hp}
def pM (ops:Array Oper)(AL:List Al)(i:Nat)(o:Oper):Bool:=AL.all fun x=>x.i != i && !(o.looksAt ops).contains x.t && o.dst != some x.t
theorem gM {i:Nat}{o:Oper}(b:pM ops AL i o=true):∀ x∈AL,x.i≠i/\x.t ∉ o.looksAt ops/\o.dst≠some x.t:=by
 intro x a;have:=(oi.1 b) x a
 simp only[i3,bne_iff_ne,ne_eq,Bool.not_eq_true',List.contains_eq_mem,decide_eq_false_iff_not] at this
 exact ⟨this.1.1,this.1.2,this.2⟩
def cZ (n:Nat)(ops:Array Oper)(k0:Nat)(AL:List Al)(L:Array Bool)(i t:Nat):Bool :=
  let o:=ak ops i
  decide (i<ops.size) && decide (i<k0) && Region.noSelect ops && Region.free .any ops L i && (Region.ready .any ops L).contains i && pM ops AL i o && (o.dst == some t) && decide (t<n)
structure TakeOk (n:Nat) (ops:Array Oper) (k0:Nat) (AL:List Al) (L:Array Bool) (i t:Nat):Prop where
  get:ops[i]?=some (ak ops i)
  lt:i<k0
  sel:Region.noSelect ops=true
  free:Region.free .any ops L i=true
  ready:i∈Region.ready .any ops L
  al:∀ x∈AL,x.i≠i/\x.t ∉ (ak ops i).looksAt ops/\(ak ops i).dst≠some x.t
  dst:(ak ops i).dst=some t
  tn:t<n
theorem bC {i:Nat}(h:i<ops.size):ops[i]?=some (ak ops i):=by
 unfold ak;simp[h]
theorem c4 {i t:Nat}(h:cZ n ops k0 AL L i t=true):TakeOk n ops k0 AL L i t:=by
 unfold cZ at h
 simp only[i3,decide_eq_true_eq,beq_iff_eq] at h
 obtain ⟨⟨⟨⟨⟨⟨⟨h1,e⟩,d⟩,b⟩,f⟩,a⟩,j⟩,c⟩:=h;exact ⟨bC h1,e,d,b,by simpa using f,gM a,j,c⟩
theorem Rg.pure (i t:Nat)(v:Value)(b:(cZ n ops k0 AL L i t && a7 Γ (ak ops i))=true)(o:bg ops Γ (ak ops i)=some true)
  (hr:∀ w,(execOp (ev Γ) (ak ops i)).run P w=.ok (.value v) w)
  (k:EG M P n N R X ops k0 h0 AL (L.setIfInBounds i true) ((t,v)::Γ) w h):EG M P n N R X ops k0 h0 AL L Γ w h:=by
 rw[i3] at b
 obtain ⟨b,e⟩:=b;have c:=c4 b;intro j hM g d a f;have e1:=f.exec (Region.noSelect_spec c.sel i _ · · c.get) e;refine E.take0 (v:=v) (S:=fun _=>True) c.get c.lt c.sel c.free c.ready c.al (fun _ _ _ l=>l) (fun _ _ _ _=>trivial) (fun _ _=>trivial) (.inl ⟨f.want o,fun w _=>by rw[e1];exact hr w⟩) (.inl fun _=>trivial) ?_;rw[c.dst];exact k j hM g d _ (f.put c.tn v)
theorem Rg.skip (i t:Nat)(l:cZ n ops k0 AL L i t=true)(j:bg ops Γ (ak ops i)=some false)
  (k:EG M P n N R X ops k0 h0 AL (L.setIfInBounds i true) ((t,undef)::Γ) w h):EG M P n N R X ops k0 h0 AL L Γ w h:=by
 have c:=c4 l;intro d hM g b a e;refine E.take0 (v:=undef) (S:=fun _=>True) c.get c.lt c.sel c.free c.ready c.al (fun _ _ _ f=>f) (fun _ _ _ _=>trivial) (fun _ _=>trivial) (.inr ⟨e.want j,rfl⟩) (.inl fun _=>trivial) ?_;rw[c.dst];exact k d hM g b _ (e.put c.tn undef)
def gh (ops:Array Oper)(k0 i:Nat):Bool:=(ov ops.size).all fun j=>decide (j<k0) || (ak ops j).after.any fun e=>Region.binds .any e && e.on == i
theorem ik {i:Nat}(h:gh ops k0 i=true):∀ j b,ops[j]?=some b->k0<=j->j≠i->∃ e∈b.after,Region.binds .any e=true/\e.on=i:=by
 intro j b c hk _;have a:=(hO.1 c).1;have e:b=ak ops j:=by have:=bC (ops:=ops) a;rw[c] at this;injection this
 have:=(oi.1 h) j (o0.2 a)
 simp only[pa,decide_eq_true_eq,pg,i3,beq_iff_eq] at this
 rcases this with h1|⟨x,hx,h2⟩
 ·omega
 ·rw[e];exact ⟨_,po hx,h2⟩
theorem Rg.load (i t:Nat)(v:Value)(b:(cZ n ops k0 AL L i t && a7 Γ (ak ops i) && gh ops k0 i)=true)(u:bg ops Γ (ak ops i)=some true)
  (hr:∀ w',Mo M.l w w'->(execOp (ev Γ) (ak ops i)).run P w'=.ok (.value v) w')
  (k:EG M P n N R X ops k0 h0 AL (L.setIfInBounds i true) ((t,v)::Γ) w h):EG M P n N R X ops k0 h0 AL L Γ w h:=by
 rw[i3,i3] at b
 obtain ⟨⟨b,d⟩,e⟩:=b;have c:=c4 b;intro p hM g j a o;have e1:=o.exec (Region.noSelect_spec c.sel i _ · · c.get) d;refine E.take0 (v:=v) (S:=fun w'=>Mo M.l w w') c.get c.lt c.sel c.free c.ready c.al (fun _ _ _ y=>y) (fun _ _ h1 x=>h1.trans x) (fun _ f=>f) (.inl ⟨o.want u,fun w' f=>by rw[e1];exact hr w' f⟩) (.inr (.inr (ik e))) ?_;rw[c.dst];exact k p hM g j _ (o.put c.tn v)
theorem Rg.loadZ (i t:Nat)(v:Value){bs:List Nat}(hz:M.z=some (h0.size,bs))(j:(cZ n ops k0 AL L i t && a7 Γ (ak ops i))=true)(y:bg ops Γ (ak ops i)=some true)
  (hr:∀ w',(∀ b,b<h0.size->b ∉ bs->b ∉ M.l->w'.heap[b]?=w.heap[b]?)->(execOp (ev Γ) (ak ops i)).run P w'=.ok (.value v) w')
  (k:EG M P n N R X ops k0 h0 AL (L.setIfInBounds i true) ((t,v)::Γ) w h):EG M P n N R X ops k0 h0 AL L Γ w h:=by
 rw[i3] at j
 obtain ⟨j,o⟩:=j;have c:=c4 j;intro u hM g f a p;have x:h0.size<=w.heap.size:=by rw[g.size];exact f
 have e1:=p.exec (Region.noSelect_spec c.sel i _ · · c.get) o;refine E.take0 (v:=v) (S:=fun w'=>h0.size<=w'.heap.size/\∀ b,b<h0.size->b ∉ bs->b ∉ M.l->w'.heap[b]?=w.heap[b]?) c.get c.lt c.sel c.free c.ready c.al (fun _ _ _ C=>C) ?_ ?_ (.inl ⟨p.want y,fun w' B=>by rw[e1];exact hr w' B.2⟩) (.inr (.inl ?_)) ?_
 ·intro w1 w2 s m
  exact ⟨ez s.1 m.size,fun b d h1 e=>(m.blk b (e4 d s.1) e).trans (s.2 b d h1 e)⟩
 ·intro w' m
  exact ⟨ez x m.size,fun b d h1 e=>m.blk b (e4 d x) e⟩
 ·intro w1 w2 s m
  have:=m h0.size bs hz;exact ⟨ez s.1 this.1,fun b d h1 e=>(this.2 b d h1).trans (s.2 b d h1 e)⟩
 ·rw[c.dst]
  exact k u hM g f _ (p.put c.tn v)
def kY (n:Nat)(ops:Array Oper)(k0:Nat)(AL:List Al)(L:Array Bool)(i t:Nat):Bool :=
  let o:=ak ops i
  decide (i<ops.size) && decide (i<k0) && Region.noSelect ops && (L.size == ops.size) && (L.getD i true == false) &&
  ((ov ops.size).all fun j=>L.getD j true || j == i || AL.any (·.i == j) || (ak ops j).after.any fun e=>Region.binds .any e && (L.getD e.on false == false) && AL.all (·.i != e.on)) &&
  (o.after.all fun e=>!Region.binds .any e || L.getD e.on false || AL.any (·.i == e.on)) &&
  pM ops AL i o && (o.dst == some t) && decide (t<n)
theorem Rg.event (i t:Nat)(B:(kY n ops k0 AL L i t && a7 Γ (ak ops i))=true)(hw:bg ops Γ (ak ops i)=some true)
  (H:∀ w' C,Up w h w' C ->
   (∃ v b c,(execOp (ev Γ) (ak ops i)).run P w'=.ok (.value v) b/\UpM M.l w' C b c/\EG M P n N R X ops k0 h0 AL (L.setIfInBounds i true) ((t,v)::Γ) b c) \/
   (∃ f args,(execOp (ev Γ) (ak ops i)).run P w'=.ok (.enter f args) w'/\Calls P f args w' (fun e b=>∃ v c,e=.returned v/\UpM M.l w' C b c/\EG M P n N R X ops k0 h0 AL (L.setIfInBounds i true) ((t,v)::Γ) b c))) :
  EG M P n N R X ops k0 h0 AL L Γ w h:=by
 rw[i3] at B
 obtain ⟨B,K⟩:=B
 unfold kY at B
 simp only[i3,decide_eq_true_eq,beq_iff_eq] at B
 obtain ⟨⟨⟨⟨⟨⟨⟨⟨⟨h1,h2⟩,W⟩,h4⟩,h5⟩,h6⟩,h7⟩,h8⟩,Y⟩,D⟩:=B;have o:=bC (ops:=ops) h1;intro z hM g F a J;have e1:=J.exec (Region.noSelect_spec W i _ · · o) K;refine E.event0 o h2 W h4 h5 ?_ ?_ (gM h8) z hM g F ?_
 ·intro j oj Z V S U
  have I:=(hO.1 Z).1;have e:oj=ak ops j:=by have:=bC (ops:=ops) I;rw[Z] at this;injection this
  have:=(oi.1 h6) j (o0.2 I)
  simp only[pa,V,sA,false_or,beq_iff_eq,S,ta,pg,i3] at this
  rcases this with ⟨x,hx,hxe⟩|⟨x,hx,⟨O,hL⟩,hno⟩
  ·exact absurd hxe (U x hx)
  ·rw[e]
   refine ⟨_,po hx,O,hL,fun y hy=>?_⟩;have:=(oi.1 hno) y hy
   simpa using this
 ·intro e Q O
  have:=(na.1 h7) e Q
  simp only[pa,O,tu,sA,false_or,ta,beq_iff_eq] at this
  exact this
 ·intro w' C u
  refine ⟨J.want hw,?_⟩;rw[e1];have d:=ez F u.gr.size
  rcases H w' C u with ⟨v,b,c,hr,p,k⟩|⟨f,args,hr,hcall⟩
  ·exact .inl ⟨v,b,hr,c,p,by rw[Y];exact k z hM p.g (ez d p.gr.size) _ (J.put D v)⟩
  ·exact .inr (.inr ⟨f,args,hr,hcall.mono fun e b ⟨v,c,Q,p,k⟩=>⟨v,Q,c,p,by rw[Y];exact k z hM p.g (ez d p.gr.size) _ (J.put D v)⟩⟩)
theorem Rg.call (i t f:Nat)(args:Array Value)(c:(kY n ops k0 AL L i t && a7 Γ (ak ops i))=true)(b:bg ops Γ (ak ops i)=some true)
 (hr:∀ w',(execOp (ev Γ) (ak ops i)).run P w'=.ok (.enter f args) w')
 (H:∀ w' a,Up w h w' a->Calls P f args w' (fun e w''=>∃ v h'',e=.returned v/\UpM M.l w' a w'' h''/\EG M P n N R X ops k0 h0 AL (L.setIfInBounds i true) ((t,v)::Γ) w'' h'')) :
 EG M P n N R X ops k0 h0 AL L Γ w h:=Rg.event i t c b (fun w' a u=>.inr ⟨f,args,hr w',H w' a u⟩)
def eu (ops:Array Oper)(AL:List Al)(L:Array Bool):Bool :=
  (L.size == ops.size) && ((ov ops.size).all fun j=>L.getD j true || AL.any (·.i == j) || AL.all fun x=>(ak ops j).after.any fun e=>Region.binds .any e && e.on == x.i) && AL.all (fun x=>L.getD x.i true == false)
theorem Rg.fin (f:eu ops AL L=true)(c:(AL.map (·.i)).Nodup)
  (H:∀ a,Kn n a Γ->∀ w' h',Up w h w' h'->∀ S:List SA,(S.map (·.1)).Perm AL->(∀ s∈S,Blk h0 w' h' s)->(S.map (·.2)).Nodup->A M P ops (gk N R X) k0 (dg L S) (addA a S) w') :
  EG M P n N R X ops k0 h0 AL L Γ w h:=by
 unfold eu at f
 simp only[i3,beq_iff_eq] at f
 obtain ⟨⟨h1,F⟩,C⟩:=f;intro p hM _ o a I;refine E.fin0 h1 ?_ ?_ p hM o c (H a I)
 ·intro j B u d
  have b:=(hO.1 u).1;have e:B=ak ops j:=by have:=bC (ops:=ops) b;rw[u] at this;injection this
  have:=(oi.1 F) j (o0.2 b)
  simp only[pa,d,sA,false_or,ta,beq_iff_eq] at this
  rcases this with h4|h4
  ·exact .inl h4
  ·refine .inr fun x l=>?_
   have:=(oi.1 h4) x l
   simp only[pg,i3,beq_iff_eq] at this
   obtain ⟨y,D,z⟩:=this;rw[e];exact ⟨_,po D,z⟩
 ·intro x l
  have:=(oi.1 C) x l
  simpa using this
theorem Rg.fin0 (e:eu ops [] L=true)(H:∀ w' b,Up w h w' b->AG M P n N R X ops k0 L Γ w'):EG M P n N R X ops k0 h0 [] L Γ w h:=by
 refine Rg.fin e (by simp) ?_;intro a d w' b u S c _ _;have:S=[]:=by simpa using c.length_eq
 subst this;exact H w' b u a d
theorem Rg.fin1 {x:Al}(d:(eu ops [x] L && decide (x.t<n))=true) 
    (H:∀ w' c b,Up w h w' c->Blk h0 w' c (x,b)->AG M P n N R X ops k0 (L.setIfInBounds x.i true) ((x.t,.pointer (some ⟨b,0,none⟩))::Γ) w'):EG M P n N R X ops k0 h0 [x] L Γ w h:=by
  rw[i3,decide_eq_true_eq] at d
  refine Rg.fin d.1 (by simp) ?_;intro a j w' c u S e l _;have f:=e.length_eq
  match S,f with
  | [s],_ =>
    have:s.1=x:=by simpa using e
    obtain ⟨y,b⟩:=s
    simp at this
    subst this;exact H w' c b u (l _ (by simp)) _ (j.put d.2 _)
theorem Rg.fin2 {x y:Al}(C:(eu ops [x,y] L && decide (x.t<n) && decide (y.t<n) && (x.t != y.t) && (x.i != y.i))=true) 
    (H:∀ w' o b c,Up w h w' o->Blk h0 w' o (x,b)->Blk h0 w' o (y,c)->b≠c->AG M P n N R X ops k0 ((L.setIfInBounds y.i true).setIfInBounds x.i true) ((x.t,.pointer (some ⟨b,0,none⟩))::(y.t,.pointer (some ⟨c,0,none⟩))::Γ) w'):EG M P n N R X ops k0 h0 [x,y] L Γ w h:=by
  simp only[i3,decide_eq_true_eq,bne_iff_ne,ne_eq] at C
  obtain ⟨⟨⟨⟨C,h1⟩,K⟩,Y⟩,F⟩:=C;refine Rg.fin C (by simp[F]) ?_;intro a Q w' o u S J B Z;have W:=J.length_eq
  match S,W with
  | [s, t],_ =>
    obtain ⟨f,b⟩:=s;obtain ⟨j,c⟩:=t;have z:b≠c:=by simpa using Z
    have U:f=x/\j=y\/f=y/\j=x:=by
      have l:[f,j].Perm [x,y]:=by simpa using J
      have O:f∈[x,y]:=l.mem_iff.1 (by simp);have m2:x∈[f,j]:=l.mem_iff.2 (by simp);have I:y∈[f,j]:=l.mem_iff.2 (by simp);have p:x≠y:=fun e=>F (by rw[e])
      simp at O m2 I
      rcases O with rfl|rfl
      . rcases I with e|e
        . exact absurd e.symm p
        . exact .inl ⟨rfl,e.symm⟩
      . rcases m2 with e|e
        . exact absurd e p
        . exact .inr ⟨rfl,e.symm⟩
    rcases U with ⟨rfl,rfl⟩|⟨rfl,rfl⟩
    . exact H w' o b c u (B _ (by simp)) (B _ (by simp)) z _ ((Q.put K _).put h1 _)
    . have e1:dg L [(f,b),(j,c)]=(L.setIfInBounds f.i true).setIfInBounds j.i true:=gs _ _ F
      have e2:addA a [(f,b),(j,c)]=(a.put (some f.t) (.pointer (some ⟨b,0,none⟩))).put (some j.t) (.pointer (some ⟨c,0,none⟩)) :=
        Act.put_comm (x:=some j.t) (y:=some f.t) a _ _ (fun d V D=>Y (Option.some.inj (V.trans D.symm)))
      rw[e1,e2];exact H w' o c b u (B _ (by simp)) (B _ (by simp)) (Ne.symm z) _ ((Q.put K _).put h1 _)
def gT (ops:Array Oper)(k0:Nat)(L:Array Bool)(i:Nat):Bool :=
  decide (i<ops.size) && decide (k0<=i) && Region.noSelect ops && (Region.ready .any ops L == [i])
theorem A.one {a:Act}{i:Nat}(b:gT ops k0 L i=true){Q:Exit->Act->World->Prop}{o:Oper}(d:ops[i]?=some o){R':Value->World->Prop}(h:OpR P ops o a w R')(f:∀ v w',R' v w'->Tl M w w')
  (e:∀ v w',R' v w'->A M P ops Q k0 (L.setIfInBounds i true) (a.put o.dst v) w'):A M P ops Q k0 L a w:=by
 unfold gT at b
 simp only[i3,decide_eq_true_eq,beq_iff_eq] at b
 refine A.intro (fun h0=>by rw[b.2] at h0;cases h0) (fun j c=>?_);rw[b.2,ul] at c
 subst c;exact OpR.wpOp d h (fun v w' hr=>⟨Rl.tl b.1.1.2 (f v w' hr),e v w' hr⟩)
theorem jC {i:Nat}(a:gT ops k0 L i=true):ops[i]?=some (ak ops i)/\Region.noSelect ops=true:=by
 unfold gT at a
 simp only[i3,decide_eq_true_eq,beq_iff_eq] at a
 exact ⟨bC a.1.1.1,a.1.2⟩
theorem T.val (i t:Nat)(v:Value)(w':World)(d:(gT ops k0 L i && a7 Γ (ak ops i) && ((ak ops i).dst == some t) && decide (t<n))=true)(j:bg ops Γ (ak ops i)=some true)
  (hr:(execOp (ev Γ) (ak ops i)).run P w=.ok (.value v) w')(k:AG M P n N R X ops k0 (L.setIfInBounds i true) ((t,v)::Γ) w')(o:Tl M w w':=by exact Tl.refl _ _):AG M P n N R X ops k0 L Γ w:=by
 simp only[i3,decide_eq_true_eq,beq_iff_eq] at d
 obtain ⟨⟨⟨h1,l⟩,h⟩,f⟩:=d;obtain ⟨c,p⟩:=jC h1;intro a b;refine A.one h1 c (R':=fun u w1=>u=v/\w1=w') ⟨b.want j,.inl ⟨v,w',?_,rfl,rfl⟩⟩ (fun _ _ e=>e.2▸o) ?_
 ·rw[b.exec (Region.noSelect_spec p i _ · · c) l];exact hr
 ·rintro _ _ ⟨rfl,rfl⟩
  rw[h];exact k _ (b.put f _)
theorem T.store (i:Nat)(w':World)(d:(gT ops k0 L i && a7 Γ (ak ops i) && ((ak ops i).dst == none))=true)(l:bg ops Γ (ak ops i)=some true)
  (hr:(execOp (ev Γ) (ak ops i)).run P w=.ok .skip w')(f:Tl M w w')(k:AG M P n N R X ops k0 (L.setIfInBounds i true) Γ w'):AG M P n N R X ops k0 L Γ w:=by
 simp only[i3,beq_iff_eq] at d
 obtain ⟨⟨h1,j⟩,h⟩:=d;obtain ⟨c,o⟩:=jC h1;intro a b;refine A.one h1 c (R':=fun u w1=>u=undef/\w1=w') ⟨b.want l,.inr (.inl ⟨w',?_,rfl,rfl⟩)⟩ (fun _ _ e=>e.2▸f) ?_
 ·rw[b.exec (Region.noSelect_spec o i _ · · c) j];exact hr
 ·rintro _ _ ⟨rfl,rfl⟩
  rw[h];exact k _ b
theorem T.done (c:(Region.ready .any ops L).isEmpty=true)(k:∀ a,Kn n a Γ->N a w):AG M P n N R X ops k0 L Γ w :=
 fun a b=>A.done c (k a b)
theorem T.next {y:Code}{N' R':Po}{X':Nat->Po}(c:(Region.ready .any ops L).isEmpty=true)(k:CG P n N' R' X' y Γ w):AG M P n (fun a w=>y.wp P (gk N' R' X') a w) R X ops k0 L Γ w :=
 fun a b=>A.done c (k a b)
end steps
section code
variable {P:Program}{n:Nat}{N R:Po}{X:Nat->Po}{Γ:bO}{w:World}
def jn (ops:Array Oper):Bool:=(ov ops.size).all fun i=>(ak ops i).after.all fun e=>!Region.binds .any e || decide (e.on<i)
theorem lz {M:Ms}{ops:Array Oper}{Q:Exit->Act->World->Prop}{k0:Nat}(h:jn ops=true):∀ (m k:Nat) (L:Array Bool) (a:Act) (w:World),k+m=ops.size->L.size=ops.size ->
    (∀ j,j<ops.size->L.getD j true=decide (j<k))->A M P ops Q k0 L a w->wpOps P ops Q (um k m) a w:=by
  intro m
  induction m with
  | zero =>
    intro k L a w hk p b d
    have hz:Region.ready .any ops L=[]:=by
      cases hr:Region.ready .any ops L with
      | nil=>rfl
      | cons i l =>
        have B:i∈Region.ready .any ops L:=by rw[hr];simp
        obtain ⟨h0,o,F,_⟩:=mem_ready.1 B;have hi:=(hO.1 F).1;rw[b i hi] at h0
        simp at h0
        omega
    show Q .normal a w
    unfold A at d
    cases x:rem L with
    | zero=>rw[x] at d;exact d.2
    | succ n=>rw[x] at d;exact d.1 hz
  | succ m ih =>
    intro k L a w hk p b d;have f:k<ops.size:=by omega
    have c:k∈Region.ready .any ops L:=by
      refine mem_ready.2 ⟨by rw[b k f];simp,ak ops k,bC f,fun e I C=>?_⟩;have h1:=(oi.1 h) k (o0.2 f);have y:=(na.1 h1) e I
      simp only[C,tu,Bool.false_or,decide_eq_true_eq] at y
      have u:=b e.on oM;rw[show decide (e.on<k)=true by simp[y]] at u
      have D:e.on<L.size:=by omega
      simp[gg,D] at u ⊢
      exact u
    rw[u9,wpOps_cons]
    unfold A at d
    rw[d8 c] at d
    refine wpOp_mono (fun J w' H=>?_) (d.2 k c);refine ih (k+1) (L.setIfInBounds k true) J w' oM (by simpa using p) ?_ H.2;intro j z
    by_cases e:k=j
    . subst e
      simp[gg,p,z]
    . rw[getD_set_ne true e,b j z]
      congr 1
      simp only[eq_iff_iff]
      omega
theorem gt (m:Nat):rem (vl m false)=m:=by unfold rem;simp
theorem jS {m j:Nat}(a:j<m):(vl m false).getD j true=false:=by simp[gg,a]
theorem CG.region {id:Nat}{ops:Array Oper}{d:Bool}(M:Ms)(k0:Nat)(AL:List Al)(o:P.follows .mixedOrders=true)(c:jn ops=true){h:Hp}(g:G w h)(f:∀ x∈AL,AlOk P ops k0 x)(hM:∀ b∈M.l,b<h.size)
    (H:EG M P n N R X ops k0 h AL (vl ops.size false) Γ w h):CG P n N R X (.region id ops d) Γ w:=by
  intro a y;have i:∀ w' e,Up w h w' e->A M P ops (gk N R X) k0 (vl ops.size false) a w':=fun w' e u=>H f hM g (ey _) a y w' e u [] AL (List.Perm.refl _) (fun _ z=>by cases z) (by simp)
  cases d with
  | true =>
    refine wp_region_any o ?_;have h1:=i w.drew h (Up.drew (Up.refl g))
    unfold A at h1
    rw[gt] at h1
    exact jP _ _ _ _ _ _ _ _ _ h1
  | false =>
    refine wp_region ?_;rw[v2];exact lz c _ 0 _ a w oM (by simp) (fun j p=>by rw[jS p];simp) (i w h (Up.refl g))
theorem CG.seq {x y:Code}(H:CG P n (fun a w=>y.wp P (gk N R X) a w) R X x Γ w):CG P n N R X (.seq x y) Γ w:=by
 intro a b;refine wp_seq (wp_mono (H a b) ?_);intro e a w c;cases e<;>exact c
theorem CG.cond {c:Operand}{x y:Code}(t:Bool)(f:fT Γ c=true)(hv:ev Γ c=.bool t)(d:t=true->CG P n N R X x Γ w)(hf:t=false->CG P n N R X y Γ w):CG P n N R X (.cond c x y) Γ w :=
 fun a b=>wp_cond_split (by rw[b.eval f];exact hv) (fun e=>d e a b) (fun e=>hf e a b)
theorem CG.condT {c:Operand}{x y:Code}(b:fT Γ c=true)(hv:ev Γ c=.bool true)(a:CG P n N R X x Γ w):CG P n N R X (.cond c x y) Γ w:=CG.cond true b hv (fun _=>a) (fun e=>by cases e)
theorem CG.condF {c:Operand}{x y:Code}(b:fT Γ c=true)(hv:ev Γ c=.bool false)(a:CG P n N R X y Γ w):CG P n N R X (.cond c x y) Γ w:=CG.cond false b hv (fun e=>by cases e) (fun _=>a)
theorem CG.skip (H:∀ a,Kn n a Γ->N a w):CG P n N R X .skip Γ w:=fun a b=>wp_skip (H a b)
theorem CG.skipN {y:Code}{N' R':Po}{X':Nat->Po}(H:CG P n N' R' X' y Γ w):CG P n (fun a w=>y.wp P (gk N' R' X') a w) R X .skip Γ w:=fun a b=>wp_skip (H a b)
theorem CG.ret (H:∀ a,Kn n a Γ->R a w):CG P n N R X .ret Γ w:=fun a b=>wp_ret (H a b)
theorem CG.exit {id:Nat}(H:∀ a,Kn n a Γ->X id a w):CG P n N R X (.exit id) Γ w:=fun a b=>wp_exit (H a b)
theorem CG.block {id:Nat}{c:Code}(H:CG P n N R (fun i=>if i=id then N else X i) c Γ w):CG P n N R X (.block id c) Γ w:=by
 intro a f;refine wp_block (wp_mono (H a f) ?_);intro e a w d;cases e<;>try exact d
 rename_i i
 simp only[gk] at d
 simp only[Exit.inBlock,gk]
 split
 ·rename_i b;rw[if_pos b] at d;exact d
 ·rename_i b;rw[if_neg b] at d;exact d
theorem CG.to {c:Code}(Γ':bO)(d:iE Γ (Γ'.map (·.1))=Γ')(e:fl Γ'=fl Γ)(H:CG P n N R X c Γ' w):CG P n N R X c Γ w :=
 fun a b=>H a (b.mono (fun t v hv=>dU Γ (Γ'.map (·.1)) t v (by rw[d];exact hv)) e)
theorem Kn.to {a:Act}(k:Kn n a Γ)(Γ':bO)(b:iE Γ (Γ'.map (·.1))=Γ')(c:fl Γ'=fl Γ:=by kernel_rfl):Kn n a Γ' :=
 k.mono (fun t v hv=>dU Γ (Γ'.map (·.1)) t v (by rw[b];exact hv)) c
theorem CG.loop {c:Code}(I:Nat->bO->World->Prop)(m:Nat)(h0:I m Γ w)
    (p:∀ m Γ w,I m Γ w->CG P n (fun a w'=>∃ C j,C<m/\I C j w'/\Kn n a j) R X c Γ w):CG P n N R X (.loop c) Γ w:=by
  intro a J
  suffices key:∀ m a w Γ,I m Γ w->Kn n a Γ->∀ (b:Frame) (k:List Item) (cs:List Frame),∃ e D w',gk N R X e D w'/\Arrives P (lone (b.at a (.code c::.inLoop c::k)) cs w) b k cs e D w' by
    intro b k cs;obtain ⟨e,D,w',o,d⟩:=key m a w Γ h0 J b k cs;exact ⟨e,D,w',o,.of_steps (.one step_loop) d⟩
  intro m
  induction m using hH with
  | _ m ih =>
    intro a w Γ L J b k cs;obtain ⟨e,f,h,o,d⟩:=p m Γ w L a J b (.inLoop c::k) cs;cases e with
    | normal =>
      obtain ⟨C,j,H,K,F⟩:=o;obtain ⟨y,B,z,u,i⟩:=ih C H f h j K F b k cs;exact ⟨y,B,z,u,.of_steps (Steps.trans d (.one step_inLoop)) i⟩
    | exit id=>exact ⟨.exit id,f,h,o,.pass (x:=.inLoop c) rfl (fun _ _=>.inl (by simp)) d⟩
    | goto l=>exact o.elim
    | ret=>exact ⟨.ret,f,h,o,.pass (x:=.inLoop c) rfl (fun _ _=>.inl (by simp)) d⟩
    | panic ch=>exact o.elim
    | outgrown=>exact o.elim
def envOf (l:List Value):bO:=go 0 l
where go:Nat->List Value->bO
  | _,[]=>[]
  | k,v::l=>(k,v)::go (k+1) l
theorem mF:∀ (l:List Value) (k t:Nat) (v:Value),(envOf.go k l).lookup t=some v->k<=t/\l[t-k]?=some v
  | [],_,_,_,h=>by simp[envOf.go] at h
  | u :: l,k,t,v,h=>by
    rw[envOf.go,hP] at h
    by_cases e:t=k
    . subst e;simp at h;subst h;exact ⟨ey _,by simp⟩
    . have b:(t == k)=false:=by simp[e]
      rw[b] at h
      obtain ⟨h1,a⟩:=mF l (k+1) t v h;refine ⟨by omega,?_⟩;obtain ⟨d,hd⟩:∃ d,t-k=d+1:=⟨t-k-1,by omega⟩;rw[hd];have:t-(k+1)=d:=by omega
      rw[this] at a
      simpa using a
theorem g9 {l:List Value}{t:Nat}{v:Value}(h:(envOf l).lookup t=some v):l[t]?=some v:=by
 have:=mF l 0 t v h
 simpa using this.2
def lk (P:Program)(fn:Func)(Ro:Ending->World->Prop):Po:=fun a w=>a.defers=[]/\∃ v,(results fn a.tmps).run P w=.ok v w/\Ro (.returned v) w
theorem enter {f:FuncId}{h:Func}{c:Code}{args:Array Value}{o:Ending->World->Prop}(hf:P.funcs[f]?=some h)(u:h.body=some c)(x:h.ntmps=n)(y:args.size<=n)(j:n<=1000000)
    (Γ0:bO)(d:Γ0=envOf args.toList)(H:CG P n (lk P h o) (lk P h o) (fun _ _ _=>False) c Γ0 w):Calls P f args w o:=by
  refine calls_of_wp hf u (wp_mono (H _ ⟨?_,?_,j,?_⟩) ?_)
  . show []=fl Γ0
    unfold fl
    cases e:Γ0.lookup 1000000 with
    | none=>rfl
    | some v =>
      rw[d] at e
      have h1:=g9 e;rw[ws (by simp;omega)] at h1
      cases h1
  . simp;omega
  . intro t v _ hv
    rw[d] at hv
    have h1:=g9 hv
    have p:t<args.size:=by
      rcases ep t args.size with hl|hl
      . exact hl
      . rw[ws (by simpa using hl)] at h1;cases h1
    rw[x0 p]
    simpa using h1
  . intro e a w b
    cases e with
    | normal=>exact b
    | ret=>exact b
    | exit i=>exact b.elim
    | goto l=>exact b.elim
    | panic ch=>exact b.elim
    | outgrown=>exact b.elim
def LG (P:Program)(n:Nat)(N R:Po)(X:Nat->Po)(ops:Array Oper)(k:Nat)(Γ:bO)(w:World):Prop :=
  ∀ a,Kn n a Γ->wpOps P ops (gk N R X) (um k (ops.size-k)) a w
theorem CG.listed {id:Nat}{ops:Array Oper}(H:LG P n N R X ops 0 Γ w):CG P n N R X (.region id ops false) Γ w :=
 fun a b=>wp_region (by rw[v2];exact H a b)
section listed
variable {ops:Array Oper}{k:Nat}
def fE (ops:Array Oper)(Γ:bO)(k:Nat):Bool:=decide (k<ops.size) && Region.noSelect ops && a7 Γ (ak ops k)
theorem LG.op (b:fE ops Γ k=true)(e:bg ops Γ (ak ops k)=some true){R':Value->World->Prop}
  (h:∀ a,Kn n a Γ->OpR P ops (ak ops k) a w R')(d:∀ a v w',Kn n a Γ->R' v w'->wpOps P ops (gk N R X) (um (k+1) (ops.size-(k+1))) (a.put (ak ops k).dst v) w'):LG P n N R X ops k Γ w:=by
 unfold fE at b
 simp only[i3,decide_eq_true_eq] at b
 intro a c;obtain ⟨m,hm⟩:∃ m,ops.size-k=m+1:=⟨ops.size-k-1,by omega⟩;rw[hm,u9,wpOps_cons];refine OpR.wpOp (bC b.1.1) (h a c) (fun v w' hr=>?_);have:=d a v w' c hr;rw[show ops.size-(k+1)=m by omega] at this
 exact this
theorem LG.val (t:Nat)(v:Value)(w':World)(e:(fE ops Γ k && ((ak ops k).dst == some t) && decide (t<n))=true)(d:bg ops Γ (ak ops k)=some true)
  (hr:(execOp (ev Γ) (ak ops k)).run P w=.ok (.value v) w')(H:LG P n N R X ops (k+1) ((t,v)::Γ) w'):LG P n N R X ops k Γ w:=by
 simp only[i3,decide_eq_true_eq,beq_iff_eq] at e
 obtain ⟨⟨h1,h⟩,f⟩:=e;have b:=h1
 unfold fE at b
 simp only[i3,decide_eq_true_eq] at b
 refine LG.op h1 d (R':=fun u w1=>u=v/\w1=w') (fun a c=>⟨c.want d,.inl ⟨v,w',?_,rfl,rfl⟩⟩) ?_
 ·rw[c.exec (Region.noSelect_spec b.1.2 k _ · · (bC b.1.1)) b.2];exact hr
 ·rintro a _ _ c ⟨rfl,rfl⟩
  rw[h];exact H _ (c.put f _)
theorem LG.out (t:Nat)(c:(decide (k<ops.size) && ((ak ops k).dst == some t) && decide (t<n))=true)(e:bg ops Γ (ak ops k)=some false)
  (H:LG P n N R X ops (k+1) ((t,undef)::Γ) w):LG P n N R X ops k Γ w:=by
 simp only[i3,decide_eq_true_eq,beq_iff_eq] at c
 obtain ⟨⟨h1,f⟩,d⟩:=c;intro a b;obtain ⟨m,hm⟩:∃ m,ops.size-k=m+1:=⟨ops.size-k-1,by omega⟩;rw[hm,u9,wpOps_cons]
 unfold wpOp
 simp only[bC h1,b.want e,sA,if_false]
 have:=H _ (b.put d undef);rw[show ops.size-(k+1)=m by omega] at this
 rw[f];exact this
theorem LG.store (w':World)(e:(fE ops Γ k && ((ak ops k).dst == none))=true)(d:bg ops Γ (ak ops k)=some true)
  (hr:(execOp (ev Γ) (ak ops k)).run P w=.ok .skip w')(H:LG P n N R X ops (k+1) Γ w'):LG P n N R X ops k Γ w:=by
 simp only[i3,beq_iff_eq] at e
 obtain ⟨h1,f⟩:=e;have b:=h1
 unfold fE at b
 simp only[i3,decide_eq_true_eq] at b
 refine LG.op h1 d (R':=fun u w1=>w1=w') (fun a c=>⟨c.want d,.inr (.inl ⟨w',?_,rfl⟩)⟩) ?_
 ·rw[c.exec (Region.noSelect_spec b.1.2 k _ · · (bC b.1.1)) b.2];exact hr
 ·rintro a _ _ c rfl
  rw[f];exact H _ c
theorem LG.call (t f:Nat)(args:Array Value)(i:(fE ops Γ k && ((ak ops k).dst == some t) && decide (t<n))=true)(d:bg ops Γ (ak ops k)=some true)
  (hr:(execOp (ev Γ) (ak ops k)).run P w=.ok (.enter f args) w)(H:Calls P f args w (fun e w'=>∃ v,e=.returned v/\LG P n N R X ops (k+1) ((t,v)::Γ) w')):LG P n N R X ops k Γ w:=by
 simp only[i3,decide_eq_true_eq,beq_iff_eq] at i
 obtain ⟨⟨h1,j⟩,l⟩:=i;have b:=h1
 unfold fE at b
 simp only[i3,decide_eq_true_eq] at b
 refine LG.op h1 d (R':=fun v w'=>LG P n N R X ops (k+1) ((t,v)::Γ) w') (fun a c=>⟨c.want d,.inr (.inr ⟨f,args,?_,H⟩)⟩) ?_
 ·rw[c.exec (Region.noSelect_spec b.1.2 k _ · · (bC b.1.1)) b.2];exact hr
 ·rintro a v w' c h
  rw[j];exact h _ (c.put l _)
theorem LG.done (b:(k == ops.size)=true)(H:∀ a,Kn n a Γ->N a w):LG P n N R X ops k Γ w:=by
 simp only[beq_iff_eq] at b
 subst b;intro a c;rw[x1];exact H a c
theorem LG.next {y:Code}{N' R':Po}{X':Nat->Po}(b:(k == ops.size)=true)(H:CG P n N' R' X' y Γ w):LG P n (fun a w=>y.wp P (gk N' R' X') a w) R X ops k Γ w:=LG.done b H
end listed
theorem am {ops:Array Oper}{k0:Nat}:∀ x∈([]:List Al),AlOk P ops k0 x:=fun _ h=>by cases h
theorem aW {ops:Array Oper}{k0:Nat}{x:Al}{l:List Al}(h:AlOk P ops k0 x)(k:∀ y∈l,AlOk P ops k0 y):∀ y∈x::l,AlOk P ops k0 y:=fun y a=>by
 rcases g3.1 a with rfl|a
 ·exact h
 ·exact k y a
def xU (ops:Array Oper)(k0:Nat)(x:Al):Bool:=decide (x.i<ops.size) && ((ak ops x.i).dst == some x.t) && (ak ops x.i).guard.isNone && (ak ops x.i).after.isEmpty && decide (x.i<k0)
theorem cl {ops:Array Oper}{k0:Nat}{x:Al}(a:xU ops k0 x=true)(hr:∀ (ρ:Operand->Value) (w:World),(execOp ρ (ak ops x.i)).run P w=.ok (.value (.pointer (some ⟨w.heap.size,0,none⟩))) (w.alloc x.o)):AlOk P ops k0 x:=by
 unfold xU at a
 simp only[i3,decide_eq_true_eq,beq_iff_eq,Option.isNone_iff_eq_none,Array.isEmpty_iff] at a
 exact ⟨⟨_,bC a.1.1.1.1,a.1.1.1.2,a.1.1.2,a.1.2,hr⟩,a.2⟩
end code
def bM {α:Type}(P:Program):Sem α->List Value->Option (α × List Addr)
  | .pure a,_=>some (a,[])
  | .load _ a k,v::vs=>(bM P (k v) vs).map fun r=>(r.1,a::r.2)
  | .program k,vs=>bM P (k P) vs
  | .mark _ k,vs=>bM P k vs
  | _,_=>none
theorem ce {α:Type}{P:Program}{w:World}:∀ (s:Sem α) (vs:List Value) (r:α) (l:List Addr),bM P s vs=some (r,l) ->
    (∀ (i:Nat) a v,l[i]?=some a->vs[i]?=some v->w.cell? a=some v)->s.run P w=.ok r w:=by
  intro s
  induction s with
  | pure a=>intro vs r l h _;simp[bM] at h;simp[Sem.run,h.1]
  | load m a k ih =>
    intro vs r l h b;cases vs with
    | nil=>simp[bM] at h
    | cons v vs =>
      simp only[bM,ya] at h
      obtain ⟨⟨f,e⟩,h1,c⟩:=h
      injection c with e1 e2
      subst e1;subst e2;have h0:=b 0 a v (by simp) (by simp)
      simp only[Sem.run,h0]
      exact ih v vs _ _ h1 (fun i d v' ha hv=>b (i+1) d v' (by simpa using ha) (by simpa using hv))
  | program k ih=>intro vs r l h b;exact ih P vs r l h b
  | mark m k ih=>intro vs r l h b;exact ih vs r l h b
  | _=>intro vs r l h _;simp[bM] at h
def dk {α:Type}(P:Program):Sem α->Option (α × List (Addr × Value))
  | .pure a=>some (a,[])
  | .store _ _ (.agg _) _=>none
  | .store _ _ (.tuple _) _=>none
  | .store _ a v k=>(dk P k).map fun r=>(r.1,(a,v)::r.2)
  | .program k=>dk P (k P)
  | .mark _ k=>dk P k
  | _=>none
structure Put (b:Nat) (w w':World):Prop where
  os:w'.os=w.os
  tape:w'.tape=w.tape
  output:w'.output=w.output
  size:w'.heap.size=w.heap.size
  blk:∀ c,c≠b->w'.heap[c]?=w.heap[c]?
theorem Put.tl {b:Nat}{w w':World}(p:Put b w w'){M:Ms}(hz:∀ K bs,M.z=some (K,bs)->K<=b\/b∈bs):Tl M w w':=fun K bs e=>⟨Nat.le_of_eq p.size.symm,fun c d a=>p.blk c (fun h=>by
 rcases hz K bs e with h1|h1
 ·omega
 ·exact a (h▸h1))⟩
theorem Put.refl (b:Nat)(w:World):Put b w w:=⟨rfl,rfl,rfl,rfl,fun _ _=>rfl⟩
theorem Put.trans {b:Nat}{w1 w2 w3:World}(p:Put b w1 w2)(q:Put b w2 w3):Put b w1 w3 :=
 ⟨q.os.trans p.os,q.tape.trans p.tape,q.output.trans p.output,q.size.trans p.size,fun c a=>(q.blk c a).trans (p.blk c a)⟩
theorem Put.set (w:World)(p:Addr)(v:Value):Put p.block w (w.setCell p v) :=
 ⟨rfl,rfl,rfl,by simp,fun c a=>Below.heap_setCell _ _ _ _ a⟩
def Own (w:World)(b:Nat)(t:TypeId)(vs:List Value):Prop:=w.heap[b]?=some (.cells vs.toArray t (0,0))
theorem Own.cell {w:World}{b:Nat}{t:TypeId}{vs:List Value}(h:Own w b t vs)(i:Nat):w.cell? ⟨b,i,none⟩=vs[i]?:=by
 unfold World.cell?;rw[show w.heap[b]?=_ from h];simp
theorem Own.frozen {w:World}{b:Nat}{t:TypeId}{vs:List Value}(h:Own w b t vs)(i:Nat):w.frozen? ⟨b,i,none⟩=false:=by
 unfold World.frozen?;rw[show w.heap[b]?=_ from h];simp
theorem Own.set {w:World}{b:Nat}{t:TypeId}{vs:List Value}(h:Own w b t vs)(i:Nat)(v:Value):Own (w.setCell ⟨b,i,none⟩ v) b t (vs.set i v):=by
 unfold Own World.setCell
 simp only[Array.getElem?_modify,if_true,show w.heap[b]?=_ from h,yb]
 simp
theorem Own.lt {w:World}{b:Nat}{t:TypeId}{vs:List Value}(h:Own w b t vs):b<w.heap.size:=by
 rcases ep b w.heap.size with hl|hl
 ·exact hl
 ·unfold Own at h;rw[eq hl] at h;cases h
theorem Own.ext {w w':World}{b:Nat}{t:TypeId}{vs:List Value}(h:Own w b t vs)(x:Ext w w'):Own w' b t vs:=(Below.block x b h.lt).trans h
def en (vs:List Value)(o:Nat):List Value->List Value
  | []=>vs
  | c::cs=>en (vs.set o c) (o+1) cs
def mB (b o:Nat):List Value->List (Addr × Value)
  | []=>[]
  | c::cs=>(⟨b,o,none⟩,c)::mB b (o+1) cs
theorem ge {α:Type}{P:Program}{b:Nat}{t:TypeId}:∀ (s:Sem α) (r:α) (o:Nat) (cs vs:List Value) (w:World),dk P s=some (r,mB b o cs)->Own w b t vs->o+cs.length<=vs.length ->
    ∃ w',s.run P w=.ok r w'/\Put b w w'/\Own w' b t (en vs o cs):=by
  intro s
  induction s with
  | pure a =>
    intro r o cs vs w h d _
    simp only[dk,Option.some.injEq,Prod.mk.injEq] at h
    obtain ⟨h1,i⟩:=h;cases cs with
    | nil=>exact ⟨w,by simp[Sem.run,h1],Put.refl _ _,d⟩
    | cons c cs=>simp[mB] at i
  | store m a v k ih =>
    intro r o cs vs w h d f
    have B:∃ e,dk P k=some e/\(e.1,(a,v)::e.2)=(r,mB b o cs)/\(∀ l,v≠.agg l)/\∀ l,v≠.tuple l:=by
      cases v<;>simp only[dk,ya] at h<;>first|(obtain ⟨e,h1,i⟩:=h;exact ⟨e,h1,i,by simp,by simp⟩)|cases h
    obtain ⟨⟨e,D⟩,h1,i,y,x⟩:=B
    injection i with e1 e2
    cases cs with
    | nil=>simp[mB] at e2
    | cons c cs =>
      simp only[mB,List.cons.injEq,Prod.mk.injEq] at e2
      obtain ⟨⟨p,ev⟩,C⟩:=e2;subst p;subst ev;subst C;subst e1
      simp only[yc] at f
      have z:w.cell? ⟨b,o,none⟩=some (vs[o]'oM):=by rw[d.cell,List.getElem?_eq_getElem]
      obtain ⟨w',hr,u,j⟩:=ih _ (o+1) cs (vs.set o v) (w.setCell ⟨b,o,none⟩ v) h1 (d.set o v) (by simp;omega);refine ⟨w',?_,(Put.set w ⟨b,o,none⟩ v).trans u,j⟩
      have:(Sem.store m ⟨b,o,none⟩ v k).run P w=k.run P (w.setCell ⟨b,o,none⟩ v):=by
        cases v<;>first|(simp only[Sem.run,z,d.frozen];rfl)|exact absurd rfl (y _)|exact absurd rfl (x _)
      rw[this];exact hr
  | program k ih=>intro r o cs vs w h d f;exact ih P r o cs vs w h d f
  | mark m k ih=>intro r o cs vs w h d f;exact ih r o cs vs w h d f
  | _=>intro r o cs vs w h _ _;simp[dk] at h
structure Bx where
  b:Nat
  t:TypeId
  vs:List Value
  deriving Inhabited
structure St (w0:World) (h0:Hp) (w:World) (h:Hp) (B:List Bx):Prop where
  up:Up w0 h0 w h
  own:∀ x∈B,Own w x.b x.t x.vs
  jk:∀ x∈B,h[x.b]?=some a6
  lo:∀ x∈B,h0.size<=x.b
  nd:(B.map (·.b)).Nodup
theorem aE {h:Hp}{b:Nat}{o:Obj}(e:h[b]?=some o):b<h.size:=by
 rcases ep b h.size with hl|hl
 ·exact hl
 ·rw[eq hl] at e;cases e
section st
variable {w0:World}{h0:Hp}{w:World}{h:Hp}{B:List Bx}
theorem St.start (g:G w h):St w h w h []:=⟨Up.refl g,fun _ a=>(by cases a),fun _ a=>(by cases a),fun _ a=>(by cases a),by simp⟩
theorem St.step (s:St w0 h0 w h B){w':World}{b:Hp}(u:Up w h w' b):St w0 h0 w' b B :=
 ⟨s.up.trans u,fun x a=>(s.own x a).ext u.ext,fun x a=>(u.gr.blk _ (aE (s.jk x a))).trans (s.jk x a),s.lo,s.nd⟩
theorem St.g (s:St w0 h0 w h B):G w h:=s.up.g
theorem St.sz (s:St w0 h0 w h B):h0.size<=h.size:=s.up.gr.size
theorem St.new {wr:World}{hr:Hp}{i:List Bx}{x:Al}{b:Nat}(u:St w0 h0 wr hr i)(s:St w0 h0 w h B)(hB:∀ y∈B,y.b<hr.size\/y.b≠b)(k:Blk hr w h (x,b))(t:TypeId)(vs:List Value)(f:x.o=.cells vs.toArray t (0,0)) :
  St w0 h0 w h (⟨b,t,vs⟩::B):=by
 obtain ⟨l,k2,c⟩:=k;refine ⟨s.up,?_,?_,?_,?_⟩
 ·intro y a
  rcases g3.1 a with rfl|a
  ·show w.heap[b]?=_
   rw[<-f];exact l
  ·exact s.own y a
 ·intro y a
  rcases g3.1 a with rfl|a
  ·exact k2
  ·exact s.jk y a
 ·intro y a
  rcases g3.1 a with rfl|a
  ·exact ez u.sz c
  ·exact s.lo y a
 ·refine g4.2 ⟨fun e=>?_,s.nd⟩
  obtain ⟨y,a,d⟩:=g1.1 e
  rcases hB y a with hl|hl
  ·have p:y.b=b:=d
   have j:hr.size<=b:=c
   omega
  ·exact hl d
theorem St.new1 {wr:World}{hr:Hp}{x:Al}{b:Nat}(a:St w0 h0 wr hr B)(s:St w0 h0 w h B)(k:Blk hr w h (x,b))(t:TypeId)(vs:List Value)(c:x.o=.cells vs.toArray t (0,0)) :
 St w0 h0 w h (⟨b,t,vs⟩::B):=St.new a s (fun y d=>.inl (aE (a.jk y d))) k t vs c
theorem St.new2 {wr:World}{hr:Hp}{x y:Al}{b c:Nat}(f:St w0 h0 wr hr B)(s:St w0 h0 w h B)(k:Blk hr w h (x,b))(k2:Blk hr w h (y,c))(d:b≠c)(t:TypeId)(vs:List Value)(j:x.o=.cells vs.toArray t (0,0))(i:TypeId)(a:List Value)(e:y.o=.cells a.toArray i (0,0)) :
  St w0 h0 w h (⟨b,t,vs⟩::⟨c,i,a⟩::B) :=
 St.new f (St.new1 f s k2 i a e) (fun z hz=>by
  rcases g3.1 hz with rfl|hz
  ·exact .inr (Ne.symm d)
  ·exact .inl (aE (f.jk z hz))) k t vs j
def av (B:List Bx)(j:Nat):Bx:=B.getD j default
def fB (B:List Bx)(j o:Nat)(cs:List Value):List Bx:=B.set j { av B j with vs:=en (av B j).vs o cs }
theorem a8 {j:Nat}(h:j<B.length):av B j∈B:=by
 unfold av
 have:B.getD j default=B[j]:=by simp[h]
 rw[this];exact gp h
theorem Up.put {b:Nat}{w':World}(u:Up w0 h0 w h)(p:Put b w w')(f:h[b]?=some a6)(d:h0.size<=b)(a:w0.heap.size=h0.size):Up w0 h0 w' h:=by
 refine ⟨⟨p.os.trans u.ext.os,p.tape.trans u.ext.tape,p.output.trans u.ext.output,by rw[p.size];exact u.ext.size,fun c i=>?_⟩,u.gr,⟨by rw[p.size];exact u.g.size,fun c=>?_⟩⟩
 ·rw[p.blk c oM]
  exact Below.block u.ext c i
 ·by_cases e:c=b
  ·subst e;exact .inr f
  ·rw[p.blk c e];exact u.g.blk c
theorem St.put (s:St w0 h0 w h B)(I:G w0 h0){j o:Nat}{cs:List Value}{w':World}(l:j<B.length)(p:Put (av B j).b w w')(H:Own w' (av B j).b (av B j).t (en (av B j).vs o cs)):St w0 h0 w' h (fB B j o cs):=by
  have F:=a8 l
  have a:(fB B j o cs).map (·.b)=B.map (·.b):=by
    unfold fB
    rw[yd]
    apply ye
    intro i
    by_cases e:j=i
    . subst e
      rw[yf (by simpa using l)]
      simp[av,l]
    . rw[yg e]
  refine ⟨s.up.put p (s.jk _ F) (s.lo _ F) I.size,?_,?_,?_,by rw[a];exact s.nd⟩
  . intro x f
    obtain ⟨i,hi,c⟩:=yh.1 f;have d:i<B.length:=by simpa [fB] using hi
    by_cases e:j=i
    . subst e
      have:x={ av B j with vs:=en (av B j).vs o cs }:=by rw[<-c];simp[fB]
      subst this;exact H
    . have z:x=B[i]:=by rw[<-c];simp[fB,e]
      subst z
      have C:B[i].b≠(av B j).b:=by
        intro D
        have h1:(B.map (·.b))[i]'(by simpa using d)=(B.map (·.b))[j]'(by simpa using l):=by
          simp only[yi]
          rw[D]
          simp[av,l]
        exact e ((yj s.nd).1 h1).symm
      show w'.heap[B[i].b]?=_
      rw[p.blk _ C];exact s.own _ (gp d)
  . intro x f
    have:x.b∈(fB B j o cs).map (·.b):=g1.2 ⟨x,f,rfl⟩;rw[a] at this
    obtain ⟨y,u,c⟩:=g1.1 this;rw[<-c];exact s.jk y u
  . intro x f
    have:x.b∈(fB B j o cs).map (·.b):=g1.2 ⟨x,f,rfl⟩;rw[a] at this
    obtain ⟨y,u,c⟩:=g1.1 this;rw[<-c];exact s.lo y u
def kw (b o:Nat):Nat->List Addr
  | 0=>[]
  | n+1=>⟨b,o,none⟩::kw b (o+1) n
theorem dV (b:Nat):∀ (n o i:Nat) (a:Addr),(kw b o n)[i]?=some a->a=⟨b,o+i,none⟩
  | 0,_,_,_,h=>by simp[kw] at h
  | n+1,o,0,a,h=>by simp[kw] at h;rw[<-h];rfl
  | n+1,o,i+1,a,h=>by
    have:=dV b n (o+1) i a (by simpa [kw] using h);rw[this];congr 1;omega
def cI (B:List Bx):List (Nat × Nat × Nat)->List Value
  | []=>[]
  | p::ps=>((av B p.1).vs.drop p.2.1).take p.2.2++cI B ps
def bK (B:List Bx):List (Nat × Nat × Nat)->List Addr
  | []=>[]
  | p::ps=>kw (av B p.1).b p.2.1 p.2.2++bK B ps
def cc (B:List Bx)(ps:List (Nat × Nat × Nat)):Bool:=ps.all fun p=>decide (p.1<B.length) && decide (p.2.1+p.2.2<=(av B p.1).vs.length)
theorem gc (b o n:Nat):(kw b o n).length=n:=by
 induction n generalizing o with
 | zero=>rfl
 | succ n ih=>simp[kw,ih]
theorem dO (d:∀ x∈B,Own w x.b x.t x.vs):∀ (ps:List (Nat × Nat × Nat)),cc B ps=true->∀ (i:Nat) a v,(bK B ps)[i]?=some a->(cI B ps)[i]?=some v->w.cell? a=some v
  | [],_,i,a,v,h,_=>by simp[bK] at h
  | p :: ps,hok,i,a,v,ha,hv=>by
    unfold cc at hok
    rw[yk,i3] at hok
    obtain ⟨h1,e⟩:=hok
    simp only[i3,decide_eq_true_eq] at h1
    have c:(((av B p.1).vs.drop p.2.1).take p.2.2).length=p.2.2:=by simp;omega
    unfold bK at ha
    unfold cI at hv
    rcases ep i p.2.2 with hl|hl
    . rw[yl (by rw[gc];exact hl)] at ha
      rw[yl (by rw[c];exact hl)] at hv
      rw[dV _ _ _ _ _ ha,(d _ (a8 h1.1)).cell];rw[ym hl,yn] at hv
      exact hv
    . rw[yo (by rw[gc];exact hl),gc] at ha
      rw[yo (by rw[c];exact hl),c] at hv
      exact dO d ps e _ a v ha hv
theorem Own.mo {w w':World}{b:Nat}{t:TypeId}{vs:List Value}{M:List Nat}(h:Own w b t vs)(x:Mo M w w')(a:b ∉ M):Own w' b t vs:=(x.blk b h.lt a).trans h
theorem fr {M:List Nat}{d:List (Nat × Nat × Nat)}(hM:∀ p∈d,(av B p.1).b ∉ M)(e:∀ x∈B,x.b ∉ M->Own w x.b x.t x.vs):∀ (ps:List (Nat × Nat × Nat)),(∀ p∈ps,p∈d)->cc B ps=true->∀ (i:Nat) a v,(bK B ps)[i]?=some a->(cI B ps)[i]?=some v->w.cell? a=some v
  | [],_,_,i,a,v,h,_=>by simp[bK] at h
  | p :: ps,hsub,hok,i,a,v,ha,hv=>by
    unfold cc at hok
    rw[yk,i3] at hok
    obtain ⟨h1,f⟩:=hok
    simp only[i3,decide_eq_true_eq] at h1
    have c:(((av B p.1).vs.drop p.2.1).take p.2.2).length=p.2.2:=by simp;omega
    unfold bK at ha
    unfold cI at hv
    rcases ep i p.2.2 with hl|hl
    . rw[yl (by rw[gc];exact hl)] at ha
      rw[yl (by rw[c];exact hl)] at hv
      rw[dV _ _ _ _ _ ha,(e _ (a8 h1.1) (hM p (hsub p (by simp)))).cell];rw[ym hl,yn] at hv
      exact hv
    . rw[yo (by rw[gc];exact hl),gc] at ha
      rw[yo (by rw[c];exact hl),c] at hv
      exact fr hM e ps (fun q j=>hsub q (by simp[j])) f _ a v ha hv
end st
section own
variable {M:Ms}{P:Program}{n:Nat}{N R:Po}{X:Nat->Po}{ops:Array Oper}{k0:Nat}{hr:Hp}{AL:List Al}{L:Array Bool}{Γ:bO}{w:World}{h:Hp}{w0:World}{h0:Hp}{B:List Bx}
theorem Rg.own (i t:Nat)(ps:List (Nat × Nat × Nat))(v:Value)(s:St w0 h0 w h B)(o:(cZ n ops k0 AL L i t && a7 Γ (ak ops i) && gh ops k0 i)=true)(j:bg ops Γ (ak ops i)=some true)
  (hM:∀ p∈ps,(av B p.1).b ∉ M.l)(d:cc B ps=true)(f:bM P (execOp (ev Γ) (ak ops i)) (cI B ps)=some (.value v,bK B ps))
  (k:EG M P n N R X ops k0 hr AL (L.setIfInBounds i true) ((t,v)::Γ) w h):EG M P n N R X ops k0 hr AL L Γ w h :=
 Rg.load i t v o j (fun w' e=>ce _ _ _ _ f (fr hM (fun x c a=>(s.own x c).mo e a) ps (fun _ h=>h) d)) k
theorem T.put (i j o:Nat)(cs:List Value)(s:St w0 h0 w h B)(p:G w0 h0)(x:(gT ops k0 L i && a7 Γ (ak ops i) && ((ak ops i).dst == none))=true)(u:bg ops Γ (ak ops i)=some true)
  (f:(decide (j<B.length) && decide (o+cs.length<=(av B j).vs.length))=true)(l:dk P (execOp (ev Γ) (ak ops i))=some (.skip,mB (av B j).b o cs))
  (k:∀ w',Put (av B j).b w w'->St w0 h0 w' h (fB B j o cs)->AG M P n N R X ops k0 (L.setIfInBounds i true) Γ w')(hz:∀ K bs,M.z=some (K,bs)->K<=(av B j).b\/(av B j).b∈bs:=by intro _ _ e;cases e):AG M P n N R X ops k0 L Γ w:=by
 simp only[i3,decide_eq_true_eq] at f
 obtain ⟨w',c,a,d⟩:=ge _ _ _ _ _ w l (s.own _ (a8 f.1)) f.2;exact T.store i w' x u c (a.tl hz) (k w' a (s.put p f.1 a d))
theorem LG.own {k:Nat}(t:Nat)(ps:List (Nat × Nat × Nat))(v:Value)(s:St w0 h0 w h B)(d:(fE ops Γ k && ((ak ops k).dst == some t) && decide (t<n))=true)(c:bg ops Γ (ak ops k)=some true)
  (a:cc B ps=true)(b:bM P (execOp (ev Γ) (ak ops k)) (cI B ps)=some (.value v,bK B ps))
  (H:LG P n N R X ops (k+1) ((t,v)::Γ) w):LG P n N R X ops k Γ w :=
 LG.val t v w d c (ce _ _ _ _ b (dO s.own ps a)) H
theorem LG.put {k:Nat}(j o:Nat)(cs:List Value)(s:St w0 h0 w h B)(i:G w0 h0)(p:(fE ops Γ k && ((ak ops k).dst == none))=true)(l:bg ops Γ (ak ops k)=some true)
  (e:(decide (j<B.length) && decide (o+cs.length<=(av B j).vs.length))=true)(f:dk P (execOp (ev Γ) (ak ops k))=some (.skip,mB (av B j).b o cs))
  (H:∀ w',Put (av B j).b w w'->St w0 h0 w' h (fB B j o cs)->LG P n N R X ops (k+1) Γ w'):LG P n N R X ops k Γ w:=by
 simp only[i3,decide_eq_true_eq] at e
 obtain ⟨w',c,a,d⟩:=ge _ _ _ _ _ w f (s.own _ (a8 e.1)) e.2;exact LG.store w' p l c (H w' a (s.put i e.1 a d))
theorem LG.var {k:Nat}(t:Nat)(ty:TypeId)(vs:List Value)(s:St w0 h0 w h B)(c:(fE ops Γ k && ((ak ops k).dst == some t) && decide (t<n))=true)(a:bg ops Γ (ak ops k)=some true)
  (hr:(execOp (ev Γ) (ak ops k)).run P w=.ok (.value (.pointer (some ⟨w.heap.size,0,none⟩))) (w.alloc (.cells vs.toArray ty (0,0))))
  (H:∀ b w' h',h.size<=b->Up w h w' h'->St w0 h0 w' h' (⟨b,ty,vs⟩::B)->LG P n N R X ops (k+1) ((t,.pointer (some ⟨b,0,none⟩))::Γ) w'):LG P n N R X ops k Γ w:=by
 have u:Up w h (w.alloc (.cells vs.toArray ty (0,0))) (h.push a6):=Up.allocAny s.g _ _ (.inr rfl);refine LG.val t _ _ c a hr (H _ _ _ (by rw[s.g.size];exact ey _) u (St.new1 (x:=⟨0,0,.cells vs.toArray ty (0,0)⟩) s (s.step u) ⟨?_,?_,?_⟩ ty vs rfl))
 ·rw[heap_alloc];exact fo
 ·rw[s.g.size];exact fo
 ·show h.size<=w.heap.size;rw[s.g.size];exact ey _
def nJ (fn:Func)(Γ:bO):Sem Value:=do
  let vs <-fn.results.mapM fun
    | .tmp t=>Pure.pure (ev Γ (.tmp t))
    | .cell a t=>do loadVar t (<-asAddr (ev Γ (.tmp a)))
  Pure.pure (if h:vs.size=1 then vs[0] else .tuple vs)
def Ef (fn:Func)(Γ:bO):Bool:=fn.results.all fun|.tmp t=>fT Γ (.tmp t)|.cell a _=>fT Γ (.tmp a)
def lM (fn:Func)(Γ:bO):Bool:=(fl Γ).isEmpty && Ef fn Γ
theorem qu {a:Func}{Γ:bO}(h:lM a Γ=true):fl Γ=[]:=by
 unfold lM at h;rw[i3] at h;exact List.isEmpty_iff.1 h.1
theorem nK {α β:Type}(l:List α)(f g:α->Sem β)(h:∀ x∈l,f x=g x):l.mapM f=l.mapM g:=by
 induction l with
 | nil=>rfl
 | cons a l ih=>rw[yp,yp,h a (by simp),ih (fun x b=>h x (by simp[b]))]
theorem lm {b:Func}{a:Act}(c:Kn n a Γ)(hk:Ef b Γ=true):results b a.tmps=nJ b Γ:=by
 unfold results nJ
 have e:∀ x∈b.results.toList,((match x with|.tmp t=>Pure.pure (a.tmps.getD t undef)|.cell ad t=>(do loadVar t (<-asAddr (a.tmps.getD ad undef)))):Sem Value)=((match x with|.tmp t=>Pure.pure (ev Γ (.tmp t))|.cell ad t=>(do loadVar t (<-asAddr (ev Γ (.tmp ad))))):Sem Value):=by
  intro x d;have h1:=(na.1 hk) x (by simpa using d);cases x with
  | tmp t=>have:=c.eval h1;simp only[Act.eval] at this;simp only[this]
  | cell ad t=>have:=c.eval h1;simp only[Act.eval] at this;simp only[this]
 rw[yq,yq]
 congr 2
 exact nK _ _ _ e
theorem ja {b:Func}{a:Act}(c:Kn n a Γ)(hk:lM b Γ=true):results b a.tmps=nJ b Γ :=
 lm c (by unfold lM at hk;rw[i3] at hk;exact hk.2)
def Ret (w0:World)(h0:Hp)(Φ:Value->Hp->Prop):Ending->World->Prop:=fun e w'=>∃ v h',e=.returned v/\Up w0 h0 w' h'/\Φ v h'
theorem E3 {b:Func}{Φ:Value->Hp->Prop}(s:St w0 h0 w h B)(ps:List (Nat × Nat × Nat))(v:Value)(hk:(lM b Γ && cc B ps)=true)(e:bM P (nJ b Γ) (cI B ps)=some (v,bK B ps))(c:Φ v h) :
  ∀ a,Kn n a Γ->lk P b (Ret w0 h0 Φ) a w:=by
 intro a d;rw[i3] at hk
 refine ⟨d.df.trans (qu hk.1),v,?_,v,h,rfl,s.up,c⟩;rw[ja d hk.1];exact ce _ _ _ _ e (dO s.own ps hk.2)
end own
abbrev CV (f:FuncId)(a:Array Value)(w:World)(h:Hp)(x:Value):Prop:=Calls Tryz.prog f a w (Ret w h fun v _=>v=x)
abbrev CR (f:FuncId)(a:Array Value)(w:World)(h:Hp)(Φ:Value->Hp->Prop):Prop:=Calls Tryz.prog f a w (Ret w h Φ)
def cH (h:Hp)(b i:Nat):Option Value :=
  match h[b]? with
  | some (.cells c _ _)=>c[i]?
  | _=>none
structure Gw (h h':Hp):Prop where
  size:h.size<=h'.size
  blk:∀ b:Nat,b<h.size->h'[b]?=h[b]?\/h[b]?=some a6
theorem Gr.gw {h a:Hp}(u:Gr h a):Gw h a:=⟨u.size,fun b c=>.inl (u.blk b c)⟩
theorem tU {h a:Hp}(u:Gw h a){b i:Nat}{v:Value}(e:cH h b i=some v):cH a b i=some v:=by
  unfold cH at *
  cases c:h[b]? with
  | none=>rw[c] at e;cases e
  | some o =>
    rcases u.blk b (aE c) with h1|h1
    . rw[h1];exact e
    . rw[h1] at e;simp[a6] at e
theorem jc {w:World}{h:Hp}(g:G w h){b i:Nat}{v:Value}(e:cH h b i=some v):w.cell? ⟨b,i,none⟩=some v:=by
 unfold cH at e
 rcases g.blk b with h1|h1
 ·unfold World.cell?
  rw[<-h1];cases a:h[b]? with
  | none=>rw[a] at e;cases e
  | some o=>rw[a] at e;cases o<;>simp at e ⊢ <;> exact e
 ·rw[h1] at e;simp[a6] at e
def Seg (h:Hp)(b o:Nat)(cs:List Value):Prop:=∀ (i:Nat) (v:Value),cs[i]?=some v->cH h b (o+i)=some v
theorem Seg.gw {h a:Hp}{b o:Nat}{cs:List Value}(s:Seg h b o cs)(u:Gw h a):Seg a b o cs:=fun i v hv=>tU u (s i v hv)
theorem tI {M:List Nat}{w w':World}{h:Hp}(g:G w h)(x:Mo M w w')(hM:∀ b∈M,h[b]?=some a6){b i:Nat}{v:Value}(e:cH h b i=some v):w'.cell? ⟨b,i,none⟩=some v:=by
 have f:b ∉ M:=fun j=>by
  unfold cH at e
  rw[hM b j] at e
  simp[a6] at e
 have d:=jc g e
 have c:b<w.heap.size:=by
  rcases ep b w.heap.size with c|c
  ·exact c
  ·unfold World.cell? at d;rw[eq c] at d;cases d
 rw[World.cell?_of_block (w:=w) (a:=⟨b,i,none⟩) (x.blk b c f)];exact d
theorem Seg.runM {α:Type}{M:List Nat}{P:Program}{w w':World}{h:Hp}{b o:Nat}{cs:List Value}{s:Sem α}{r:α}(d:Seg h b o cs)(g:G w h)(hM:∀ b∈M,h[b]?=some a6)(x:Mo M w w')(c:bM P s cs=some (r,kw b o cs.length)):s.run P w'=.ok r w' :=
 ce _ _ _ _ c (fun i a v ha hv=>by rw[dV _ _ _ _ _ ha];exact tI g x hM (d i v hv))
theorem Seg.run {α:Type}{P:Program}{w w':World}{h:Hp}{b o:Nat}{cs:List Value}{s:Sem α}{r:α}(d:Seg h b o cs)(g:G w h)(x:Ext w w')(c:bM P s cs=some (r,kw b o cs.length)):s.run P w'=.ok r w' :=
 ce _ _ _ _ c (fun i a v ha hv=>by rw[dV _ _ _ _ _ ha];exact x.some (jc g (d i v hv)))
theorem Seg.part {h:Hp}{b o:Nat}{cs:List Value}(s:Seg h b o cs)(j n:Nat):Seg h b (o+j) ((cs.drop j).take n):=fun i v hv=>by
 have hi:i<n:=by
  rcases ep i n with hl|hl
  ·exact hl
  ·rw[ws (by simp;omega)] at hv;cases hv
 rw[ym hi,yn] at hv
 rw[yr];exact s (j+i) v hv
def aB (A:Z9):Nat:=match A with|some a=>a.block|none=>0
def aO (A:Z9):Nat:=match A with|some a=>a.off|none=>0
structure SlO {α:Type} (sz:Nat) (f:α->List Value) (d:α) (h:Hp) (A:Z9) (l:List α):Prop where
  ok:0<l.length->A=some ⟨aB A,aO A,none⟩
  el:∀ k,k<l.length->Seg h (aB A) (aO A+k*sz) (f (l.getD k d))
theorem SlO.gw {α:Type}{sz:Nat}{f:α->List Value}{d:α}{h a:Hp}{A:Z9}{l:List α}(s:SlO sz f d h A l)(u:Gw h a):SlO sz f d a A l:=⟨s.ok,fun k hk=>(s.el k hk).gw u⟩
theorem SlO.nil {α:Type}{sz:Nat}{f:α->List Value}{d:α}{h:Hp}{A:Z9}:SlO sz f d h A []:=⟨fun h=>by simp at h,fun k hk=>by simp at hk⟩
def EN {α:Type}(sz:Nat)(f:α->List Value)(d:α)(h:Hp)(v:Value)(l:List α):Prop :=
  ∃ A cap,v=.slice A l.length cap/\l.length<=cap/\SlO sz f d h A l
theorem SlO.of_flat {α:Type}{sz:Nat}{f:α->List Value}{d:α}{h:Hp}{b o:Nat}{l:List α}(hf:∀ x,(f x).length=sz)(s:Seg h b o (l.flatMap f)):SlO sz f d h (some ⟨b,o,none⟩) l:=by
  refine ⟨fun _=>rfl,?_⟩
  induction l generalizing o with
  | nil=>intro k hk;simp at hk
  | cons x l ih =>
    intro k hk;cases k with
    | zero =>
      have:=s.part 0 sz
      simp only[ys,yt,yu] at this
      rw[yv (by rw[hf];exact ey _),<-hf x,yw] at this
      simpa [aB,aO] using this
    | succ k =>
      have a:Seg h b (o+sz) (l.flatMap f):=fun i v hv=>by
        have:=s (sz+i) v (by rw[ys,yo (by rw[hf];omega),hf];simpa using hv)
        rwa [<-yr] at this
      have:=ih a k (by simpa using hk)
      simp only[aB,aO,yx] at this ⊢
      rw[yy,yz (k*sz) sz,<-yr];exact this
theorem Seg.new {h:Hp}(cs:List Value)(ty:TypeId):Seg (h.push (.cells cs.toArray ty (0,0))) h.size 0 cs:=fun i v hv=>by
 unfold cH
 rw[fo]
 simpa using hv
theorem dQ {α:Type}{f:α->List Value}{sz:Nat}(hf:∀ x,(f x).length=sz)(l:List α):(l.flatMap f).length=l.length*sz:=by
 induction l with
 | nil=>simp
 | cons x l ih=>simp only[ys,yA,ih,hf,yc,yy];omega
theorem fh {α:Type}{f:α->List Value}{sz:Nat}(hf:∀ x,(f x).length=sz)(d:α):∀ (l:List α) (k:Nat),k<l.length->((l.flatMap f).drop (k*sz)).take sz=f (l.getD k d)
  | [],k,h=>by simp at h
  | x::l,0,h=>by
    simp only[ys,yB,yu,List.getD_cons_zero]
    rw[yv (by rw[hf];exact ey _),<-hf x,yw]
  | x::l,k+1,h=>by
    simp only[ys,yx]
    rw[yy,List.drop_append,hf,show k*sz+sz-sz=k*sz by omega,yC (by rw[hf];omega),List.nil_append];exact fh hf d l k (by simpa using h)
theorem iq (cs:List Value):∀ (a b:List Value) (o:Nat),en (a++b) (a.length+o) cs=a++en b o cs:=by
  induction cs with
  | nil=>intro a b o;rfl
  | cons c cs ih =>
    intro a b o
    show en ((a++b).set (a.length+o) c) (a.length+o+1) cs=a++en (b.set o c) (o+1) cs
    rw[List.set_append_right _ _ oM,show a.length+o-a.length=o by omega,yr];exact ih a (b.set o c) (o+1)
theorem iO:∀ (cs a b:List Value),a.length=cs.length->en (a++b) 0 cs=cs++b:=by
  intro cs
  induction cs with
  | nil=>intro a b h;have:a=[]:=yD (by simpa using h);subst this;rfl
  | cons c cs ih =>
    intro a b h;cases a with
    | nil=>simp at h
    | cons y a =>
      show en (c::(a++b)) (0+1) cs=c::(cs++b)
      have:=iq cs [c] (a++b) 0
      simp only[List.length_singleton,List.singleton_append] at this
      rw[show 0+1=1+0 by omega,this,ih a b (by simpa using h)]
theorem gV {α:Type}{f:α->List Value}{sz:Nat}(hf:∀ x,(f x).length=sz):∀ (l:List α) (k:Nat) (x:α),k<l.length->en (l.flatMap f) (k*sz) (f x)=(l.set k x).flatMap f
  | [],k,x,h=>by simp at h
  | y::l,0,x,h=>by
    simp only[ys,yB,List.set_cons_zero]
    exact iO _ _ _ (by rw[hf,hf])
  | y::l,k+1,x,h=>by
    simp only[ys,yE]
    rw[yy,yz,<-hf y,iq,hf y,gV hf l k x (by simpa using h)]
section rows
variable {M:Ms}{P:Program}{n:Nat}{N R:Po}{X:Nat->Po}{ops:Array Oper}{k0:Nat}{hr:Hp}{AL:List Al}{L:Array Bool}{Γ:bO}{w:World}{h:Hp}
theorem LG.row {k:Nat}(t:Nat)(ty:TypeId)(m:Nat)(cs:List Value)(g:G w h)(d:(fE ops Γ k && ((ak ops k).dst == some t) && decide (t<n))=true)(c:bg ops Γ (ak ops k)=some true)
  (a:(execOp (ev Γ) (ak ops k)).run P w=.ok (.value (.slice (some ⟨w.heap.size,0,none⟩) m m)) (w.alloc (.cells cs.toArray ty (0,0))))
  (H:∀ b w' h',Up w h w' h'->Seg h' b 0 cs->LG P n N R X ops (k+1) ((t,.slice (some ⟨b,0,none⟩) m m)::Γ) w'):LG P n N R X ops k Γ w :=
 LG.val t _ _ d c a (H _ _ _ (Up.allocAny g _ _ (.inl rfl)) (by rw[g.size];exact Seg.new cs ty))
theorem Rg.row (i t:Nat)(ty:TypeId)(m:Nat)(cs:List Value)(e:(kY n ops k0 AL L i t && a7 Γ (ak ops i))=true)(d:bg ops Γ (ak ops i)=some true)
  (a:∀ w,(execOp (ev Γ) (ak ops i)).run P w=.ok (.value (.slice (some ⟨w.heap.size,0,none⟩) m m)) (w.alloc (.cells cs.toArray ty (0,0))))
  (H:∀ b w' c,Up w h w' c->Seg c b 0 cs->EG M P n N R X ops k0 hr AL (L.setIfInBounds i true) ((t,.slice (some ⟨b,0,none⟩) m m)::Γ) w' c):EG M P n N R X ops k0 hr AL L Γ w h :=
 Rg.event i t e d (fun w' c u=>.inl ⟨_,_,_,a w',(Up.allocAny u.g _ _ (.inl rfl)).m M.l,H _ _ _ (u.trans (Up.allocAny u.g _ _ (.inl rfl))) (by rw[u.g.size];exact Seg.new cs ty)⟩)
theorem Rg.ownA {w0:World}{h0:Hp}{B:List Bx}{α:Type}(i t j:Nat)(l:List α)(f:α->List Value)(sz:Nat)(d:α)(e:Nat)(v:Value)(s:St w0 h0 w h B)(y:(cZ n ops k0 AL L i t && a7 Γ (ak ops i) && gh ops k0 i)=true)(p:bg ops Γ (ak ops i)=some true)
  (o:(av B j).b ∉ M.l)(F:decide (j<B.length)=true)(hB:(av B j).vs=l.flatMap f)(hf:∀ x,(f x).length=sz)(hk:e<l.length)
  (C:bM P (execOp (ev Γ) (ak ops i)) (f (l.getD e d))=some (.value v,kw (av B j).b (0+e*sz) (f (l.getD e d)).length))
  (k:EG M P n N R X ops k0 hr AL (L.setIfInBounds i true) ((t,v)::Γ) w h):EG M P n N R X ops k0 hr AL L Γ w h :=
 Rg.load i t v y p (fun w' z=>ce _ _ _ _ C (fun q a u ha c=>by
  rw[dV _ _ _ _ _ ha,((s.own _ (a8 (oT F))).mo z o).cell,hB];rw[<-fh hf d l e hk] at c
  have D:q<sz:=by
   rcases ep q sz with hl|hl
   ·exact hl
   ·rw[ws (by simp;omega)] at c;cases c
  rw[ym D,yn] at c
  rw[yF];exact c)) k
theorem LG.ownA {w0:World}{h0:Hp}{B:List Bx}{α:Type}{k:Nat}(t j:Nat)(l:List α)(f:α->List Value)(sz:Nat)(d:α)(e:Nat)(v:Value)(s:St w0 h0 w h B)(o:(fE ops Γ k && ((ak ops k).dst == some t) && decide (t<n))=true)(i:bg ops Γ (ak ops k)=some true)
  (z:decide (j<B.length)=true)(hB:(av B j).vs=l.flatMap f)(hf:∀ x,(f x).length=sz)(hk:e<l.length)
  (p:bM P (execOp (ev Γ) (ak ops k)) (f (l.getD e d))=some (.value v,kw (av B j).b (0+e*sz) (f (l.getD e d)).length))
  (H:LG P n N R X ops (k+1) ((t,v)::Γ) w):LG P n N R X ops k Γ w :=
 LG.val t v w o i (ce _ _ _ _ p (fun q a u ha c=>by
  rw[dV _ _ _ _ _ ha,(s.own _ (a8 (oT z))).cell,hB];rw[<-fh hf d l e hk] at c
  have y:q<sz:=by
   rcases ep q sz with hl|hl
   ·exact hl
   ·rw[ws (by simp;omega)] at c;cases c
  rw[ym y,yn] at c
  rw[yF];exact c)) H
theorem LG.arr {w0:World}{h0:Hp}{B:List Bx}{k:Nat}(t:Nat)(ty:TypeId)(m:Nat)(vs:List Value)(s:St w0 h0 w h B)(d:(fE ops Γ k && ((ak ops k).dst == some t) && decide (t<n))=true)(c:bg ops Γ (ak ops k)=some true)
  (a:(execOp (ev Γ) (ak ops k)).run P w=.ok (.value (.slice (some ⟨w.heap.size,0,none⟩) m m)) (w.alloc (.cells vs.toArray ty (0,0))))
  (H:∀ b w' h',h.size<=b->Up w h w' h'->St w0 h0 w' h' (⟨b,ty,vs⟩::B)->LG P n N R X ops (k+1) ((t,.slice (some ⟨b,0,none⟩) m m)::Γ) w'):LG P n N R X ops k Γ w:=by
 have u:Up w h (w.alloc (.cells vs.toArray ty (0,0))) (h.push a6):=Up.allocAny s.g _ _ (.inr rfl);refine LG.val t _ _ d c a (H _ _ _ (by rw[s.g.size];exact ey _) u (St.new1 (x:=⟨0,0,.cells vs.toArray ty (0,0)⟩) s (s.step u) ⟨?_,?_,?_⟩ ty vs rfl))
 ·rw[heap_alloc];exact fo
 ·rw[s.g.size];exact fo
 ·show h.size<=w.heap.size;rw[s.g.size];exact ey _
def fJ (B:List Bx)(j:Nat)(vs:List Value):List Bx:=B.set j { av B j with vs:=vs }
theorem LG.putA {w0:World}{h0:Hp}{B:List Bx}{α:Type}{k:Nat}(j:Nat)(l:List α)(f:α->List Value)(sz e:Nat)(x:α)(s:St w0 h0 w h B)(C:G w0 h0)(y:(fE ops Γ k && ((ak ops k).dst == none))=true)(u:bg ops Γ (ak ops k)=some true)
  (D:decide (j<B.length)=true)(hB:(av B j).vs=l.flatMap f)(hf:∀ x,(f x).length=sz)(hk:e<l.length)
  (z:dk P (execOp (ev Γ) (ak ops k))=some (.skip,mB (av B j).b (0+e*sz) (f x)))
  (H:∀ w',Put (av B j).b w w'->St w0 h0 w' h (fJ B j ((l.set e x).flatMap f))->LG P n N R X ops (k+1) Γ w'):LG P n N R X ops k Γ w:=by
 have i:=oT D
 have p:(0+e*sz)+(f x).length<=(av B j).vs.length:=by
  rw[hB,dQ hf,hf,yF,<-yy];exact yG _ hk
 obtain ⟨w',d,a,o⟩:=ge _ _ _ _ _ w z (s.own _ (a8 i)) p;have c:=s.put C i a o;refine LG.store w' y u d (H w' a ?_)
 unfold fB at c
 rw[hB,yF,gV hf l e x hk] at c
 exact c
theorem T.putA {w0:World}{h0:Hp}{B:List Bx}{α:Type}(i j:Nat)(l:List α)(f:α->List Value)(sz e:Nat)(x:α)(s:St w0 h0 w h B)(F:G w0 h0)(C:(gT ops k0 L i && a7 Γ (ak ops i) && ((ak ops i).dst == none))=true)(y:bg ops Γ (ak ops i)=some true)
  (I:decide (j<B.length)=true)(hB:(av B j).vs=l.flatMap f)(hf:∀ x,(f x).length=sz)(hk:e<l.length)
  (D:dk P (execOp (ev Γ) (ak ops i))=some (.skip,mB (av B j).b (0+e*sz) (f x)))
  (H:∀ w',Put (av B j).b w w'->St w0 h0 w' h (fJ B j ((l.set e x).flatMap f))->AG M P n N R X ops k0 (L.setIfInBounds i true) Γ w')(hz:∀ K bs,M.z=some (K,bs)->K<=(av B j).b\/(av B j).b∈bs:=by intro _ _ e;cases e):AG M P n N R X ops k0 L Γ w:=by
 have o:=oT I
 have u:(0+e*sz)+(f x).length<=(av B j).vs.length:=by
  rw[hB,dQ hf,hf,yF,<-yy];exact yG _ hk
 obtain ⟨w',d,a,p⟩:=ge _ _ _ _ _ w D (s.own _ (a8 o)) u;have c:=s.put F o a p;refine T.store i w' C y d (a.tl hz) (H w' a ?_)
 unfold fB at c
 rw[hB,yF,gV hf l e x hk] at c
 exact c
end rows
theorem Cg {a b:Int}(h:a=b):(a == b)=true:=by simpa using h
theorem e9 {a b:Int}(h:a≠b):(a == b)=false:=by simpa using h
theorem Ez {a b:Int}(h:a≠b):(a != b)=true:=by simpa using h
theorem ub {a b:Int}(h:a=b):(a != b)=false:=by simpa using h
theorem St.drop {w0:World}{h0:Hp}{w:World}{h:Hp}{B:List Bx}(s:St w0 h0 w h B)(k:Nat):St w0 h0 w h (B.drop k) :=
 ⟨s.up,fun x a=>s.own x (yH a),fun x a=>s.jk x (yH a),fun x a=>s.lo x (yH a),s.nd.sublist ((yI k B).map (·.b))⟩
theorem aJ {a b:Int}(h:(a != b)=false):a=b:=by simpa using h
theorem aU {a b:Int}(h:(a != b)=true):a≠b:=by simpa using h
theorem aq {a b:Int}(h:(a == b)=false):a≠b:=by simpa using h
theorem nt {α:Type}{f:α->List Value}{b:α}{sz:Nat}(hf:(f b).length=sz)(a:0<sz):∀ (m i:Nat),i<m*sz->((yJ m b).flatMap f)[i]?=(f b)[i%sz]?
  | 0,i,h=>by simp at h
  | m + 1,i,h=>by
    rw[yK,ys]
    rcases ep i sz with hl|hl
    . rw[yl oM,yL hl]
    . rw[yo oM,hf,nt hf a m (i-sz) (by rw[yy] at h;omega)]
      congr 1
      rw[Nat.mod_eq_sub_mod hl]
theorem rk {α:Type}{f:α->List Value}{c:α}{z:Value}{sz m:Nat}(d:z.cells.toList=f c)(b:z.cells.size=sz)(a:0<sz):madeCells z.cells (m*sz)=((yJ m c).flatMap f).toArray:=by
 have hf:(f c).length=sz:=by rw[<-d];simpa using b
 apply Array.ext_getElem?
 intro i;rw[show ((yJ m c).flatMap f).toArray[i]?=((yJ m c).flatMap f)[i]? from by simp]
 rcases ep i (m*sz) with hl|hl
 ·rw[nt hf a m i hl,<-d]
  have e:i%sz<z.cells.size:=by rw[b];exact yM _ a
  simp only[madeCells,Array.getElem?_map,Array.getElem?_range,hl,if_true,yb,b,Array.getElem?_toList]
  rw[e6 e,getElem!_pos z.cells (i%sz) e]
 ·rw[eq (by rw[size_madeCells];exact hl),ws]
  have:∀ m,((yJ m c).flatMap f).length=m*sz:=by
   intro m
   induction m with
   | zero=>simp
   | succ m ih=>rw[yK,ys,yA,ih,hf,yy];omega
  rw[this];exact hl
section ops
variable {P:Program}{Γ:bO}{o:Oper}
theorem B2 {t e:TypeId}{x ix:Operand}{A:Z9}{len b sz:Nat}{i:Int}(k:Nat)(j:o.op=.indexAddr t x ix)(l:ev Γ x=.slice A len b)(hi:ev Γ ix=.int .i64 i)
    (f:P.underlying t=some (.slice e))(d:(P.info? e).map (·.size)=some sz)(h:A=some ⟨aB A,aO A,none⟩)(hk:i=k)(y:k<len)(w:World) :
    (execOp (ev Γ) o).run P w=.ok (.value (.pointer (some ⟨aB A,aO A+k*sz,none⟩))) w:=by
  subst hk
  unfold execOp
  simp only[j]
  rw[l,hi];have c:P.elem t=e:=by unfold Program.elem;rw[f]
  have h1:=run_indexAt_slice (P:=P) w t ⟨aB A,aO A,none⟩ len b .i64 (k:Int) (by rw[c];exact f);rw[if_pos ⟨by omega,by omega⟩,c] at h1
  have p:(sizeOf e).run P w=.ok sz w:=by
    cases a:P.info? e with
    | none=>rw[a] at d;cases d
    | some i =>
      rw[a] at d
      simp at d
      simp[sizeOf,typeInfo,a,d]
  rw[p] at h1
  have u:((⟨aB A,aO A,none⟩:Addr).add ((k:Int).toNat*sz))=⟨aB A,aO A+k*sz,none⟩:=by
    unfold Addr.add
    simp only[yN]
    split
    . rename_i h0;rw[h0];rfl
    . rfl
  simp only[Result.andThen] at h1
  rw[u] at h1
  rw[<-h] at h1
  rw[Sem.run_bind,h1]
  rfl
theorem Fj {t e:TypeId}{x y:Operand}{z:Value}{m sz d:Nat}{α:Type}{f:α->List Value}{j:α}(p:o.op=.makeSlice t x y)(C:ev Γ x=.int .i64 (m:Int))(B:ev Γ y=.int .i64 (m:Int))
    (F:P.underlying t=some (.slice e))(hi:(P.info? e).map (fun i=>(i.zero,i.size,i.bytes))=some (some z,sz,d))(c:z.cells.toList=f j)(h:z.cells.size=sz)(b:0<sz)(I:d*m<=140737488355328)(H:m<9223372036854775808)(w:World) :
    (execOp (ev Γ) o).run P w=.ok (.value (.slice (some ⟨w.heap.size,0,none⟩) m m)) (w.alloc (.cells ((yJ m j).flatMap f).toArray e (0,0))):=by
  cases a:P.info? e with
  | none=>rw[a] at hi;cases hi
  | some inf =>
    rw[a] at hi
    simp only[yb,Option.some.injEq,Prod.mk.injEq] at hi
    obtain ⟨h1,D,u⟩:=hi
    unfold execOp
    simp only[p]
    have l:(inf.bytes:Int)*(m:Int)<=281474976710656:=by
      rw[u];have:((d*m:Nat):Int)<=281474976710656:=by omega
      simpa using this
    rw[C,B,Sem.run_bind,run_make (P:=P) w t e inf z F a h1 .i64 .i64 (m:Int) (m:Int) oM oM l oM]
    simp only[Result.andThen,yN,D]
    rw[rk c h b]
    rfl
theorem Fm {t e:TypeId}{x hi:Operand}{A:Z9}{len b:Nat}{i:Int}(k:Nat)(l:o.op=.slice t x none (some hi) none)(p:ev Γ x=.slice A len b)(f:ev Γ hi=.int .i64 i)
  (u:P.underlying t=some (.slice e))(y:(P.info? e).isSome=true)(hk:i=k)(h:k<=b)(w:World) :
  (execOp (ev Γ) o).run P w=.ok (.value (.slice A k b)) w:=by
 subst hk;obtain ⟨d,c⟩:=la.1 y
 unfold execOp
 simp only[l,yO,yb]
 rw[p,f];have j:∀ a:Addr,a.add 0=a:=fun a=>by unfold Addr.add;simp
 have e1:A.map (fun a=>a.add (0*d.size))=A:=by cases A<;>simp[j]
 simp[Instr.sliceAt,Instr.slice,Instr.sliceBounds,Instr.sliceBound,run_underlying u,asIntOf,sizeOf,typeInfo,c,Result.andThen,h]
 intro _;cases A<;>simp[j]
theorem BZ {t e:TypeId}{x c:Operand}{A:Z9}{len b sz:Nat}{i:Int}(k:Nat)(j:o.op=.slice t x (some c) none none)(l:ev Γ x=.slice A len b)(f:ev Γ c=.int .i64 i)
    (p:P.underlying t=some (.slice e))(d:(P.info? e).map (·.size)=some sz)(hk:i=k)(h:k<=len)(w:World) :
    (execOp (ev Γ) o).run P w=.ok (.value (.slice (if b=k then A else A.map (·.add (k*sz))) (len-k) (b-k))) w:=by
  subst hk;cases a:P.info? e with
  | none=>rw[a] at d;cases d
  | some inf =>
    rw[a] at d
    simp at d
    unfold execOp
    simp only[j,yO,yb]
    rw[l,f]
    simp[Instr.sliceAt,Instr.slice,Instr.sliceBounds,Instr.sliceBound,run_underlying p,asIntOf,sizeOf,typeInfo,a,Result.andThen,h,d]
end ops
def wK (z:Int):List Value:=[.int .i64 z]
abbrev Si (A:Z9)(l:List Int):Hp->Prop:=fun h_=>SlO 1 wK 0 h_ A l
structure Gro (h0:Hp) (B:List Nat) (w:World) (h:Hp) (ty:TypeId) (sz:Nat) (v:Value) (n:Nat) (cs:List Value):Prop where
  own:w.ownsRow h0.size ty sz v n cs
  jk:∀ b,v.ownBlock=some b->h[b]?=some a6
  ap:∀ b,v.ownBlock=some b->b ∉ B
section gro
variable {h0:Hp}{B:List Nat}{w:World}{h:Hp}{ty:TypeId}{sz:Nat}{v:Value}{n:Nat}{cs:List Value}
theorem Gro.nil:Gro h0 B w h ty sz (.slice none 0 0) 0 []:=⟨World.ownsRow_nil _ _ _ _,fun b a=>by simp[Value.ownBlock] at a,fun b a=>by simp[Value.ownBlock] at a⟩
theorem dD {base:Nat}(o:w.ownsRow base ty sz v n cs){w':World}(a:∀ b,v.ownBlock=some b->w'.heap[b]?=w.heap[b]?):w'.ownsRow base ty sz v n cs:=by
 rcases o with ⟨h1,h2|⟨g,cap,cur,hv,hb',hg,hn,hm,hs,ht⟩⟩
 ·exact ⟨h1,.inl h2⟩
 ·exact ⟨h1,.inr ⟨g,cap,cur,hv,hb',(a g (by rw[hv];rfl)).trans hg,hn,hm,hs,ht⟩⟩
theorem Gro.lt (r:Gro h0 B w h ty sz v n cs){b:Nat}(a:v.ownBlock=some b):b<h.size:=aE (r.jk b a)
theorem iP {base:Nat}(o:w.ownsRow base ty sz v n cs){b:Nat}(a:v.ownBlock=some b):b<w.heap.size:=by
 rcases o with ⟨_,⟨rfl,_⟩|⟨g,cap,cur,rfl,_,hg,_⟩⟩
 ·simp[Value.ownBlock] at a
 ·simp[Value.ownBlock] at a
  subst a
  rcases ep g w.heap.size with hl|hl
  ·exact hl
  ·rw[eq hl] at hg;cases hg
theorem Gro.up (r:Gro h0 B w h ty sz v n cs){w':World}{c:Hp}(u:Up w h w' c):Gro h0 B w' c ty sz v n cs :=
 ⟨dD r.own (fun b a=>Below.block u.ext b (iP r.own a)),fun b a=>(u.gr.blk b (r.lt a)).trans (r.jk b a),r.ap⟩
theorem Gro.put (r:Gro h0 B w h ty sz v n cs){w':World}{b:Nat}(p:Put b w w')(a:b∈B):Gro h0 B w' h ty sz v n cs :=
 ⟨dD r.own (fun c d=>p.blk c (fun e=>r.ap c d (e▸a))),r.jk,r.ap⟩
theorem Gro.new (r:Gro h0 B w h ty sz v n cs)(b:Nat)(f:∀ c,v.ownBlock=some c->c≠b):Gro h0 (b::B) w h ty sz v n cs :=
 ⟨r.own,r.jk,fun c a d=>by
  rcases g3.1 d with e|e
  ·exact f c a e
  ·exact r.ap c a e⟩
theorem Gro.sub (r:Gro h0 B w h ty sz v n cs)(a:List Nat)(e:∀ b∈a,b∈B):Gro h0 a w h ty sz v n cs:=⟨r.own,r.jk,fun b d c=>r.ap b d (e b c)⟩
theorem Gro.out (r:Gro h0 B w h ty sz v n cs){a:Hp}{b:Nat}(f:b∈B)(i:∀ c,c≠b->a[c]?=h[c]?):Gro h0 B w a ty sz v n cs :=
 ⟨r.own,fun c d=>(i c (fun e=>r.ap c d (e▸f))).trans (r.jk c d),r.ap⟩
theorem Gro.app (r:Gro h0 B w h ty sz v n cs){w':World}{d:Hp}{row:Option Nat}(f:w.grownBy w' row)(i:Gr h d)(c:∀ b,v.ownBlock=some b->row≠some b):Gro h0 B w' d ty sz v n cs :=
 ⟨dD r.own (fun b a=>f.block b (iP r.own a) (fun e=>c b a e.symm)),fun b a=>(i.blk b (r.lt a)).trans (r.jk b a),r.ap⟩
theorem uw {w0:World}{i:List Bx}{w':World}(s:St w0 h0 w h i)(u:G w0 h0)(r:Gro h0 (i.map (·.b)) w h ty sz v n cs)(d:w.grownBy w' v.ownBlock):∃ l,Gr h l/\St w0 h0 w' l i/\∀ b,h.size<=b->b<w'.heap.size->l[b]?=some a6:=by
  have o:∀ b,v.ownBlock=some b->h0.size<=b:=by
    intro b a
    rcases r.own with ⟨_,⟨rfl,_⟩|⟨g,cap,cur,rfl,hbb,_⟩⟩
    . simp[Value.ownBlock] at a
    . simp[Value.ownBlock] at a;omega
  have y:=s.g.size;have j:=d.size;have c:Gr h (h++vl (w'.heap.size-h.size) a6):=⟨by simp,fun b a=>x0 a⟩;refine ⟨h++vl (w'.heap.size-h.size) a6,c,⟨⟨⟨d.os.trans s.up.ext.os,d.tape.trans s.up.ext.tape,d.output.trans s.up.ext.output,ez s.up.ext.size j,fun b a=>?_⟩,s.up.gr.trans c,⟨by simp;omega,fun b=>?_⟩⟩,?_,?_,s.lo,s.nd⟩,?_⟩
  . rw[d.block b (e4 a s.up.ext.size) (fun e=>by have:=o b e.symm;rw[u.size] at a;omega)]
    exact Below.block s.up.ext b a
  . rcases ep b h.size with a|a
    . rw[x0 a]
      by_cases e:v.ownBlock=some b
      . exact .inr (r.jk b e)
      . rw[d.block b oM (fun p=>e p.symm)];exact s.g.blk b
    . by_cases hl:b<w'.heap.size
      . right
        rw[yP a,yQ,if_pos oM]
      . left
        rw[eq (by simp;omega),eq oM]
  . intro x f
    show w'.heap[x.b]?=_
    rw[d.block x.b (s.own x f).lt (fun e=>r.ap x.b e.symm (g1.2 ⟨x,f,rfl⟩))];exact s.own x f
  . intro x f
    rw[c.blk _ (aE (s.jk x f))];exact s.jk x f
  . intro b h1 z
    rw[yP h1,yQ,if_pos oM]
def Apart (v u:Value):Prop:=∀ b,v.ownBlock=some b->u.ownBlock≠some b
theorem Apart.symm {v u:Value}(h:Apart v u):Apart u v:=fun b a hv=>h b hv a
theorem Apart.grown {v v' u:Value}(h:Apart v u)(d:v'.ownBlock=v.ownBlock\/v'.ownBlock=some w.heap.size)(c:∀ b,u.ownBlock=some b->b<w.heap.size):Apart v' u:=fun b hv a=>by
 rcases d with e|e
 ·exact h b (e▸hv) a
 ·rw[e] at hv
  injection hv with hv
  have:=c b a
  omega
theorem Apart.nil {u:Value}:Apart (.slice none 0 0) u:=fun b a=>by simp[Value.ownBlock] at a
end gro
section app
variable {P:Program}{n:Nat}{N R:Po}{X:Nat->Po}{ops:Array Oper}{k0:Nat}{hr:Hp}{AL:List Al}{L:Array Bool}{Γ:bO}{w:World}{h:Hp}{w0:World}{h0:Hp}{B:List Bx}
theorem qi {o:Oper}{x y:Operand}{t e:TypeId}{z:Value}{sz C m m2 c:Nat}{v:Value}{cs news:List Value}{a:Addr}(J:o.op=.call { callee:=.builtin .append,args:=#[x,y],argTypes:=#[t,t] })
    (O:ev Γ x=v)(M:ev Γ y=.slice (some a) m2 c)(U:P.underlying t=some (.slice e))(hi:(P.info? e).map (fun i=>(i.zero,i.size,i.bytes))=some (some z,sz,C))(D:z.cells.size=sz)(l:0<sz)
    (s:St w0 h0 w h B)(r:Gro h0 (B.map (·.b)) w h e sz v m cs)(K:news.length=m2*sz)(f:∀ j u,news[j]?=some u->w.cell? (a.add j)=some u)(h1:∀ u∈news,u.oneCell'=true)
    (V:m+m2<=1099511627776)(H:(m+m2)*C<=140737488355328) :
    ∃ v' w',(execOp (ev Γ) o).run P w=.ok (.value v') w'/\w'.ownsRow h0.size e sz v' (m+m2) (cs++news)/\w.grownBy w' v.ownBlock/\(v'.ownBlock=v.ownBlock\/v'.ownBlock=some w.heap.size):=by
  cases d:P.info? e with
  | none=>rw[d] at hi;cases hi
  | some inf =>
    rw[d] at hi
    simp only[yb,Option.some.injEq,Prod.mk.injEq] at hi
    obtain ⟨i1,F,S⟩:=hi;obtain ⟨v',w',p,Q,L,W,I⟩:=run_append_own_at (P:=P) w h0.size t o.type e inf z sz C U d i1 F S D l v m cs r.own a m2 c news K f h1 (by unfold maxLen;omega) H (by rw[s.g.size];exact s.sz);refine ⟨v',w',?_,Q,L,I⟩
    unfold execOp
    simp only[J,resolve,invoke,builtin,Sem.run_bind,Sem.run_pure,Result.andThen_ok,List.map_toArray,yR,List.map_nil,O,M,p]
theorem Gro.grown {ty:TypeId}{sz m m2:Nat}{v v':Value}{cs news:List Value}{w':World}{c:Hp}(s:St w0 h0 w h B)(r:Gro h0 (B.map (·.b)) w h ty sz v m cs)(i:w'.ownsRow h0.size ty sz v' (m+m2) (cs++news))(f:v'.ownBlock=v.ownBlock\/v'.ownBlock=some w.heap.size)(y:Gr h c)(p:∀ b,h.size<=b->b<w'.heap.size->c[b]?=some a6) :
  Gro h0 (B.map (·.b)) w' c ty sz v' (m+m2) (cs++news):=by
 have d:∀ b,v'.ownBlock=some b->b<w'.heap.size:=by
  intro b a
  rcases i with ⟨_,⟨rfl,_⟩|⟨g,cap,cur,rfl,_,hg,_⟩⟩
  ·simp[Value.ownBlock] at a
  ·simp[Value.ownBlock] at a
   subst a
   rcases ep g w'.heap.size with hl|hl
   ·exact hl
   ·rw[eq hl] at hg;cases hg
 refine ⟨i,fun b a=>?_,fun b a=>?_⟩
 ·rcases f with e|e
  ·rw[e] at a;rw[y.blk b (r.lt a)];exact r.jk b a
  ·have:b=w.heap.size:=by rw[e] at a;injection a with a;exact a.symm
   exact p b (by rw[this,s.g.size];exact ey _) (d b a)
 ·rcases f with e|e
  ·rw[e] at a;exact r.ap b a
  ·have:b=w.heap.size:=by rw[e] at a;injection a with a;exact a.symm
   intro j;obtain ⟨x,l,o⟩:=g1.1 j;have:=(s.own x l).lt;have u:x.b=b:=o
   omega
theorem j9 {b:Nat}{news:List Value}(g:G w h)(c:Seg h b 0 news):∀ j u,news[j]?=some u->w.cell? ((⟨b,0,none⟩:Addr).add j)=some u:=by
 intro j u a;have:=jc g (c j u a)
 unfold Addr.add
 split
 ·rename_i h0;subst h0;exact this
 ·exact this
end app
theorem UpM.put {M:List Nat}{w0 w w':World}{h0 h:Hp}{b:Nat}(u:UpM M w0 h0 w h)(p:Put b w w')(d:b∈M)(g:G w' h):UpM M w0 h0 w' h :=
 ⟨⟨p.os.trans u.mo.os,p.tape.trans u.mo.tape,p.output.trans u.mo.output,by rw[p.size];exact u.mo.size,fun c f a=>(p.blk c (fun e=>a (e▸d))).trans (u.mo.blk c f a)⟩,u.gr,g⟩
theorem St.at_ {w:World}{h:Hp}{rb:Nat}{t:TypeId}{vs:List Value}(g:G w h)(o:Own w rb t vs)(j:h[rb]?=some a6):∃ w0 h0,G w0 h0/\St w0 h0 w h [⟨rb,t,vs⟩]:=by
 have f:=aE j;have e:=g.size;refine ⟨{ w with heap:=w.heap.extract 0 rb },h.extract 0 rb,⟨by simp;omega,fun b=>?_⟩,⟨⟨⟨rfl,rfl,rfl,by simp;omega,fun b c=>?_⟩,⟨by simp;omega,fun b c=>?_⟩,g⟩,?_,?_,?_,by simp⟩⟩
 ·show (h.extract 0 rb)[b]?=(w.heap.extract 0 rb)[b]?\/_
  rw[yS,yS]
  by_cases c:b<rb
  ·rw[if_pos oM,if_pos oM];simpa using g.blk b
  ·rw[if_neg oM,if_neg oM];exact .inl rfl
 ·have d:b<rb:=by have:b<(w.heap.extract 0 rb).size:=c;simp at this;omega
  show w.heap[b]?=(w.heap.extract 0 rb)[b]?
  rw[yS,if_pos oM];simp
 ·have d:b<rb:=by simp at c;omega
  rw[yS,if_pos oM];simp
 ·intro x a;rw[ul] at a;subst a;exact o
 ·intro x a;rw[ul] at a;subst a;exact j
 ·intro x a;rw[ul] at a;subst a;simp;omega
def dr (rb:Nat)(w0:World)(h0:Hp)(Φ:Value->World->Hp->Prop):Ending->World->Prop:=fun e w'=>∃ v h',e=.returned v/\UpM [rb] w0 h0 w' h'/\Φ v w' h'
section
variable {P:Program}{n:Nat}{Γ:bO}{w:World}{h:Hp}{w0 wz:World}{h0 hz:Hp}{B:List Bx}
theorem retM {b:Func}{rb:Nat}{Φ:Value->World->Hp->Prop}(s:St wz hz w h B)(e:UpM [rb] w0 h0 w h)(ps:List (Nat × Nat × Nat))(v:Value)(hk:(lM b Γ && cc B ps)=true)(f:bM P (nJ b Γ) (cI B ps)=some (v,bK B ps))(c:Φ v w h) :
  ∀ a,Kn n a Γ->lk P b (dr rb w0 h0 Φ) a w:=by
 intro a d;rw[i3] at hk
 refine ⟨d.df.trans (qu hk.1),v,?_,v,h,rfl,e,c⟩;rw[ja d hk.1];exact ce _ _ _ _ f (dO s.own ps hk.2)
theorem St.stepM (s:St w0 h0 w h B)(O:G w0 h0){j:Nat}{vs:List Value}{w':World}{F:Hp}(C:j<B.length)(u:UpM [(av B j).b] w h w' F)(M:Own w' (av B j).b (av B j).t vs):St w0 h0 w' F (fJ B j vs):=by
  have o:=a8 C;have Q:=s.lo _ o
  have z:(fJ B j vs).map (·.b)=B.map (·.b):=by
    unfold fJ
    rw[yd]
    apply ye
    intro i
    by_cases e:j=i
    . subst e
      rw[yf (by simpa using C)]
      simp[av,C]
    . rw[yg e]
  have I:Up w0 h0 w' F:=by
    refine ⟨⟨u.mo.os.trans s.up.ext.os,u.mo.tape.trans s.up.ext.tape,u.mo.output.trans s.up.ext.output,ez s.up.ext.size u.mo.size,fun c D=>?_⟩,s.up.gr.trans u.gr,u.g⟩;rw[u.mo.blk c (e4 D s.up.ext.size) (fun o=>by rw[ul] at o;rw[O.size] at D;omega)];exact Below.block s.up.ext c D
  have a:∀ x∈fJ B j vs,∃ y∈B,y.b=x.b:=by
    intro x f;have:x.b∈(fJ B j vs).map (·.b):=g1.2 ⟨x,f,rfl⟩;rw[z] at this
    obtain ⟨y,l,d⟩:=g1.1 this;exact ⟨y,l,d⟩
  refine ⟨I,?_,?_,?_,by rw[z];exact s.nd⟩
  . intro x f
    obtain ⟨i,hi,d⟩:=yh.1 f;have p:i<B.length:=by simpa [fJ] using hi
    by_cases e:j=i
    . subst e
      have:x={ av B j with vs:=vs }:=by rw[<-d];simp[fJ]
      subst this;exact M
    . have H:x=B[i]:=by rw[<-d];simp[fJ,e]
      subst H
      have J:B[i].b≠(av B j).b:=by
        intro K
        have h1:(B.map (·.b))[i]'(by simpa using p)=(B.map (·.b))[j]'(by simpa using C):=by
          simp only[yi]
          rw[K]
          simp[av,C]
        exact e ((yj s.nd).1 h1).symm
      have L:=s.own _ (gp p)
      show w'.heap[B[i].b]?=_
      rw[u.mo.blk _ L.lt (fun o=>J (ul.1 o))];exact L
  . intro x f
    obtain ⟨y,l,d⟩:=a x f;rw[<-d,u.gr.blk _ (aE (s.jk y l))];exact s.jk y l
  . intro x f
    obtain ⟨y,l,d⟩:=a x f;rw[<-d];exact s.lo y l
theorem Gro.upM {i:Hp}{d:List Nat}{ty:TypeId}{sz:Nat}{v:Value}{m:Nat}{cs:List Value}(r:Gro i d w h ty sz v m cs){w':World}{f:Hp}{b:Nat}(u:UpM [b] w h w' f)(j:b∈d):Gro i d w' f ty sz v m cs :=
 ⟨dD r.own (fun c a=>u.mo.blk c (iP r.own a) (fun e=>by rw[ul] at e;exact r.ap c a (e▸j))),fun c a=>(u.gr.blk c (r.lt a)).trans (r.jk c a),r.ap⟩
theorem eW (s:St w0 h0 w h B){i j:Nat}(hi:decide (i<B.length)=true)(f:decide (j<B.length)=true)(d:(i == j)=false):(av B i).b≠(av B j).b:=by
 have c:=oT hi;have a:=oT f;intro e
 have h1:(B.map (·.b))[i]'(by simpa using c)=(B.map (·.b))[j]'(by simpa using a):=by
  simp only[yi]
  simpa [av,c,a] using e
 have:=(yj s.nd).1 h1;subst this
 simp at d
end
section pub
variable {h0:Hp}{B:List Nat}{w:World}{h:Hp}{ty:TypeId}{sz:Nat}{v:Value}{n:Nat}{cs:List Value}
theorem Gro.pub3 {w0:World}{o:List Bx}{A:Z9}{d a:Nat}(s:St w0 h0 w h o)(r:Gro h0 (o.map (·.b)) w h ty sz (.slice A d a) n cs):∃ y,St w0 h0 w y o/\Gw h y/\(∀ c,(Value.slice A d a).ownBlock≠some c->y[c]?=h[c]?)/\d=n/\n<=a/\(0<n->A=some ⟨aB A,0,none⟩/\aO A=0)/\Seg y (aB A) 0 cs:=by
  rcases r.own with ⟨h1,⟨e,rfl⟩|⟨b,cap',cur,e,hbb,hg,hn,hm,hs,ht⟩⟩
  . injection e with e1 e2 e3
    subst e1 e2 e3;have:cs=[]:=yD (by simpa using h1);subst this;exact ⟨h,s,⟨ey _,fun _ _=>.inl rfl⟩,fun _ _=>rfl,rfl,ey _,fun h=>by omega,fun i v hv=>by simp at hv⟩
  . injection e with e1 e2 e3
    subst e1 e2 e3;have f:=r.jk b rfl;have j:=aE f;have B:∀ x∈o,x.b≠b:=fun x z e=>r.ap b rfl (g1.2 ⟨x,z,e⟩)
    refine ⟨h.setIfInBounds b (.cells cur ty),⟨⟨s.up.ext,⟨by simp;exact s.up.gr.size,fun c p=>?_⟩,⟨by simp;exact s.up.g.size,fun c=>?_⟩⟩,s.own,?_,s.lo,s.nd⟩,⟨by simp,fun c p=>?_⟩,fun c p=>?_,rfl,hn,fun _=>⟨rfl,rfl⟩,?_⟩
    . rw[i2 oM];exact s.up.gr.blk c p
    . by_cases e:b=c
      . subst e;left;rw[yT j];exact hg.symm
      . rw[i2 e];exact s.up.g.blk c
    . intro x z
      rw[i2 (Ne.symm (B x z))];exact s.jk x z
    . by_cases e:b=c
      . subst e;exact .inr f
      . left;rw[i2 e]
    . rw[i2 (fun e=>p (by rw[<-e];rfl))]
    . intro i u l
      unfold cH
      show (match (h.setIfInBounds b (.cells cur ty))[b]? with|some (.cells c _ _)=>c[0+i]?|_=>none)=some u
      rw[yT j];rw[<-ht] at l
      have hi:i<d*sz:=by
        rcases ep i (d*sz) with hl|hl
        . exact hl
        . rw[ws (by simp;omega)] at l;cases l
      rw[ym hi] at l
      simpa using l
theorem Gro.pubo (r:Gro h0 B w h ty sz v n cs){a:Hp}{u:Value}(f:∀ c,u.ownBlock≠some c->a[c]?=h[c]?)(e:Apart v u):Gro h0 B w a ty sz v n cs:=⟨r.own,fun b d=>(f b (e b d)).trans (r.jk b d),r.ap⟩
theorem SlO.of_pub {α:Type}{f:α->List Value}{d:α}{l:List α}{A:Z9}(hf:∀ x,(f x).length=sz)(a:0<l.length->A=some ⟨aB A,0,none⟩/\aO A=0)(b:Seg h (aB A) 0 (l.flatMap f)):SlO sz f d h A l:=by
 rcases yU l.length with h0'|h0'
 ·have:l=[]:=yD h0'
  subst this;exact SlO.nil
 ·obtain ⟨e1,e2⟩:=a h0'
  have:=SlO.of_flat (d:=d) hf b;rw[<-e1] at this
  exact this
end pub
theorem St.pubX {w0:World}{h0:Hp}{w:World}{h:Hp}{B:List Bx}(s:St w0 h0 w h B)(j:Nat)(u:j<B.length):∃ o,St w0 h0 w o (B.eraseIdx j)/\Gw h o/\Seg o (av B j).b 0 (av B j).vs/\o[(av B j).b]?=some (.cells (av B j).vs.toArray (av B j).t (0,0))/\∀ c,c≠(av B j).b->o[c]?=h[c]?:=by
 have z:=a8 u;have H:=s.own _ z;have p:=s.jk _ z;have d:=aE p
 have D:∀ x∈B.eraseIdx j,x.b≠(av B j).b:=by
  intro x a;obtain ⟨i,hi,y⟩:=yh.1 a;rw[yV] at y
  intro l;have f:=s.nd;have F:(av B j)=B[j]:=by unfold av;simp[u]
  split at y
  ·rename_i I
   have:(B.map (·.b))[i]'(by simp;omega)=(B.map (·.b))[j]'(by simpa using u):=by simp only[yi];rw[y,l,F]
   have:=(yj f).1 this
   omega
  ·rename_i I
   have C:i+1<B.length:=by rw[yW u] at hi;omega
   have:(B.map (·.b))[i+1]'(by simpa using C)=(B.map (·.b))[j]'(by simpa using u):=by simp only[yi];rw[y,l,F]
   have:=(yj f).1 this
   omega
 refine ⟨h.setIfInBounds (av B j).b (.cells (av B j).vs.toArray (av B j).t (0,0)),⟨⟨s.up.ext,⟨by simp;exact s.up.gr.size,fun b l=>?_⟩,⟨by simp;exact s.up.g.size,fun b=>?_⟩⟩,?_,?_,?_,?_⟩,⟨by simp,fun b l=>?_⟩,?_,yT d,fun c J=>i2 (Ne.symm J)⟩
 ·have:=s.lo _ z
  rw[i2 oM];exact s.up.gr.blk b l
 ·by_cases e:(av B j).b=b
  ·subst e
   left
   rw[yT d];exact H.symm
  ·rw[i2 e];exact s.up.g.blk b
 ·exact fun x a=>s.own x (yX a)
 ·intro x a
  rw[i2 (Ne.symm (D x a))];exact s.jk x (yX a)
 ·exact fun x a=>s.lo x (yX a)
 ·exact s.nd.sublist ((yY B j).map (·.b))
 ·by_cases e:(av B j).b=b
  ·subst e;exact .inr p
  ·left;rw[i2 e]
 ·intro i v hv
  unfold cH
  rw[yT d]
  simpa using hv
structure Rw where
  ty:TypeId
  sz:Nat
  A:Z9
  c:Nat
  n:Nat
  cs:List Value
  deriving Inhabited
def Rw.v (r:Rw):Value:=.slice r.A r.n r.c
def AllF:List (Hp->Prop)->Hp->Prop
  | [],_=>True
  | p::l,h=>p h/\AllF l h
theorem AllF.q {a b c d:Hp->Prop}{F:List (Hp->Prop)}{h:Hp}(x:AllF (a::b::c::d::F) h):AllF F h:=x.2.2.2.2
theorem AllF.r {a b:Hp->Prop}{F:List (Hp->Prop)}{h:Hp}(x:AllF (a::b::F) h):AllF F h:=x.2.2
theorem AllF.gw:∀ {F:List (Hp->Prop)} {h a:Hp},(∀ p∈F,∀ h a,Gw h a->p h->p a)->Gw h a->AllF F h->AllF F a
 | [],_,_,_,_,_=>trivial
 | p::_,_,_,m,u,x=>⟨m p (by simp) _ _ u x.1,AllF.gw (fun q b=>m q (by simp[b])) u x.2⟩
structure SS (w0:World) (h0:Hp) (w:World) (h:Hp) (B:List Bx) (R:List Rw) (F:List (Hp->Prop)):Prop where
  g0:G w0 h0
  st:St w0 h0 w h B
  ro:∀ r∈R,Gro h0 (B.map (·.b)) w h r.ty r.sz r.v r.n r.cs
  ap:R.Pairwise (fun r s=>Apart r.v s.v)
  mo:∀ p∈F,∀ h h',Gw h h'->p h->p h'
  f:AllF F h
section ss
variable {w0:World}{h0:Hp}{w:World}{h:Hp}{B:List Bx}{R:List Rw}{F:List (Hp->Prop)}
theorem SS.start (g:G w h):SS w h w h [] [] []:=⟨g,St.start g,fun _ a=>(by cases a),.nil,fun _ a=>(by cases a),trivial⟩
theorem SS.g (s:SS w0 h0 w h B R F):G w h:=s.st.g
theorem SS.step (s:SS w0 h0 w h B R F){w':World}{a:Hp}(u:Up w h w' a):SS w0 h0 w' a B R F :=
 ⟨s.g0,s.st.step u,fun r hr=>(s.ro r hr).up u,s.ap,s.mo,s.f.gw s.mo u.gr.gw⟩
theorem SS.add (s:SS w0 h0 w h B R F){K:Hp->Prop}(x:K h)(m:∀ h h',Gw h h'->K h->K h':=by intro _ _ u x;exact x.gw u):SS w0 h0 w h B R (K::F) :=
 ⟨s.g0,s.st,s.ro,s.ap,fun p a=>by
  rcases g3.1 a with rfl|a
  ·exact m
  ·exact s.mo p a,x,s.f⟩
theorem SS.a_SlO {α:Type}{sz:Nat}{f:α->List Value}{d:α}{A:Z9}{l:List α}(s:SS w0 h0 w h B R F)(x:SlO sz f d h A l):SS w0 h0 w h B R ((fun h=>SlO sz f d h A l)::F):=s.add (K:=fun h=>SlO sz f d h A l) x
theorem SS.a_Seg {b o:Nat}{cs:List Value}(s:SS w0 h0 w h B R F)(x:Seg h b o cs):SS w0 h0 w h B R ((fun h=>Seg h b o cs)::F):=s.add (K:=fun h=>Seg h b o cs) x
theorem SS.tl {K:Hp->Prop}(s:SS w0 h0 w h B R (K::F)):SS w0 h0 w h B R F:=⟨s.g0,s.st,s.ro,s.ap,fun p a=>s.mo p (List.mem_cons_of_mem _ a),s.f.2⟩
theorem SS.nil (s:SS w0 h0 w h B R F)(ty:TypeId)(sz:Nat):SS w0 h0 w h B (⟨ty,sz,none,0,0,[]⟩::R) F :=
 ⟨s.g0,s.st,fun r hr=>by
  rcases g3.1 hr with rfl|hr
  ·exact Gro.nil
  ·exact s.ro r hr,List.pairwise_cons.2 ⟨fun _ _=>Apart.nil,s.ap⟩,s.mo,s.f⟩
theorem SS.to (s:SS w0 h0 w h B R F)(a:List Bx)(R':List Rw)(e:B=a:=by kernel_rfl)(e2:R=R':=by kernel_rfl):SS w0 h0 w h a R' F:=e▸e2▸s
theorem lw {j o:Nat}{cs:List Value}(a:j<B.length):(fB B j o cs).map (·.b)=B.map (·.b):=by
 unfold fB
 rw[yd]
 apply ye
 intro i
 by_cases e:j=i
 ·subst e
  rw[yf (by simpa using a)]
  simp[av,a]
 ·rw[yg e]
theorem iT {j:Nat}{vs:List Value}(a:j<B.length):(fJ B j vs).map (·.b)=B.map (·.b):=by
 unfold fJ
 rw[yd]
 apply ye
 intro i
 by_cases e:j=i
 ·subst e
  rw[yf (by simpa using a)]
  simp[av,a]
 ·rw[yg e]
theorem SS.put0 (s:SS w0 h0 w h B R F){j:Nat}{a:List Bx}{w':World}(d:j<B.length)(p:Put (av B j).b w w')(c:St w0 h0 w' h a)(e:a.map (·.b)=B.map (·.b)):SS w0 h0 w' h a R F :=
 ⟨s.g0,c,fun r hr=>by rw[e];exact (s.ro r hr).put p (g1.2 ⟨_,a8 d,rfl⟩),s.ap,s.mo,s.f⟩
theorem SS.new (s:SS w0 h0 w h B R F){w':World}{a:Hp}(u:Up w h w' a){b:Nat}{ty:TypeId}{vs:List Value}(j:h.size<=b)(d:St w0 h0 w' a (⟨b,ty,vs⟩::B)):SS w0 h0 w' a (⟨b,ty,vs⟩::B) R F :=
 ⟨s.g0,d,fun r hr=>((s.ro r hr).up u).new b (fun c i e=>by have:=(s.ro r hr).lt i;omega),s.ap,s.mo,s.f.gw s.mo u.gr.gw⟩
theorem SS.stepM (s:SS w0 h0 w h B R F)(j:Nat){rb:Nat}{vs:List Value}{w':World}{c:Hp}(u:UpM [rb] w h w' c)(d:Own w' rb (av B j).t vs)(i:decide (j<B.length)=true:=by kernel_rfl)(e:(av B j).b=rb:=by kernel_rfl):SS w0 h0 w' c (fJ B j vs) R F:=by
 subst e;have a:=oT i;exact ⟨s.g0,s.st.stepM s.g0 a u d,fun r hr=>by rw[iT a];exact (s.ro r hr).upM u (g1.2 ⟨_,a8 a,rfl⟩),s.ap,s.mo,s.f.gw s.mo u.gr.gw⟩
theorem SS.drop (s:SS w0 h0 w h B R F)(k m:Nat):SS w0 h0 w h (B.drop k) (R.drop m) F :=
 ⟨s.g0,s.st.drop k,fun r hr=>(s.ro r (yH hr)).sub _ (fun b c=>by
  obtain ⟨x,a,e⟩:=g1.1 c;exact g1.2 ⟨x,yH a,e⟩),s.ap.sublist (yI _ _),s.mo,s.f⟩
theorem SS.own (s:SS w0 h0 w h B R F)(j:Nat)(a:decide (j<B.length)=true:=by kernel_rfl):Own w (av B j).b (av B j).t (av B j).vs:=s.st.own _ (a8 (oT a))
theorem SS.jk (s:SS w0 h0 w h B R F)(j:Nat)(a:decide (j<B.length)=true:=by kernel_rfl):h[(av B j).b]?=some a6:=s.st.jk _ (a8 (oT a))
theorem SS.pub (s:SS w0 h0 w h B R F)(j:Nat)(y:decide (j<B.length)=true:=by kernel_rfl):∃ a,SS w0 h0 w a (B.eraseIdx j) R F/\Seg a (av B j).b 0 (av B j).vs/\h0.size<=(av B j).b/\a[(av B j).b]?=some (.cells (av B j).vs.toArray (av B j).t (0,0)):=by
 have c:=oT y;obtain ⟨a,l,gw,u,z,d⟩:=s.st.pubX j c;have i:=a8 c;refine ⟨a,⟨s.g0,l,fun r hr=>((s.ro r hr).out (g1.2 ⟨_,i,rfl⟩) d).sub _ (fun b p=>?_),s.ap,s.mo,s.f.gw s.mo gw⟩,u,s.st.lo _ i,z⟩;obtain ⟨x,o,e⟩:=g1.1 p;exact g1.2 ⟨x,yX o,e⟩
theorem SS.take (s:SS w0 h0 w h B R F){w':World}{i:Hp}(u:Up w h w' i){b:Nat}{ty:TypeId}{vs:List Value}(z:h.size<=b)(f:i[b]?=some (.cells vs.toArray ty (0,0)))(l:(ty == 0)=false:=by kernel_rfl) :
  ∃ j,SS w0 h0 w' j (⟨b,ty,vs⟩::B) R F/\(∀ c,c≠b->j[c]?=i[c]?)/\Gr h j:=by
 have o:=aE f;have p:Gr h (i.setIfInBounds b a6):=⟨by simp;exact u.gr.size,fun c d=>by rw[i2 oM];exact u.gr.blk c d⟩
 have I:G w' (i.setIfInBounds b a6):=⟨by simp;exact u.g.size,fun c=>by
  by_cases e:b=c
  ·subst e;right;rw[yT o]
  ·rw[i2 e];exact u.g.blk c⟩
 have C:Up w h w' (i.setIfInBounds b a6):=⟨u.ext,p,I⟩
 have H:Own w' b ty vs:=by
  rcases u.g.blk b with e|e
  ·exact e.symm.trans f
  ·rw[e] at f
   injection f with f
   unfold a6 at f
   injection f with h1 h2 h3
   rw[<-h2] at l
   cases l
 refine ⟨i.setIfInBounds b a6,s.new C z ⟨s.st.up.trans C,?_,?_,?_,?_⟩,fun c d=>i2 (Ne.symm d),p⟩
 ·intro x a
  rcases g3.1 a with rfl|a
  ·exact H
  ·exact (s.st.own x a).ext u.ext
 ·intro x a
  rcases g3.1 a with rfl|a
  ·exact yT o
  ·rw[p.blk _ (aE (s.st.jk x a))];exact s.st.jk x a
 ·intro x a
  rcases g3.1 a with rfl|a
  ·exact ez s.st.sz z
  ·exact s.st.lo x a
 ·refine g4.2 ⟨fun D=>?_,s.st.nd⟩
  obtain ⟨y,J,K⟩:=g1.1 D;have:=aE (s.st.jk y J);have L:y.b=b:=K
  omega
theorem SS.pubr (s:SS w0 h0 w h B R F)(j:Nat){ty:TypeId}{sz c:Nat}{A:Z9}{α:Type}{f:α->List Value}{l:List α}(d:α)(hf:∀ x,(f x).length=sz)(hr:R.getD j default=⟨ty,sz,A,c,l.length,l.flatMap f⟩:=by kernel_rfl)(L:decide (j<R.length)=true:=by kernel_rfl) :
  ∃ y,SS w0 h0 w y B (R.eraseIdx j) ((fun h=>SlO sz f d h A l)::F)/\l.length<=c:=by
 have a:=oT L;have H:R[j]=⟨ty,sz,A,c,l.length,l.flatMap f⟩:=by rw[<-hr];simp[a]
 have I:R[j]∈R:=gp a;have D:=s.ro _ I;rw[H] at D
 obtain ⟨y,M,gw,K,_,J,hz,O⟩:=Gro.pub3 s.st D
 have z:∀ r∈R.eraseIdx j,Apart r.v R[j].v:=by
  intro r hr;obtain ⟨i,hi,e⟩:=yh.1 hr;rw[yV] at e
  have b:=yZ.1 s.ap
  split at e
  ·rename_i C;rw[<-e];exact b i j oM a C
  ·rename_i C
   rw[<-e];have o:i+1<R.length:=by rw[yW a] at hi;omega
   exact (b j (i+1) a o oM).symm
 refine ⟨y,⟨s.g0,M,fun r hr=>(s.ro r (yX hr)).pubo K (by have:=z r hr;rw[H] at this;exact this),s.ap.sublist (yY R j),fun p b=>by
  rcases g3.1 b with rfl|b
  ·exact fun _ _ u x=>x.gw u
  ·exact s.mo p b,SlO.of_pub hf hz O,s.f.gw s.mo gw⟩,J⟩
theorem SS.grown (s:SS w0 h0 w h B R F){j:Nat}(L:j<R.length){w':World}{v':Value}{m2:Nat}{news:List Value}(Q:w'.ownsRow h0.size R[j].ty R[j].sz v' (R[j].n+m2) (R[j].cs++news))(O:w.grownBy w' R[j].v.ownBlock)(M:v'.ownBlock=R[j].v.ownBlock\/v'.ownBlock=some w.heap.size) :
    ∃ y A c,v'=.slice A (R[j].n+m2) c/\Gr h y/\SS w0 h0 w' y B (R.set j ⟨R[j].ty,R[j].sz,A,c,R[j].n+m2,R[j].cs++news⟩) F:=by
  have S:R[j]∈R:=gp L;have r:=s.ro _ S;obtain ⟨y,C,W,J⟩:=uw s.st s.g0 r O;have U:=r.grown s.st Q M C J
  have I:∃ A c,v'=.slice A (R[j].n+m2) c:=by
    rcases Q with ⟨_,⟨e,e2⟩|⟨g,cap,cur,e,_⟩⟩
    . exact ⟨none,0,by rw[e,e2]⟩
    . exact ⟨_,_,e⟩
  obtain ⟨A,c,e⟩:=I;subst e;have H:=yZ.1 s.ap
  have l:∀ i (hi:i<R.length),i≠j->Apart R[j].v R[i].v:=fun i hi o=>by
    rcases Nat.lt_or_gt_of_ne o with hl|hl
    . exact (H i j hi L hl).symm
    . exact H j i L hi hl
  have d:∀ i (hi:i<R.length),i≠j->Apart (.slice A (R[j].n+m2) c) R[i].v:=fun i hi o =>
    Apart.grown (w:=w) (l i hi o) M (fun b p=>iP (s.ro _ (gp hi)).own p)
  refine ⟨y,A,c,rfl,C,⟨s.g0,W,?_,?_,s.mo,s.f.gw s.mo C.gw⟩⟩
  . intro x V
    obtain ⟨i,hi,z⟩:=yh.1 V;have a:i<R.length:=by simpa using hi
    by_cases e:j=i
    . subst e
      simp at z
      rw[<-z];exact U
    . rw[y2 e] at z
      rw[<-z];exact (s.ro _ (gp a)).app O C (fun b p D=>l i a (Ne.symm e) b D p)
  . refine yZ.2 (fun i k hi hk K=>?_)
    have a:i<R.length:=by simpa using hi
    have u:k<R.length:=by simpa using hk
    by_cases e:j=i
    . subst e
      rw[y3,y2 oM];exact d k u oM
    . by_cases e2:j=k
      . subst e2
        rw[y3,y2 oM];exact (d i a oM).symm
      . rw[y2 e,y2 e2]
        exact H i k a u K
end ss
theorem SS.aS {α:Type}{sz:Nat}{f:α->List Value}{x:α}{A:Z9}{l:List α}{w0 w:World}{h0 h:Hp}{B:List Bx}{R:List Rw}{F:List (Hp->Prop)}(s:SS w0 h0 w h B R F)(p:SlO sz f x h A l):SS w0 h0 w h B R ((fun h=>SlO sz f x h A l)::F):=s.a_SlO p
theorem SS.aP {α β:Type}{sz a:Nat}{f:α->List Value}{x:α}{A:Z9}{l:List α}{g:β->List Value}{y:β}{D:Z9}{m:List β}{w0 w:World}{h0 h:Hp}{B:List Bx}{R:List Rw}{F:List (Hp->Prop)}(s:SS w0 h0 w h B R F)(p:SlO sz f x h A l)(q:SlO a g y h D m):SS w0 h0 w h B R ((fun h=>SlO a g y h D m)::(fun h=>SlO sz f x h A l)::F):=(s.a_SlO p).a_SlO q
section
variable {P:Program}{n:Nat}{N R:Po}{X:Nat->Po}{Γ:bO}{w:World}{h:Hp}
theorem cQ {x y:Code}(H:CG P n (fun a w=>y.wp P (gk N R X) a w) R X x Γ w):CG P n N R X (.seq x y) Γ w:=CG.seq H
theorem cK {y:Code}{N' R':Po}{X':Nat->Po}(H:CG P n N' R' X' y Γ w):CG P n (fun a w=>y.wp P (gk N' R' X') a w) R X .skip Γ w:=CG.skipN H
theorem kQ {id:Nat}{ops:Array Oper}(H:LG P n N R X ops 0 Γ w):CG P n N R X (.region id ops false) Γ w:=CG.listed H
theorem kZ {id:Nat}{c:Code}(H:CG P n N R (fun i=>if i=id then N else X i) c Γ w):CG P n N R X (.block id c) Γ w:=CG.block H
theorem kX (H:∀ a,Kn n a Γ->R a w):CG P n N R X .ret Γ w:=CG.ret H
theorem sS (g:G w h):SS w h w h [] [] []:=SS.start g
end
theorem nR (n:Nat):n<=n:=ey n
theorem fD {n:Int}(h0 : -9223372036854775808<=n)(h1:n<=9223372036854775807):IntKind.wrap .i64 n=n:=by rw[IntKind.wrap_i64];omega
def wI (P:Program)(ρ:Operand->Value)(o:Oper):Option (Value × Value × Nat) :=
  match o.op with
  | .indexAddr t x ix=>match P.underlying t with
    | some (.slice e)=>(P.info? e).map fun i=>(ρ x,ρ ix,i.size)
    | _=>none
  | _=>none
theorem fw {P:Program}{Γ:bO}{o:Oper}{A:Z9}{len a sz:Nat}{i:Int}{k:Nat}(h:wI P (ev Γ) o=some (.slice A len a,.int .i64 i,sz))(c:A=some ⟨aB A,aO A,none⟩)(hk:i=k)(b:k<len)(w:World) :
    (execOp (ev Γ) o).run P w=.ok (.value (.pointer (some ⟨aB A,aO A+k*sz,none⟩))) w:=by
  unfold wI at h
  split at h
  . rename_i t x ix d
    split at h
    . rename_i e f
      cases hi:P.info? e with
      | none=>rw[hi] at h;cases h
      | some inf =>
        rw[hi] at h
        simp only[yb,Option.some.injEq,Prod.mk.injEq] at h
        exact B2 (P:=P) k d h.1 h.2.1 f (by rw[hi];simp[h.2.2]) c hk b w
    . cases h
  . cases h
def B3 (P:Program)(ρ:Operand->Value)(o:Oper):Option (Value × Option Value × Option Value × Nat) :=
  match o.op with
  | .slice t x lo' hi' none=>match P.underlying t with
    | some (.slice e)=>(P.info? e).map fun i=>(ρ x,lo'.map ρ,hi'.map ρ,i.size)
    | _=>none
  | _=>none
theorem Bc {P:Program}{Γ:bO}{o:Oper}{A:Z9}{len a sz:Nat}{i:Int}(k:Nat)(h:B3 P (ev Γ) o=some (.slice A len a,none,some (.int .i64 i),sz))(hk:i=k)(b:k<=a)(w:World) :
    (execOp (ev Γ) o).run P w=.ok (.value (.slice A k a)) w:=by
  unfold B3 at h
  split at h
  . rename_i t x l r c
    split at h
    . rename_i e f
      cases hi:P.info? e with
      | none=>rw[hi] at h;cases h
      | some inf =>
        rw[hi] at h
        simp only[yb,Option.some.injEq,Prod.mk.injEq,y4,ya] at h
        obtain ⟨h1,rfl,⟨y,rfl,d⟩,j⟩:=h;exact Fm (P:=P) k c h1 d f (by rw[hi];rfl) hk b w
    . cases h
  . cases h
theorem ne {P:Program}{Γ:bO}{o:Oper}{A:Z9}{len a sz:Nat}{i:Int}(k:Nat)(h:B3 P (ev Γ) o=some (.slice A len a,some (.int .i64 i),none,sz))(hk:i=k)(b:k<=len)(w:World) :
    (execOp (ev Γ) o).run P w=.ok (.value (.slice (if a=k then A else A.map (·.add (k*sz))) (len-k) (a-k))) w:=by
  unfold B3 at h
  split at h
  . rename_i t x l r c
    split at h
    . rename_i e j
      cases hi:P.info? e with
      | none=>rw[hi] at h;cases h
      | some inf =>
        rw[hi] at h
        simp only[yb,Option.some.injEq,Prod.mk.injEq,y4,ya] at h
        obtain ⟨h1,⟨y,rfl,f⟩,rfl,d⟩:=h;exact BZ (P:=P) k c h1 f j (by rw[hi];simp[d]) hk b w
    . cases h
  . cases h
def EF (P:Program)(ρ:Operand->Value)(o:Oper):Option (Value × Value × TypeId × Value × Nat × Nat) :=
  match o.op with
  | .makeSlice t x y=>match P.underlying t with
    | some (.slice e)=>match P.info? e with
      | some i=>i.zero.map fun z=>(ρ x,ρ y,e,z,i.size,i.bytes)
      | _=>none
    | _=>none
  | _=>none
theorem qg {P:Program}{Γ:bO}{o:Oper}{e:TypeId}{z:Value}{m sz j:Nat}{α:Type}{f:α->List Value}{i:α}(h:EF P (ev Γ) o=some (.int .i64 (m:Int),.int .i64 (m:Int),e,z,sz,j))(b:z.cells.toList=f i)(c:z.cells.size=sz)(a:0<sz)(l:j*m<=140737488355328)(d:m<9223372036854775808)(w:World) :
    (execOp (ev Γ) o).run P w=.ok (.value (.slice (some ⟨w.heap.size,0,none⟩) m m)) (w.alloc (.cells ((yJ m i).flatMap f).toArray e (0,0))):=by
  unfold EF at h
  split at h
  . rename_i t x y u
    split at h
    . rename_i H F
      split at h
      . rename_i p hi
        simp only[ya,Prod.mk.injEq] at h
        obtain ⟨I,hz,h1,D,rfl,rfl,C,B⟩:=h;exact Fj (P:=P) u h1 D F (by rw[hi];simp[hz,C,B]) b c a l d w
      . cases h
    . cases h
  . cases h
def C4 (P:Program)(ρ:Operand->Value)(o:Oper):Option (Value × Value × TypeId × Value × Nat × Nat) :=
  match o.op with
  | .call { callee:=.builtin .append,args:=⟨[x,y]⟩,argTypes:=⟨[t,u]⟩ }=>if t=u then match P.underlying t with
    | some (.slice e)=>match P.info? e with
      | some i=>i.zero.map fun z=>(ρ x,ρ y,e,z,i.size,i.bytes)
      | _=>none
    | _=>none else none
  | _=>none
theorem sq {P:Program}{ρ:Operand->Value}{o:Oper}{r:Value × Value × TypeId × Value × Nat × Nat}(h:C4 P ρ o=some r):∃ x y t,o.op=.call { callee:=.builtin .append,args:=#[x,y],argTypes:=#[t,t] }/\ρ x=r.1/\ρ y=r.2.1/\P.underlying t=some (.slice r.2.2.1)/\(P.info? r.2.2.1).map (fun i=>(i.zero,i.size,i.bytes))=some (some r.2.2.2.1,r.2.2.2.2.1,r.2.2.2.2.2):=by
  unfold C4 at h
  split at h
  . rename_i x y t u b
    split at h
    . rename_i a
      subst a
      split at h
      . rename_i e c
        split at h
        . rename_i d hi
          simp only[ya] at h
          obtain ⟨z,hz,rfl⟩:=h;exact ⟨x,y,t,b,rfl,rfl,c,by rw[hi];simp[hz]⟩
        . cases h
      . cases h
    . cases h
  . cases h
section listed
variable {P:Program}{n:Nat}{N R:Po}{X:Nat->Po}{ops:Array Oper}{k:Nat}{Γ:bO}{w:World}{h:Hp}{w0:World}{h0:Hp}{B:List Bx}{Rs:List Rw}{F:List (Hp->Prop)}
def cL (ops:Array Oper)(Γ:bO)(k t n:Nat):Bool:=fE ops Γ k && ((ak ops k).dst == some t) && decide (t<n) && (bg ops Γ (ak ops k) == some true)
def cS (ops:Array Oper)(Γ:bO)(k:Nat):Bool:=fE ops Γ k && ((ak ops k).dst == none) && (bg ops Γ (ak ops k) == some true)
theorem bF {t:Nat}(h:cL ops Γ k t n=true):(fE ops Γ k && ((ak ops k).dst == some t) && decide (t<n))=true/\bg ops Γ (ak ops k)=some true:=by
 unfold cL at h
 rw[i3] at h
 exact ⟨h.1,by simpa using h.2⟩
theorem gm (h:cS ops Γ k=true):(fE ops Γ k && ((ak ops k).dst == none))=true/\bg ops Γ (ak ops k)=some true:=by
 unfold cS at h
 rw[i3] at h
 exact ⟨h.1,by simpa using h.2⟩
theorem lV (t:Nat)(v:Value)(H:LG P n N R X ops (k+1) ((t,v)::Γ) w)(a:cL ops Γ k t n=true:=by kernel_rfl)(hr:(execOp (ev Γ) (ak ops k)).run P w=.ok (.value v) w:=by kernel_rfl):LG P n N R X ops k Γ w :=
 LG.val t v w (bF a).1 (bF a).2 hr H
theorem lB (t:Nat){e b:Bool}(c:e=b)(H:LG P n N R X ops (k+1) ((t,.bool b)::Γ) w)(a:cL ops Γ k t n=true:=by kernel_rfl)(hr:(execOp (ev Γ) (ak ops k)).run P w=.ok (.value (.bool e)) w:=by kernel_rfl):LG P n N R X ops k Γ w :=
 LG.val t _ w (bF a).1 (bF a).2 (c▸hr) H
theorem lI (t:Nat)(m:Int)(H:LG P n N R X ops (k+1) ((t,.int .i64 m)::Γ) w)(a:cL ops Γ k t n=true:=by kernel_rfl)(hr:(execOp (ev Γ) (ak ops k)).run P w=.ok (.value (.int .i64 (IntKind.wrap .i64 m))) w:=by kernel_rfl)(h0 : -9223372036854775808<=m:=by omega)(h1:m<=9223372036854775807:=by omega):LG P n N R X ops k Γ w :=
 LG.val t _ w (bF a).1 (bF a).2 (by rw[fD h0 h1] at hr;exact hr) H
theorem bA (t:Nat)(m:Int)(j:Nat)(H:LG P n N R X ops (k+1) ((t,.int .i64 (j:Int))::Γ) w)(a:cL ops Γ k t n=true:=by kernel_rfl)(hr:(execOp (ev Γ) (ak ops k)).run P w=.ok (.value (.int .i64 (IntKind.wrap .i64 m))) w:=by kernel_rfl)(b:m=j:=by omega)(h1:m<=9223372036854775807:=by omega):LG P n N R X ops k Γ w :=
 LG.val t _ w (bF a).1 (bF a).2 (by rw[fD oM h1,b] at hr;exact hr) H
theorem lO (t:Nat)(ps:List (Nat × Nat × Nat))(v:Value)(s:SS w0 h0 w h B Rs F)(H:LG P n N R X ops (k+1) ((t,v)::Γ) w)(a:cL ops Γ k t n=true:=by kernel_rfl)(b:cc B ps=true:=by kernel_rfl)(c:bM P (execOp (ev Γ) (ak ops k)) (cI B ps)=some (.value v,bK B ps):=by kernel_rfl):LG P n N R X ops k Γ w :=
 LG.own t ps v s.st (bF a).1 (bF a).2 b c H
def Dp (P:Program)(ops:Array Oper)(B:List Bx):bO->Nat->List (Nat × Value × List (Nat × Nat × Nat))->List (Option (Next × List Addr))
  | _,_,[]=>[]
  | Γ,k,x::l=>bM P (execOp (ev Γ) (ak ops k)) (cI B x.2.2)::Dp P ops B ((x.1,x.2.1)::Γ) (k+1) l
def DP (n:Nat)(ops:Array Oper)(B:List Bx):bO->Nat->List (Nat × Value × List (Nat × Nat × Nat))->Bool
  | _,_,[]=>true
  | Γ,k,x::l=>cL ops Γ k x.1 n && cc B x.2.2 && DP n ops B ((x.1,x.2.1)::Γ) (k+1) l
def qf (Γ:bO):List (Nat × Value × List (Nat × Nat × Nat))->bO
  | []=>Γ
  | x::l=>qf ((x.1,x.2.1)::Γ) l
theorem lS (s:SS w0 h0 w h B Rs F)(l:List (Nat × Value × List (Nat × Nat × Nat)))(H:LG P n N R X ops (k+l.length) (qf Γ l) w)(a:DP n ops B Γ k l=true:=by kernel_rfl)(b:Dp P ops B Γ k l=l.map (fun x=>some (.value x.2.1,bK B x.2.2)):=by kernel_rfl):LG P n N R X ops k Γ w:=by
  induction l generalizing Γ k with
  | nil=>exact H
  | cons x l ih =>
    unfold DP at a
    simp only[i3] at a
    unfold Dp at b
    rw[yR] at b
    injection b with e1 e2
    refine lO x.1 x.2.2 x.2.1 s (ih ?_ a.2 e2) a.1.1 a.1.2 e1;have:k+1+l.length=k+(x::l).length:=by simp;omega
    rw[this];exact H
inductive It where
  | c
  | v (x:Value)
  | o (x:Value) (j a n:Nat)
def nT (ops:Array Oper)(k:Nat):Nat:=(ak ops k).dst.getD 0
def nX (ops:Array Oper)(k:Nat)(Γ:bO):Value:=match (ak ops k).op with
  | .move x=>ev Γ x
  | .assign x=>ev Γ x
  | _=>.tuple #[]
def It.to (ops:Array Oper)(k:Nat)(Γ:bO):It->Nat × Value × List (Nat × Nat × Nat)
  | .c=>(nT ops k,nX ops k Γ,[])
  | .v x=>(nT ops k,x,[])
  | .o x j a n=>(nT ops k,x,[(j,a,n)])
def rE (ops:Array Oper):Nat->bO->List It->List (Nat × Value × List (Nat × Nat × Nat))
  | _,_,[]=>[]
  | k,Γ,x::l=>x.to ops k Γ::rE ops (k+1) (((x.to ops k Γ).1,(x.to ops k Γ).2.1)::Γ) l
theorem wo (ops:Array Oper)(k:Nat)(Γ:bO)(l:List It):(rE ops k Γ l).length=l.length:=by
 induction l generalizing k Γ with
 | nil=>rfl
 | cons x l ih=>show (rE _ _ _ l).length+1=_;rw[ih];rfl
abbrev ac:List It:=[.c]
abbrev aF:List It:=[.c,.c]
abbrev eo:List It:=[.c,.c,.c]
abbrev m9:List It:=[.c,.c,.c,.c]
abbrev FA:List It:=[.c,.c,.c,.c,.c]
abbrev m6:List It:=[.c,.c,.c,.c,.c,.c]
theorem lL (s:SS w0 h0 w h B Rs F)(l:List It)(H:LG P n N R X ops (k+l.length) (qf Γ (rE ops k Γ l)) w)(b:DP n ops B Γ k (rE ops k Γ l)=true:=by kernel_rfl)(a:Dp P ops B Γ k (rE ops k Γ l)=(rE ops k Γ l).map (fun x=>some (.value x.2.1,bK B x.2.2)):=by kernel_rfl):LG P n N R X ops k Γ w :=
 lS s (rE ops k Γ l) (by rw[wo];exact H) b a
theorem lP (j o:Nat)(cs:List Value)(s:SS w0 h0 w h B Rs F)(H:∀ w',SS w0 h0 w' h (fB B j o cs) Rs F->LG P n N R X ops (k+1) Γ w')(c:cS ops Γ k=true:=by kernel_rfl)
  (a:(decide (j<B.length) && decide (o+cs.length<=(av B j).vs.length))=true:=by kernel_rfl)(d:dk P (execOp (ev Γ) (ak ops k))=some (.skip,mB (av B j).b o cs):=by kernel_rfl):LG P n N R X ops k Γ w :=
 LG.put j o cs s.st s.g0 (gm c).1 (gm c).2 a d (fun w' p e=>H w' (s.put0 (oT (i3 _ _▸a).1) p e (lw (oT (i3 _ _▸a).1))))
theorem lA (t:Nat)(ty:TypeId)(vs:List Value)(s:SS w0 h0 w h B Rs F)(H:∀ b w' a,SS w0 h0 w' a (⟨b,ty,vs⟩::B) Rs F->LG P n N R X ops (k+1) ((t,.pointer (some ⟨b,0,none⟩))::Γ) w')(c:cL ops Γ k t n=true:=by kernel_rfl)
  (hr:(execOp (ev Γ) (ak ops k)).run P w=.ok (.value (.pointer (some ⟨w.heap.size,0,none⟩))) (w.alloc (.cells vs.toArray ty (0,0))):=by kernel_rfl):LG P n N R X ops k Γ w :=
 LG.var t ty vs s.st (bF c).1 (bF c).2 hr (fun b w' a d u e=>H b w' a (s.new u d e))
theorem lC (t:Nat){f:FuncId}{args:Array Value}{Φ:Value->Hp->Prop}(s:SS w0 h0 w h B Rs F)(c:Calls P f args w (Ret w h Φ))(H:∀ v w' a,SS w0 h0 w' a B Rs F->Φ v a->LG P n N R X ops (k+1) ((t,v)::Γ) w')(d:cL ops Γ k t n=true:=by kernel_rfl)(hr:(execOp (ev Γ) (ak ops k)).run P w=.ok (.enter f args) w:=by kernel_rfl):LG P n N R X ops k Γ w :=
 LG.call t f args (bF d).1 (bF d).2 hr (c.mono fun e w' ⟨v,a,i,u,b⟩=>⟨v,i,H v w' a (s.step u) b⟩)
theorem i5 (t:Nat){f:FuncId}{args:Array Value}{Φ:Value->Hp->Prop}(c:Calls P f args w (Ret w h Φ))(H:∀ v w' a,Up w h w' a->Φ v a->LG P n N R X ops (k+1) ((t,v)::Γ) w')(d:cL ops Γ k t n=true:=by kernel_rfl)(hr:(execOp (ev Γ) (ak ops k)).run P w=.ok (.enter f args) w:=by kernel_rfl):LG P n N R X ops k Γ w :=
 LG.call t f args (bF d).1 (bF d).2 hr (c.mono fun e w' ⟨v,a,i,u,b⟩=>⟨v,i,H v w' a u b⟩)
theorem eD (t:Nat){f:FuncId}{args:Array Value}{rb:Nat}{Φ:Value->World->Hp->Prop}(c:Calls P f args w (dr rb w h Φ))(H:∀ v w' a,UpM [rb] w h w' a->Φ v w' a->LG P n N R X ops (k+1) ((t,v)::Γ) w')(d:cL ops Γ k t n=true:=by kernel_rfl)(hr:(execOp (ev Γ) (ak ops k)).run P w=.ok (.enter f args) w:=by kernel_rfl):LG P n N R X ops k Γ w :=
 LG.call t f args (bF d).1 (bF d).2 hr (c.mono fun e w' ⟨v,a,i,u,b⟩=>⟨v,i,H v w' a u b⟩)
theorem lH (t:Nat)(v:Value){b o:Nat}{cs:List Value}(s:SS w0 h0 w h B Rs F)(d:Seg h b o cs)(H:LG P n N R X ops (k+1) ((t,v)::Γ) w)(a:cL ops Γ k t n=true:=by kernel_rfl)(c:bM P (execOp (ev Γ) (ak ops k)) cs=some (.value v,kw b o cs.length):=by kernel_rfl):LG P n N R X ops k Γ w :=
 LG.val t v w (bF a).1 (bF a).2 (Seg.run d s.g (Ext.refl _) c) H
theorem FJ (t:Nat)(v:Value){u:Value}{b o:Nat}{cs:List Value}(s:SS w0 h0 w h B Rs F)(d:Seg h b o cs)(e:v=u)(H:LG P n N R X ops (k+1) ((t,u)::Γ) w)(a:cL ops Γ k t n=true:=by kernel_rfl)(c:bM P (execOp (ev Γ) (ak ops k)) cs=some (.value v,kw b o cs.length):=by kernel_rfl):LG P n N R X ops k Γ w :=
 LG.val t u w (bF a).1 (bF a).2 (e▸Seg.run d s.g (Ext.refl _) c) H
theorem lX (t:Nat)(A:Z9)(len a sz:Nat)(i:Int)(j:Nat)(e:A=some ⟨aB A,aO A,none⟩)(H:LG P n N R X ops (k+1) ((t,.pointer (some ⟨aB A,aO A+j*sz,none⟩))::Γ) w)(c:cL ops Γ k t n=true:=by kernel_rfl)(d:wI P (ev Γ) (ak ops k)=some (.slice A len a,.int .i64 i,sz):=by kernel_rfl)(hk:i=j:=by omega)(b:j<len:=by omega):LG P n N R X ops k Γ w :=
 LG.val t _ w (bF c).1 (bF c).2 (fw d e hk b w) H
theorem lT (t:Nat)(A:Z9)(len a sz:Nat)(i:Int)(j:Nat)(H:LG P n N R X ops (k+1) ((t,.slice A j a)::Γ) w)(c:cL ops Γ k t n=true:=by kernel_rfl)(d:B3 P (ev Γ) (ak ops k)=some (.slice A len a,none,some (.int .i64 i),sz):=by kernel_rfl)(hk:i=j:=by omega)(b:j<=a:=by omega):LG P n N R X ops k Γ w :=
 LG.val t _ w (bF c).1 (bF c).2 (Bc j d hk b w) H
theorem lF (t:Nat)(A:Z9)(len a sz:Nat)(i:Int)(j:Nat)(H:LG P n N R X ops (k+1) ((t,.slice (if a=j then A else A.map (·.add (j*sz))) (len-j) (a-j))::Γ) w)(c:cL ops Γ k t n=true:=by kernel_rfl)(d:B3 P (ev Γ) (ak ops k)=some (.slice A len a,some (.int .i64 i),none,sz):=by kernel_rfl)(hk:i=j:=by omega)(b:j<=len:=by omega):LG P n N R X ops k Γ w :=
 LG.val t _ w (bF c).1 (bF c).2 (ne j d hk b w) H
theorem lR (t:Nat)(ty:TypeId)(m:Nat)(cs:List Value)(s:SS w0 h0 w h B Rs F)(H:∀ b w' a,SS w0 h0 w' a B Rs ((fun h=>Seg h b 0 cs)::F)->LG P n N R X ops (k+1) ((t,.slice (some ⟨b,0,none⟩) m m)::Γ) w')(c:cL ops Γ k t n=true:=by kernel_rfl)
  (hr:(execOp (ev Γ) (ak ops k)).run P w=.ok (.value (.slice (some ⟨w.heap.size,0,none⟩) m m)) (w.alloc (.cells cs.toArray ty (0,0))):=by kernel_rfl):LG P n N R X ops k Γ w :=
 LG.row t ty m cs s.g (bF c).1 (bF c).2 hr (fun b w' a u d=>H b w' a ((s.step u).a_Seg d))
theorem lK {α:Type}(t:Nat)(ty:TypeId)(m sz o:Nat)(z:Value)(f:α->List Value)(j:α)(s:SS w0 h0 w h B Rs F)(H:∀ b w' c,SS w0 h0 w' c (⟨b,ty,(yJ m j).flatMap f⟩::B) Rs F->LG P n N R X ops (k+1) ((t,.slice (some ⟨b,0,none⟩) m m)::Γ) w')(l:cL ops Γ k t n=true:=by kernel_rfl)
  (y:EF P (ev Γ) (ak ops k)=some (.int .i64 (m:Int),.int .i64 (m:Int),ty,z,sz,o):=by kernel_rfl)(d:z.cells.toList=f j:=by kernel_rfl)(e:z.cells.size=sz:=by kernel_rfl)(a:0<sz:=by decide)(p:o*m<=140737488355328:=by omega)(i:m<9223372036854775808:=by omega):LG P n N R X ops k Γ w :=
 LG.arr t ty m _ s.st (bF l).1 (bF l).2 (qg y d e a p i w) (fun b w' c x u C=>H b w' c (s.new u x C))
theorem lQ {α:Type}(t j:Nat)(l:List α)(f:α->List Value)(sz:Nat)(d:α)(e:Nat)(v:Value)(s:SS w0 h0 w h B Rs F)(hk:e<l.length)(H:LG P n N R X ops (k+1) ((t,v)::Γ) w)(a:cL ops Γ k t n=true:=by kernel_rfl)
  (i:decide (j<B.length)=true:=by kernel_rfl)(hB:(av B j).vs=l.flatMap f:=by kernel_rfl)(hf:∀ x,(f x).length=sz:=by intro _;rfl)
  (c:bM P (execOp (ev Γ) (ak ops k)) (f (l.getD e d))=some (.value v,kw (av B j).b (0+e*sz) (f (l.getD e d)).length):=by kernel_rfl):LG P n N R X ops k Γ w :=
 LG.ownA t j l f sz d e v s.st (bF a).1 (bF a).2 i hB hf hk c H
theorem lW {α:Type}(j:Nat)(l:List α)(f:α->List Value)(sz e:Nat)(x:α)(s:SS w0 h0 w h B Rs F)(hk:e<l.length)(H:∀ w',SS w0 h0 w' h (fJ B j ((l.set e x).flatMap f)) Rs F->LG P n N R X ops (k+1) Γ w')(c:cS ops Γ k=true:=by kernel_rfl)
  (a:decide (j<B.length)=true:=by kernel_rfl)(hB:(av B j).vs=l.flatMap f:=by kernel_rfl)(hf:∀ x,(f x).length=sz:=by intro _;rfl)
  (d:dk P (execOp (ev Γ) (ak ops k))=some (.skip,mB (av B j).b (0+e*sz) (f x)):=by kernel_rfl):LG P n N R X ops k Γ w :=
 LG.putA j l f sz e x s.st s.g0 (gm c).1 (gm c).2 a hB hf hk d (fun w' p i=>H w' (s.put0 (oT a) p i (iT (oT a))))
theorem kc {R:List Rw}{j:Nat}{r:Rw}(hr:R.getD j default=r)(a:j<R.length):R[j]=r:=by rw[<-hr];simp[a]
theorem FF (t j:Nat){ty:TypeId}{sz c m:Nat}{A:Z9}{cs:List Value}{I m2 c2:Nat}{z:Value}{a:Addr}(news:List Value)(s:SS w0 h0 w h B Rs F)(b:∀ i u,news[i]?=some u->w.cell? (a.add i)=some u)(O:news.length=m2*sz)(h1:∀ u∈news,u.oneCell'=true)(J:j<Rs.length)(hr:Rs[j]=⟨ty,sz,A,c,m,cs⟩)
  (D:cL ops Γ k t n=true)(U:C4 P (ev Γ) (ak ops k)=some (.slice A m c,.slice (some a) m2 c2,ty,z,sz,I))(p:z.cells.size=sz)(d:0<sz)(K:m+m2<=1099511627776)(L:(m+m2)*I<=140737488355328)
  (H:∀ l c' w' o,SS w0 h0 w' o B (Rs.set j ⟨ty,sz,l,c',m+m2,cs++news⟩) F->LG P n N R X ops (k+1) ((t,.slice l (m+m2) c')::Γ) w'):LG P n N R X ops k Γ w:=by
 obtain ⟨x,y,ty',M,S,Q,Y,hi⟩:=sq U;have r:=s.ro _ (gp J);rw[hr] at r
 obtain ⟨v',w',f,Z,V,e⟩:=qi (P:=P) M S Q Y hi p d s.st r O b h1 K L;have C:=s.grown (j:=j) J (w':=w') (v':=v') (m2:=m2) (news:=news) (by rw[hr];exact Z) (by rw[hr];exact V) (by rw[hr];exact e);rw[hr] at C
 obtain ⟨o,l,c',rfl,_,W⟩:=C;exact LG.val t _ w' (bF D).1 (bF D).2 f (H l c' w' o W)
theorem nN {α:Type}{f:α->List Value}{l:List α}{x:α}:l.flatMap f++f x=(l++[x]).flatMap f:=by simp
theorem lY {α:Type}(t j:Nat)(ty:TypeId)(sz c:Nat)(A:Z9)(l:List α)(f:α->List Value)(x:α)(p b:Nat)(z:Value)(s:SS w0 h0 w h B Rs F)(O:Seg h b 0 (f x))
  (H:∀ e c' w' i,SS w0 h0 w' i B (Rs.set j ⟨ty,sz,e,c',(l++[x]).length,(l++[x]).flatMap f⟩) F->LG P n N R X ops (k+1) ((t,.slice e (l++[x]).length c')::Γ) w')
  (J:cL ops Γ k t n=true:=by kernel_rfl)(K:C4 P (ev Γ) (ak ops k)=some (.slice A l.length c,.slice (some ⟨b,0,none⟩) 1 1,ty,z,sz,p):=by kernel_rfl)(o:z.cells.size=sz:=by kernel_rfl)(a:0<sz:=by decide)
  (hr:Rs.getD j default=⟨ty,sz,A,c,l.length,l.flatMap f⟩:=by kernel_rfl)(L:decide (j<Rs.length)=true:=by kernel_rfl)(h1:(f x).all (·.oneCell')=true:=by kernel_rfl)(I:(f x).length=1*sz:=by kernel_rfl)(C:l.length+1<=1099511627776:=by omega)(D:(l.length+1)*p<=140737488355328:=by omega):LG P n N R X ops k Γ w:=by
 have d:=oT L;refine FF t j (f x) s (j9 s.g O) I (fun u M=>(oi.1 h1) u M) d (kc hr d) J K o a C D (fun e c' w' i y=>?_);have e1:l.length+1=(l++[x]).length:=by simp
 rw[nN,e1] at y
 rw[e1];exact H e c' w' i y
end listed
section code
variable {P:Program}{n:Nat}{N R:Po}{X:Nat->Po}{Γ:bO}{w:World}
theorem aD {id:Nat}{ops:Array Oper}{y:Code}(H:LG P n (fun a w=>y.wp P (gk N R X) a w) R X ops 0 Γ w):CG P n N R X (.seq (.region id ops false) y) Γ w:=CG.seq (CG.listed H)
theorem bY {c:Operand}{x y:Code}(a:CG P n N R X x Γ w)(b:fT Γ c=true:=by kernel_rfl)(hv:ev Γ c=.bool true:=by kernel_rfl):CG P n N R X (.cond c x y) Γ w:=CG.condT b hv a
theorem cG {c:Operand}{x y:Code}(a:CG P n N R X y Γ w)(b:fT Γ c=true:=by kernel_rfl)(hv:ev Γ c=.bool false:=by kernel_rfl):CG P n N R X (.cond c x y) Γ w:=CG.condF b hv a
theorem bS {c:Code}(Γ':bO)(H:CG P n N R X c Γ' w)(a:iE Γ (Γ'.map (·.1))=Γ':=by kernel_rfl)(b:fl Γ'=fl Γ:=by kernel_rfl):CG P n N R X c Γ w:=CG.to Γ' a b H
theorem lN {ops:Array Oper}{k:Nat}{y:Code}{N' R':Po}{X':Nat->Po}(H:CG P n N' R' X' y Γ w)(b:(k == ops.size)=true:=by kernel_rfl):LG P n (fun a w=>y.wp P (gk N' R' X') a w) R X ops k Γ w:=LG.next b H
theorem aK {ops:Array Oper}{k:Nat}{id:Nat}{b:Array Oper}{y:Code}{N' R':Po}{X':Nat->Po}(H:LG P n (fun a w=>y.wp P (gk N' R' X') a w) R' X' b 0 Γ w)(c:(k == ops.size)=true:=by kernel_rfl):LG P n (fun a w=>(Code.seq (.region id b false) y).wp P (gk N' R' X') a w) R X ops k Γ w:=lN (aD H) c
theorem lD {ops:Array Oper}{k:Nat}(H:∀ a,Kn n a Γ->N a w)(b:(k == ops.size)=true:=by kernel_rfl):LG P n N R X ops k Γ w:=LG.done b H
theorem lG {ops:Array Oper}{k:Nat}(t:Nat)(H:LG P n N R X ops (k+1) ((t,undef)::Γ) w)(b:(decide (k<ops.size) && ((ak ops k).dst == some t) && decide (t<n))=true:=by kernel_rfl)(a:bg ops Γ (ak ops k)=some false:=by kernel_rfl):LG P n N R X ops k Γ w:=LG.out t b a H
theorem SS.ret {b:Func}{Φ:Value->Hp->Prop}{w0:World}{h0:Hp}{h:Hp}{B:List Bx}{Rs:List Rw}{F:List (Hp->Prop)}(s:SS w0 h0 w h B Rs F)(ps:List (Nat × Nat × Nat))(v:Value)(c:Φ v h)(hk:(lM b Γ && cc B ps)=true:=by kernel_rfl)(d:bM P (nJ b Γ) (cI B ps)=some (v,bK B ps):=by kernel_rfl):∀ a,Kn n a Γ->lk P b (Ret w0 h0 Φ) a w:=E3 s.st ps v hk d c
theorem SS.retM {b:Func}{rb:Nat}{Φ:Value->World->Hp->Prop}{w0 wz:World}{h0 hz:Hp}{h:Hp}{B:List Bx}{Rs:List Rw}{F:List (Hp->Prop)}(s:SS wz hz w h B Rs F)(d:UpM [rb] w0 h0 w h)(ps:List (Nat × Nat × Nat))(v:Value)(c:Φ v w h)(hk:(lM b Γ && cc B ps)=true:=by kernel_rfl)(e:bM P (nJ b Γ) (cI B ps)=some (v,bK B ps):=by kernel_rfl):∀ a,Kn n a Γ->lk P b (dr rb w0 h0 Φ) a w:=Go.Proofs.YtmdaaeffcfheoaaGreatDoor.retM s.st d ps v hk e c
theorem go {f:FuncId}{a:Func}{c:Code}{args:Array Value}{e:Ending->World->Prop}(hf:P.funcs[f]?=some a)(Γ0:bO)(h:a.body=some c)(H:CG P a.ntmps (lk P a e) (lk P a e) (fun _ _ _=>False) c Γ0 w)(i:Nat.ble args.size a.ntmps=true:=by kernel_rfl)(d:Γ0=envOf args.toList:=by kernel_rfl)(b:Nat.ble a.ntmps 1000000=true:=by kernel_rfl):Calls P f args w e :=
 enter hf h rfl (y5 i) (y5 b) Γ0 d H
end code
section
variable {P:Program}{n:Nat}{N R N' R' R2:Po}{X X' X2:Nat->Po}{Γ:bO}{w w0:World}{h h0:Hp}{B:List Bx}{Rs:List Rw}{F:List (Hp->Prop)}{ops:Array Oper}{k:Nat}
theorem ao (t:Nat){f:FuncId}{args:Array Value}{x:Value}(s:SS w0 h0 w h B Rs F)(c:Calls P f args w (Ret w h fun v _=>v=x))(H:∀ w1 h1,SS w0 h0 w1 h1 B Rs F->LG P n N R X ops (k+1) ((t,x)::Γ) w1)(b:cL ops Γ k t n=true:=by kernel_rfl)(hr:(execOp (ev Γ) (ak ops k)).run P w=.ok (.enter f args) w:=by kernel_rfl):LG P n N R X ops k Γ w:=lC t s c (fun v w1 h1 a e=>by subst e;exact H w1 h1 a) b hr
theorem aa {id:Nat}{y:Code}(s:SS w0 h0 w h B Rs F)(l:List It)(H:LG P n (fun a w=>y.wp P (gk N R X) a w) R X ops (0+l.length) (qf Γ (rE ops 0 Γ l)) w)(c:DP n ops B Γ 0 (rE ops 0 Γ l)=true:=by kernel_rfl)(b:Dp P ops B Γ 0 (rE ops 0 Γ l)=(rE ops 0 Γ l).map (fun x=>some (.value x.2.1,bK B x.2.2)):=by kernel_rfl):CG P n N R X (.seq (.region id ops false) y) Γ w:=aD (lL s l H c b)
theorem af {x y:Code}(H:CG P n (fun a w=>y.wp P (gk N' R' X') a w) R' X' x Γ w)(b:(k==ops.size)=true:=by kernel_rfl):LG P n (fun a w=>(Code.seq x y).wp P (gk N' R' X') a w) R X ops k Γ w:=lN (CG.seq H) b
theorem ba {id:Nat}{c:Code}(H:CG P n N' R' (fun i=>if i=id then N' else X' i) c Γ w)(b:(k==ops.size)=true:=by kernel_rfl):LG P n (fun a w=>(Code.block id c).wp P (gk N' R' X') a w) R X ops k Γ w:=lN (CG.block H) b
theorem aj {c:Operand}{x y:Code}(H:CG P n N' R' X' y Γ w)(b:(k==ops.size)=true:=by kernel_rfl)(hi:fT Γ c=true:=by kernel_rfl)(hv:ev Γ c=.bool false:=by kernel_rfl):LG P n (fun a w=>(Code.cond c x y).wp P (gk N' R' X') a w) R X ops k Γ w:=lN (cG H hi hv) b
theorem ar {c:Operand}{x y:Code}(H:CG P n N' R' X' x Γ w)(b:(k==ops.size)=true:=by kernel_rfl)(hi:fT Γ c=true:=by kernel_rfl)(hv:ev Γ c=.bool true:=by kernel_rfl):LG P n (fun a w=>(Code.cond c x y).wp P (gk N' R' X') a w) R X ops k Γ w:=lN (bY H hi hv) b
theorem ae {b:Func}{Φ:Value->Hp->Prop}(s:SS w0 h0 w h B Rs F)(ps:List (Nat×Nat×Nat))(v:Value)(c:Φ v h)(e:(k==ops.size)=true:=by kernel_rfl)(hk:(lM b Γ&&cc B ps)=true:=by kernel_rfl)(d:bM P (nJ b Γ) (cI B ps)=some (v,bK B ps):=by kernel_rfl):LG P n (fun a w=>Code.ret.wp P (gk N' (lk P b (Ret w0 h0 Φ)) X') a w) R X ops k Γ w:=lN (CG.ret (s.ret ps v c hk d)) e
end
section drawn
variable {M:Ms}{P:Program}{n:Nat}{N R:Po}{X:Nat->Po}{ops:Array Oper}{k0:Nat}{hr:Hp}{AL:List Al}{L:Array Bool}{Γ:bO}{w:World}{h:Hp}{w0:World}{h0:Hp}{B:List Bx}{Rs:List Rw}{F:List (Hp->Prop)}
def cE (n:Nat)(ops:Array Oper)(k0:Nat)(AL:List Al)(L:Array Bool)(Γ:bO)(i t:Nat):Bool:=cZ n ops k0 AL L i t && a7 Γ (ak ops i) && (bg ops Γ (ak ops i) == some true)
def wh (n:Nat)(ops:Array Oper)(k0:Nat)(AL:List Al)(L:Array Bool)(Γ:bO)(i t:Nat):Bool:=cZ n ops k0 AL L i t && a7 Γ (ak ops i) && gh ops k0 i && (bg ops Γ (ak ops i) == some true)
def x2 (n:Nat)(ops:Array Oper)(k0:Nat)(AL:List Al)(L:Array Bool)(Γ:bO)(i t:Nat):Bool:=kY n ops k0 AL L i t && a7 Γ (ak ops i) && (bg ops Γ (ak ops i) == some true)
theorem iU {i t:Nat}(h:cE n ops k0 AL L Γ i t=true):(cZ n ops k0 AL L i t && a7 Γ (ak ops i))=true/\bg ops Γ (ak ops i)=some true:=by
 unfold cE at h;rw[i3] at h;exact ⟨h.1,by simpa using h.2⟩
theorem g5 {i t:Nat}(h:wh n ops k0 AL L Γ i t=true):(cZ n ops k0 AL L i t && a7 Γ (ak ops i) && gh ops k0 i)=true/\bg ops Γ (ak ops i)=some true:=by
 unfold wh at h;rw[i3] at h;exact ⟨h.1,by simpa using h.2⟩
theorem gH {i t:Nat}(h:x2 n ops k0 AL L Γ i t=true):(kY n ops k0 AL L i t && a7 Γ (ak ops i))=true/\bg ops Γ (ak ops i)=some true:=by
 unfold x2 at h;rw[i3] at h;exact ⟨h.1,by simpa using h.2⟩
theorem eV (i t:Nat)(v:Value)(H:EG M P n N R X ops k0 hr AL (L.setIfInBounds i true) ((t,v)::Γ) w h)(a:cE n ops k0 AL L Γ i t=true:=by kernel_rfl)(hv:∀ w,(execOp (ev Γ) (ak ops i)).run P w=.ok (.value v) w:=by intro _;kernel_rfl):EG M P n N R X ops k0 hr AL L Γ w h :=
 Rg.pure i t v (iU a).1 (iU a).2 hv H
theorem eB (i t:Nat){e b:Bool}(c:e=b)(H:EG M P n N R X ops k0 hr AL (L.setIfInBounds i true) ((t,.bool b)::Γ) w h)(a:cE n ops k0 AL L Γ i t=true:=by kernel_rfl)(hv:∀ w,(execOp (ev Γ) (ak ops i)).run P w=.ok (.value (.bool e)) w:=by intro _;kernel_rfl):EG M P n N R X ops k0 hr AL L Γ w h :=
 Rg.pure i t _ (iU a).1 (iU a).2 (fun w=>c▸hv w) H
theorem eI (i t:Nat)(m:Int)(H:EG M P n N R X ops k0 hr AL (L.setIfInBounds i true) ((t,.int .i64 m)::Γ) w h)(a:cE n ops k0 AL L Γ i t=true:=by kernel_rfl)(hv:∀ w,(execOp (ev Γ) (ak ops i)).run P w=.ok (.value (.int .i64 (IntKind.wrap .i64 m))) w:=by intro _;kernel_rfl)(h0 : -9223372036854775808<=m:=by omega)(h1:m<=9223372036854775807:=by omega):EG M P n N R X ops k0 hr AL L Γ w h :=
 Rg.pure i t _ (iU a).1 (iU a).2 (fun w=>by have:=hv w;rw[fD h0 h1] at this;exact this) H
theorem km (i t:Nat)(m:Int)(j:Nat)(H:EG M P n N R X ops k0 hr AL (L.setIfInBounds i true) ((t,.int .i64 (j:Int))::Γ) w h)(a:cE n ops k0 AL L Γ i t=true:=by kernel_rfl)(hv:∀ w,(execOp (ev Γ) (ak ops i)).run P w=.ok (.value (.int .i64 (IntKind.wrap .i64 m))) w:=by intro _;kernel_rfl)(b:m=j:=by omega)(h1:m<=9223372036854775807:=by omega):EG M P n N R X ops k0 hr AL L Γ w h :=
 Rg.pure i t _ (iU a).1 (iU a).2 (fun w=>by have:=hv w;rw[fD oM h1,b] at this;exact this) H
theorem eG (i t:Nat)(H:EG M P n N R X ops k0 hr AL (L.setIfInBounds i true) ((t,undef)::Γ) w h)(b:cZ n ops k0 AL L i t=true:=by kernel_rfl)(a:bg ops Γ (ak ops i)=some false:=by kernel_rfl):EG M P n N R X ops k0 hr AL L Γ w h:=Rg.skip i t b a H
theorem eO (i t:Nat)(ps:List (Nat × Nat × Nat))(v:Value)(s:SS w0 h0 w h B Rs F)(H:EG M P n N R X ops k0 hr AL (L.setIfInBounds i true) ((t,v)::Γ) w h)(hM:∀ p∈ps,(av B p.1).b ∉ M.l:=by intro _ _;exact List.not_mem_nil)(a:wh n ops k0 AL L Γ i t=true:=by kernel_rfl)(c:cc B ps=true:=by kernel_rfl)(d:bM P (execOp (ev Γ) (ak ops i)) (cI B ps)=some (.value v,bK B ps):=by kernel_rfl):EG M P n N R X ops k0 hr AL L Γ w h :=
 Rg.own i t ps v s.st (g5 a).1 (g5 a).2 hM c d H
theorem eH (i t:Nat)(v:Value){b o:Nat}{cs:List Value}(s:SS w0 h0 w h B Rs F)(e:Seg h b o cs)(H:EG M P n N R X ops k0 hr AL (L.setIfInBounds i true) ((t,v)::Γ) w h)(hM:∀ b∈M.l,h[b]?=some a6:=by intro _ hb;cases hb)(a:wh n ops k0 AL L Γ i t=true:=by kernel_rfl)(d:bM P (execOp (ev Γ) (ak ops i)) cs=some (.value v,kw b o cs.length):=by kernel_rfl):EG M P n N R X ops k0 hr AL L Γ w h :=
 Rg.load i t v (g5 a).1 (g5 a).2 (fun _ c=>Seg.runM e s.g hM c d) H
theorem FY (i t:Nat)(v:Value){u:Value}{b o:Nat}{cs:List Value}(s:SS w0 h0 w h B Rs F)(f:Seg h b o cs)(e:v=u)(H:EG M P n N R X ops k0 hr AL (L.setIfInBounds i true) ((t,u)::Γ) w h)(hM:∀ b∈M.l,h[b]?=some a6:=by intro _ hb;cases hb)(a:wh n ops k0 AL L Γ i t=true:=by kernel_rfl)(d:bM P (execOp (ev Γ) (ak ops i)) cs=some (.value v,kw b o cs.length):=by kernel_rfl):EG M P n N R X ops k0 hr AL L Γ w h :=
 Rg.load i t u (g5 a).1 (g5 a).2 (fun _ c=>e▸Seg.runM f s.g hM c d) H
theorem eX (i t:Nat)(A:Z9)(len a sz:Nat)(x:Int)(j:Nat)(e:A=some ⟨aB A,aO A,none⟩)(H:EG M P n N R X ops k0 hr AL (L.setIfInBounds i true) ((t,.pointer (some ⟨aB A,aO A+j*sz,none⟩))::Γ) w h)(c:cE n ops k0 AL L Γ i t=true:=by kernel_rfl)(d:wI P (ev Γ) (ak ops i)=some (.slice A len a,.int .i64 x,sz):=by kernel_rfl)(hk:x=j:=by omega)(b:j<len:=by omega):EG M P n N R X ops k0 hr AL L Γ w h :=
 Rg.pure i t _ (iU c).1 (iU c).2 (fw d e hk b) H
theorem eQ {α:Type}(i t j:Nat)(l:List α)(f:α->List Value)(sz:Nat)(d:α)(e:Nat)(v:Value)(s:SS w0 h0 w h B Rs F)(hk:e<l.length)(H:EG M P n N R X ops k0 hr AL (L.setIfInBounds i true) ((t,v)::Γ) w h)(hM:(av B j).b ∉ M.l:=by exact List.not_mem_nil)(a:wh n ops k0 AL L Γ i t=true:=by kernel_rfl)
  (o:decide (j<B.length)=true:=by kernel_rfl)(hB:(av B j).vs=l.flatMap f:=by kernel_rfl)(hf:∀ x,(f x).length=sz:=by intro _;rfl)
  (c:bM P (execOp (ev Γ) (ak ops i)) (f (l.getD e d))=some (.value v,kw (av B j).b (0+e*sz) (f (l.getD e d)).length):=by kernel_rfl):EG M P n N R X ops k0 hr AL L Γ w h :=
 Rg.ownA i t j l f sz d e v s.st (g5 a).1 (g5 a).2 hM o hB hf hk c H
theorem eC (i t:Nat){f:FuncId}{args:Array Value}{Φ:World->Hp->Value->Hp->Prop}(s:SS w0 h0 w h B Rs F)(c:∀ w1 h1,SS w0 h0 w1 h1 B Rs F->Calls P f args w1 (Ret w1 h1 (Φ w1 h1)))(H:∀ w1 h1 v w' a,SS w0 h0 w' a B Rs F->Φ w1 h1 v a->EG M P n N R X ops k0 hr AL (L.setIfInBounds i true) ((t,v)::Γ) w' a)(j:x2 n ops k0 AL L Γ i t=true:=by kernel_rfl)(hv:∀ w,(execOp (ev Γ) (ak ops i)).run P w=.ok (.enter f args) w:=by intro _;kernel_rfl):EG M P n N R X ops k0 hr AL L Γ w h :=
 Rg.call i t f args (gH j).1 (gH j).2 hv (fun w1 h1 u=>(c w1 h1 (s.step u)).mono fun e w' ⟨v,a,o,d,b⟩=>⟨v,a,o,d.m M.l,H w1 h1 v w' a ((s.step u).step d) b⟩)
theorem eR (i t:Nat)(ty:TypeId)(m:Nat)(cs:List Value)(s:SS w0 h0 w h B Rs F)(H:∀ b w' a,SS w0 h0 w' a B Rs ((fun h=>Seg h b 0 cs)::F)->EG M P n N R X ops k0 hr AL (L.setIfInBounds i true) ((t,.slice (some ⟨b,0,none⟩) m m)::Γ) w' a)(c:x2 n ops k0 AL L Γ i t=true:=by kernel_rfl)
  (hv:∀ w,(execOp (ev Γ) (ak ops i)).run P w=.ok (.value (.slice (some ⟨w.heap.size,0,none⟩) m m)) (w.alloc (.cells cs.toArray ty (0,0))):=by intro _;kernel_rfl):EG M P n N R X ops k0 hr AL L Γ w h :=
 Rg.row i t ty m cs (gH c).1 (gH c).2 hv (fun b w' a u d=>H b w' a ((s.step u).a_Seg d))
theorem eY {α:Type}(i t j:Nat)(ty:TypeId)(sz c:Nat)(A:Z9)(l:List α)(f:α->List Value)(x:α)(Z b:Nat)(z:Value)(s:SS w0 h0 w h B Rs F)(sg:∀ h,AllF F h->Seg h b 0 (f x))(V:∀ b,(Value.slice A l.length c).ownBlock=some b->b∈M.l)
  (H:∀ O c' w' I,SS w0 h0 w' I B (Rs.set j ⟨ty,sz,O,c',(l++[x]).length,(l++[x]).flatMap f⟩) F->EG M P n N R X ops k0 hr AL (L.setIfInBounds i true) ((t,.slice O (l++[x]).length c')::Γ) w' I)
  (K:x2 n ops k0 AL L Γ i t=true:=by kernel_rfl)(he:C4 P (ev Γ) (ak ops i)=some (.slice A l.length c,.slice (some ⟨b,0,none⟩) 1 1,ty,z,sz,Z):=by kernel_rfl)(U:z.cells.size=sz:=by kernel_rfl)(p:0<sz:=by decide)
  (S:Rs.getD j default=⟨ty,sz,A,c,l.length,l.flatMap f⟩:=by kernel_rfl)(hj:decide (j<Rs.length)=true:=by kernel_rfl)(h1:(f x).all (·.oneCell')=true:=by kernel_rfl)(hl:(f x).length=1*sz:=by kernel_rfl)(hm:l.length+1<=1099511627776:=by omega)(hb:(l.length+1)*Z<=140737488355328:=by omega):EG M P n N R X ops k0 hr AL L Γ w h:=by
 have d:=oT hj;refine Rg.event i t (gH K).1 (gH K).2 (fun w1 h1' u=>?_);have D:=s.step u;obtain ⟨x',y,ty',ho,hx,hy,W,hi⟩:=sq he;have r:=D.ro _ (gp d);have J:=kc S d;rw[J] at r
 obtain ⟨v',w',a,ow,o,C⟩:=qi (P:=P) ho hx hy W hi U p D.st r hl (j9 D.g (sg _ D.f)) (fun u W=>(oi.1 h1) u W) hm hb;have Y:=D.grown (j:=j) d (w':=w') (v':=v') (m2:=1) (news:=f x) (by rw[J];exact ow) (by rw[J];exact o) (by rw[J];exact C);rw[J] at Y
 obtain ⟨I,O,c',rfl,e2,Q⟩:=Y;have e1:l.length+1=(l++[x]).length:=by simp
 simp only[] at Q
 rw[nN,e1] at Q
 rw[e1] at a
 exact .inl ⟨_,w',I,a,⟨⟨o.os,o.tape,o.output,o.size,fun c K hn=>o.block c K (fun e=>hn (V c e.symm))⟩,e2,Q.g⟩,H O c' w' I Q⟩
theorem bW (s:SS w0 h0 w h B Rs F)(H:∀ w' a,SS w0 h0 w' a B Rs F->AG M P n N R X ops k0 L Γ w')(b:eu ops [] L=true:=by kernel_rfl):EG M P n N R X ops k0 hr [] L Γ w h:=Rg.fin0 b (fun w' a u=>H w' a (s.step u))
def cT (n:Nat)(ops:Array Oper)(k0:Nat)(L:Array Bool)(Γ:bO)(i t:Nat):Bool:=gT ops k0 L i && a7 Γ (ak ops i) && ((ak ops i).dst == some t) && decide (t<n) && (bg ops Γ (ak ops i) == some true)
def C0 (ops:Array Oper)(k0:Nat)(L:Array Bool)(Γ:bO)(i:Nat):Bool:=gT ops k0 L i && a7 Γ (ak ops i) && ((ak ops i).dst == none) && (bg ops Γ (ak ops i) == some true)
theorem rh {i t:Nat}(h:cT n ops k0 L Γ i t=true):(gT ops k0 L i && a7 Γ (ak ops i) && ((ak ops i).dst == some t) && decide (t<n))=true/\bg ops Γ (ak ops i)=some true:=by
 unfold cT at h;rw[i3] at h;exact ⟨h.1,by simpa using h.2⟩
theorem i9 {i:Nat}(h:C0 ops k0 L Γ i=true):(gT ops k0 L i && a7 Γ (ak ops i) && ((ak ops i).dst == none))=true/\bg ops Γ (ak ops i)=some true:=by
 unfold C0 at h;rw[i3] at h;exact ⟨h.1,by simpa using h.2⟩
theorem tV (i t:Nat)(v:Value)(H:AG M P n N R X ops k0 (L.setIfInBounds i true) ((t,v)::Γ) w)(a:cT n ops k0 L Γ i t=true:=by kernel_rfl)(hv:(execOp (ev Γ) (ak ops i)).run P w=.ok (.value v) w:=by kernel_rfl):AG M P n N R X ops k0 L Γ w:=T.val i t v w (rh a).1 (rh a).2 hv H
theorem tP (i j o:Nat)(cs:List Value)(s:SS w0 h0 w h B Rs F)(H:∀ w',SS w0 h0 w' h (fB B j o cs) Rs F->AG M P n N R X ops k0 (L.setIfInBounds i true) Γ w')(c:C0 ops k0 L Γ i=true:=by kernel_rfl)
  (a:(decide (j<B.length) && decide (o+cs.length<=(av B j).vs.length))=true:=by kernel_rfl)(d:dk P (execOp (ev Γ) (ak ops i))=some (.skip,mB (av B j).b o cs):=by kernel_rfl)(hz:∀ K bs,M.z=some (K,bs)->K<=(av B j).b\/(av B j).b∈bs:=by intro _ _ e;cases e):AG M P n N R X ops k0 L Γ w :=
 T.put i j o cs s.st s.g0 (i9 c).1 (i9 c).2 a d (fun w' p f=>H w' (s.put0 (oT (i3 _ _▸a).1) p f (lw (oT (i3 _ _▸a).1)))) hz
theorem tW {α:Type}(i j:Nat)(l:List α)(f:α->List Value)(sz e:Nat)(x:α)(s:SS w0 h0 w h B Rs F)(hk:e<l.length)(H:∀ w',SS w0 h0 w' h (fJ B j ((l.set e x).flatMap f)) Rs F->AG M P n N R X ops k0 (L.setIfInBounds i true) Γ w')(c:C0 ops k0 L Γ i=true:=by kernel_rfl)
  (a:decide (j<B.length)=true:=by kernel_rfl)(hB:(av B j).vs=l.flatMap f:=by kernel_rfl)(hf:∀ x,(f x).length=sz:=by intro _;rfl)
  (d:dk P (execOp (ev Γ) (ak ops i))=some (.skip,mB (av B j).b (0+e*sz) (f x)):=by kernel_rfl)(hz:∀ K bs,M.z=some (K,bs)->K<=(av B j).b\/(av B j).b∈bs:=by intro _ _ e;cases e):AG M P n N R X ops k0 L Γ w :=
 T.putA i j l f sz e x s.st s.g0 (i9 c).1 (i9 c).2 a hB hf hk d (fun w' p o=>H w' (s.put0 (oT a) p o (iT (oT a)))) hz
theorem tN {y:Code}{N' R':Po}{X':Nat->Po}(H:CG P n N' R' X' y Γ w)(b:(Region.ready .any ops L).isEmpty=true:=by kernel_rfl):AG M P n (fun a w=>y.wp P (gk N' R' X') a w) R X ops k0 L Γ w:=T.next b H
theorem qQ {id:Nat}{b:Array Oper}{y:Code}{N' R':Po}{X':Nat->Po}(H:LG P n (fun a w=>y.wp P (gk N' R' X') a w) R' X' b 0 Γ w)(c:(Region.ready .any ops L).isEmpty=true:=by kernel_rfl):AG M P n (fun a w=>(Code.seq (.region id b false) y).wp P (gk N' R' X') a w) R X ops k0 L Γ w:=tN (aD H) c
theorem tD (H:∀ a,Kn n a Γ->N a w)(b:(Region.ready .any ops L).isEmpty=true:=by kernel_rfl):AG M P n N R X ops k0 L Γ w:=T.done b H
theorem cR {id:Nat}{d:Bool}(k0:Nat)(AL:List Al)(c:P.follows .mixedOrders=true)(s:SS w0 h0 w h B Rs F)(b:∀ x∈AL,AlOk P ops k0 x)(H:EG ⟨[],none⟩ P n N R X ops k0 h AL (vl ops.size false) Γ w h)(a:jn ops=true:=by kernel_rfl):CG P n N R X (.region id ops d) Γ w :=
 CG.region ⟨[],none⟩ k0 AL c a s.g b (fun _ e=>by cases e) H
end drawn
theorem ai {M:Ms}{P:Program}{n:Nat}{N R:Po}{X:Nat->Po}{ops:Array Oper}{k0:Nat}{hr:Hp}{AL:List Al}{L:Array Bool}{Γ:bO}{w w0:World}{h h0:Hp}{B:List Bx}{Rs:List Rw}{F:List (Hp->Prop)}(i t:Nat){f:FuncId}{args:Array Value}{x:Value}(s:SS w0 h0 w h B Rs F)(c:∀ w1 h1,SS w0 h0 w1 h1 B Rs F->Calls P f args w1 (Ret w1 h1 fun v _=>v=x))(H:∀ w1 h1,SS w0 h0 w1 h1 B Rs F->EG M P n N R X ops k0 hr AL (L.setIfInBounds i true) ((t,x)::Γ) w1 h1)(a:x2 n ops k0 AL L Γ i t=true:=by kernel_rfl)(hv:∀ w,(execOp (ev Γ) (ak ops i)).run P w=.ok (.enter f args) w:=by intro _;kernel_rfl):EG M P n N R X ops k0 hr AL L Γ w h:=eC i t s c (fun _ _ v w1 h1 b e=>by subst e;exact H w1 h1 b) a hv
theorem xd {w:World}{h:Hp}(g:G w h){b:Nat}{ty:TypeId}{vs:List Value}(f:h[b]?=some a6)(o:Own w b ty vs):∃ d,G w d/\Gw h d/\Seg d b 0 vs/\∀ c,c≠b->d[c]?=h[c]?:=by
 have a:=aE f;refine ⟨h.setIfInBounds b (.cells vs.toArray ty (0,0)),⟨by simp;exact g.size,fun c=>?_⟩,⟨by simp,fun c j=>?_⟩,fun i v hv=>?_,fun c j=>i2 (Ne.symm j)⟩
 ·by_cases e:b=c
  ·subst e;left;rw[yT a];exact o.symm
  ·rw[i2 e];exact g.blk c
 ·by_cases e:b=c
  ·subst e;exact .inr f
  ·left;rw[i2 e]
 ·unfold cH
  rw[yT a]
  simpa using hv
theorem oO {w w':World}{h j d:Hp}{b:Nat}(l:h[b]?=some a6)(o:∀ c,c≠b->j[c]?=h[c]?)(f:j.size=h.size)(u:Up w j w' d):∃ i,Up w h w' i:=by
 have p:=aE l;have a:b<d.size:=e4 oM u.gr.size;refine ⟨d.setIfInBounds b a6,u.ext,⟨by simp;rw[<-f];exact u.gr.size,fun c x=>?_⟩,⟨by simp;exact u.g.size,fun c=>?_⟩⟩
 ·by_cases e:b=c
  ·subst e;rw[yT a,l]
  ·rw[i2 e,u.gr.blk c oM,o c (Ne.symm e)]
 ·by_cases e:b=c
  ·subst e;right;rw[yT a]
  ·rw[i2 e];exact u.g.blk c
theorem G.sz {w:World}{h a:Hp}(g:G w h)(b:G w a):a.size=h.size:=by rw[<-g.size,<-b.size]
section lent
variable {M:Ms}{P:Program}{n:Nat}{N R:Po}{X:Nat->Po}{ops:Array Oper}{k k0:Nat}{hr:Hp}{AL:List Al}{L:Array Bool}{Γ:bO}{w:World}{h:Hp}{w0:World}{h0:Hp}{B:List Bx}{Rs:List Rw}{F:List (Hp->Prop)}
theorem SS.lends (s:SS w0 h0 w h B Rs F){j:Nat}(y:j<B.length){f:FuncId}{args:Array Value}{Φ:Value->Prop}(c:∀ a,G w a->AllF F a->Seg a (av B j).b 0 (av B j).vs->Calls P f args w (Ret w a (fun v _=>Φ v))):Calls P f args w (Ret w h (fun v _=>Φ v)):=by
 have d:=a8 y;obtain ⟨a,g,gw,z,o⟩:=xd s.g (s.st.jk _ d) (s.st.own _ d);refine (c a g (s.f.gw s.mo gw) z).mono ?_;rintro e w' ⟨v,C,x,u,i⟩;obtain ⟨l,p⟩:=oO (s.st.jk _ d) o (s.g.sz g) u;exact ⟨v,l,x,p,i⟩
theorem E7 (t j:Nat){f:FuncId}{args:Array Value}{Φ:Value->Prop}(s:SS w0 h0 w h B Rs F)(c:∀ hp,G w hp->AllF F hp->Seg hp (av B j).b 0 (av B j).vs->Calls P f args w (Ret w hp (fun v _=>Φ v)))(H:∀ v w' h',SS w0 h0 w' h' B Rs F->Φ v->LG P n N R X ops (k+1) ((t,v)::Γ) w')(a:decide (j<B.length)=true:=by kernel_rfl)(d:cL ops Γ k t n=true:=by kernel_rfl)(hr:(execOp (ev Γ) (ak ops k)).run P w=.ok (.enter f args) w:=by kernel_rfl):LG P n N R X ops k Γ w :=
 lC t s (s.lends (oT a) c) H d hr
end lent
section unroll
variable {P:Program}{n:Nat}{N R:Po}{X:Nat->Po}{Γ:bO}{w:World}
def FE (P:Program)(N R:Po)(X:Nat->Po)(c:Code)(a:Act)(w:World):Prop:=∀ (b:Frame) (k:List Item) (cs:List Frame),∃ e a' w',gk N R X e a' w'/\Arrives P (lone (b.at a (.code c::.inLoop c::k)) cs w) b k cs e a' w'
def CL (P:Program)(n:Nat)(N R:Po)(X:Nat->Po)(c:Code)(Γ:bO)(w:World):Prop:=∀ a,Kn n a Γ->FE P N R X c a w
theorem cU {c:Code}(H:CL P n N R X c Γ w):CG P n N R X (.loop c) Γ w:=fun a f b k cs=>by
 obtain ⟨e,i,w',h,d⟩:=H a f b k cs;exact ⟨e,i,w',h,.of_steps (.one step_loop) d⟩
theorem cN {c:Code}(H:CG P n (FE P N R X c) R X c Γ w):CL P n N R X c Γ w:=fun a z b k cs=>by
  obtain ⟨e,i,h,o,d⟩:=H a z b (.inLoop c::k) cs;cases e with
  | normal =>
    obtain ⟨u,y,p,j,f⟩:=o b k cs;exact ⟨u,y,p,j,.of_steps (Steps.trans d (.one step_inLoop)) f⟩
  | exit id=>exact ⟨.exit id,i,h,o,.pass (x:=.inLoop c) rfl (fun _ _=>.inl (by simp)) d⟩
  | goto l=>exact o.elim
  | ret=>exact ⟨.ret,i,h,o,.pass (x:=.inLoop c) rfl (fun _ _=>.inl (by simp)) d⟩
  | panic ch=>exact o.elim
  | outgrown=>exact o.elim
theorem CL.to {c:Code}(Γ':bO)(H:CL P n N R X c Γ' w)(d:iE Γ (Γ'.map (·.1))=Γ':=by kernel_rfl)(e:fl Γ'=fl Γ:=by kernel_rfl):CL P n N R X c Γ w:=fun a b=>H a (b.to Γ' d e)
end unroll
def Nw (K:Nat)(h:Hp)(b:Nat)(t:TypeId)(cs:List Value):Prop:=K<=b/\t≠0/\h[b]?=some (.cells cs.toArray t (0,0))
theorem Nw.gw {K:Nat}{h c:Hp}{b:Nat}{t:TypeId}{cs:List Value}(x:Nw K h b t cs)(u:Gw h c):Nw K c b t cs:=by
 obtain ⟨h1,d,a⟩:=x;refine ⟨h1,d,?_⟩
 rcases u.blk b (aE a) with e|e
 ·exact e.trans a
 ·rw[e] at a
  injection a with a
  unfold a6 at a
  injection a with _ h4
  exact absurd h4.symm d
theorem Nw.seg {K:Nat}{h:Hp}{b:Nat}{t:TypeId}{cs sp:List Value}(x:Nw K h b t (cs++sp)):Seg h b 0 cs:=fun i v hv=>by
 unfold cH
 rw[x.2.2];have hi:i<cs.length:=(y6.1 hv).1
 simp only[yF,List.getElem?_toArray]
 rw[yl hi];exact hv
theorem Nw.seg0 {K:Nat}{h:Hp}{b:Nat}{t:TypeId}{cs:List Value}(x:Nw K h b t cs):Seg h b 0 cs:=Nw.seg (sp:=[]) (by rw[List.append_nil];exact x)
section laws
variable {M:Ms}{P:Program}{n:Nat}{N R:Po}{X:Nat->Po}{ops:Array Oper}{k k0:Nat}{hr:Hp}{AL:List Al}{L:Array Bool}{Γ:bO}{w:World}{h:Hp}{w0:World}{h0:Hp}{B:List Bx}{Rs:List Rw}{F:List (Hp->Prop)}
theorem SlO.flat {α:Type}{sz:Nat}{f:α->List Value}{d:α}{A:Z9}:∀ {l:List α},(∀ x,(f x).length=sz)->SlO sz f d h A l->Seg h (aB A) (aO A) (l.flatMap f)
  | l,hf,s=>fun i v hv=>by
    have hi:i<(l.flatMap f).length:=(y6.1 hv).1;rw[dQ hf] at hi
    rcases yU sz with h0'|hp
    . subst h0';simp at hi
    . have hk:i/sz<l.length:=(y7 hp).2 hi
      have hr:i%sz<sz:=yM _ hp;have b:=s.el (i/sz) hk (i%sz) v;have c:=fh hf d l (i/sz) hk;have a:i/sz*sz+i%sz=i:=by rw[y8];exact Nat.div_add_mod i sz
      have:=b (by rw[<-c,ym hr,yn,a];exact hv)
      rwa [yr,a] at this
theorem rB {b o:Nat}{news:List Value}(g:G w h)(c:Seg h b o news):∀ j u,news[j]?=some u->w.cell? ((⟨b,o,none⟩:Addr).add j)=some u:=by
 intro j u a;have:=jc g (c j u a)
 unfold Addr.add
 split
 ·rename_i h0;subst h0;exact this
 ·exact this
theorem kH (j o:Nat)(cs:List Value)(s:SS w0 h0 w h B Rs F)(H:∀ w',Put (av B j).b w w'->SS w0 h0 w' h (fB B j o cs) Rs F->LG P n N R X ops (k+1) Γ w')(c:cS ops Γ k=true:=by kernel_rfl)
  (a:(decide (j<B.length) && decide (o+cs.length<=(av B j).vs.length))=true:=by kernel_rfl)(d:dk P (execOp (ev Γ) (ak ops k))=some (.skip,mB (av B j).b o cs):=by kernel_rfl):LG P n N R X ops k Γ w :=
 LG.put j o cs s.st s.g0 (gm c).1 (gm c).2 a d (fun w' p e=>H w' p (s.put0 (oT (i3 _ _▸a).1) p e (lw (oT (i3 _ _▸a).1))))
theorem tX (i t:Nat)(A:Z9)(len a sz:Nat)(x:Int)(j:Nat)(e:A=some ⟨aB A,aO A,none⟩)(H:AG M P n N R X ops k0 (L.setIfInBounds i true) ((t,.pointer (some ⟨aB A,aO A+j*sz,none⟩))::Γ) w)(c:cT n ops k0 L Γ i t=true:=by kernel_rfl)(d:wI P (ev Γ) (ak ops i)=some (.slice A len a,.int .i64 x,sz):=by kernel_rfl)(hk:x=j:=by omega)(b:j<len:=by omega):AG M P n N R X ops k0 L Γ w :=
 T.val i t _ w (rh c).1 (rh c).2 (fw d e hk b w) H
theorem eK {α:Type}(i t:Nat)(ty:TypeId)(m sz C:Nat)(z:Value)(f:α->List Value)(d:α)(s:SS w0 h0 w h B Rs F)(H:∀ b w' h',SS w0 h0 w' h' (⟨b,ty,(yJ m d).flatMap f⟩::B) Rs F->EG M P n N R X ops k0 hr AL (L.setIfInBounds i true) ((t,.slice (some ⟨b,0,none⟩) m m)::Γ) w' h')(y:x2 n ops k0 AL L Γ i t=true:=by kernel_rfl)
  (I:EF P (ev Γ) (ak ops i)=some (.int .i64 (m:Int),.int .i64 (m:Int),ty,z,sz,C):=by kernel_rfl)(j:z.cells.toList=f d:=by kernel_rfl)(o:z.cells.size=sz:=by kernel_rfl)(c:0<sz:=by decide)(D:C*m<=140737488355328:=by omega)(p:m<9223372036854775808:=by omega):EG M P n N R X ops k0 hr AL L Γ w h :=
 Rg.event i t (gH y).1 (gH y).2 (fun w1 h1 u=>by
  have a:=s.step u;have e:Up w1 h1 (w1.alloc (.cells ((yJ m d).flatMap f).toArray ty (0,0))) (h1.push a6):=Up.allocAny a.g _ _ (.inr rfl);refine .inl ⟨_,_,_,qg I j o c D p w1,e.m M.l,H _ _ _ (a.new e (by rw[a.g.size];exact ey _) (St.new1 (x:=⟨0,0,.cells ((yJ m d).flatMap f).toArray ty (0,0)⟩) a.st (a.st.step e) ⟨?_,?_,?_⟩ ty _ rfl))⟩
  ·rw[heap_alloc];exact fo
  ·rw[a.g.size];exact fo
  ·show h1.size<=w1.heap.size;rw[a.g.size];exact ey _)
theorem SS.blkp {F1:List (Hp->Prop)}{wr:World}{x:Al}{b:Nat}(a:List Bx)(j:SS w0 h0 wr hr B Rs F1)(s:SS w0 h0 w h (a++B) Rs F)(k:Blk hr w h (x,b))(t:TypeId)(vs:List Value)(l:x.o=.cells vs.toArray t (0,0))(u:a.all (fun y=>y.t != t)=true):SS w0 h0 w h (⟨b,t,vs⟩::(a++B)) Rs F :=
 ⟨s.g0,St.new j.st s.st (fun y d=>by
  rcases gx.1 d with d|d
  ·right
   intro e;have h1:=s.st.own y (List.mem_append_left _ d);have p:w.heap[b]?=some x.o:=k.1
   unfold Own at h1
   rw[e,p,l] at h1
   injection h1 with h1
   injection h1 with _ h3
   have:=(oi.1 u) y d
   simp only[bne_iff_ne,ne_eq] at this
   exact this h3.symm
  ·exact .inl (aE (j.st.jk y d))) k t vs l,fun r i=>(s.ro r i).new b (fun c z e=>by
  have h1:=(j.ro r i).lt z;have p:hr.size<=b:=k.2.2
  omega),s.ap,s.mo,s.f⟩
theorem dm {F1:List (Hp->Prop)}{wr:World}{x:Al}(a:List Bx)(f:SS w0 h0 wr hr B Rs F1)(s:SS w0 h0 w h (a++B) Rs F)(t:TypeId)(vs:List Value)(H:∀ w' c b,SS w0 h0 w' c (⟨b,t,vs⟩::(a++B)) Rs F->AG M P n N R X ops k0 (L.setIfInBounds x.i true) ((x.t,.pointer (some ⟨b,0,none⟩))::Γ) w')(j:(eu ops [x] L && decide (x.t<n))=true:=by kernel_rfl)(d:x.o=.cells vs.toArray t (0,0):=by kernel_rfl)(e:a.all (fun y=>y.t != t)=true:=by kernel_rfl):EG M P n N R X ops k0 hr [x] L Γ w h :=
 Rg.fin1 j (fun w' c b u k=>H w' c b (SS.blkp a f (s.step u) k t vs d e))
end laws
theorem SS.at_ {w:World}{h:Hp}{rb:Nat}{t:TypeId}{vs:List Value}(g:G w h)(o:Own w rb t vs)(j:h[rb]?=some a6):∃ w0 h0,SS w0 h0 w h [⟨rb,t,vs⟩] [] []:=by
 obtain ⟨w0,h0,b,c⟩:=St.at_ g o j;exact ⟨w0,h0,b,c,fun _ a=>(by cases a),.nil,fun _ a=>(by cases a),trivial⟩
theorem SlO.take {α:Type}{sz:Nat}{f:α->List Value}{d:α}{h:Hp}{A:Z9}{l:List α}(s:SlO sz f d h A l)(k:Nat):SlO sz f d h A (l.take k) :=
 ⟨fun a=>s.ok (by rw[y9] at a;omega),fun i hi=>by
  rw[y9] at hi
  have:=s.el i oM
  rwa [zh,ym oM,<-zh]⟩
theorem SlO.drop {α:Type}{sz:Nat}{f:α->List Value}{d:α}{h:Hp}{A:Z9}{l:List α}(s:SlO sz f d h A l)(k c:Nat)(j:l.length<=c):SlO sz f d h (if c=k then A else A.map (·.add (k*sz))) (l.drop k):=by
 rcases ep k l.length with hk|hk
 ·rw[if_neg oM]
  have b:=s.ok oM
  have a:(⟨aB A,aO A,none⟩:Addr).add (k*sz)=⟨aB A,aO A+k*sz,none⟩:=by
   unfold Addr.add
   split
   ·rename_i h0;rw[h0];rfl
   ·rfl
  have e:A.map (·.add (k*sz))=some ⟨aB A,aO A+k*sz,none⟩:=by rw[b];simp only[yb,aB,aO] at a ⊢;rw[<-a]
  refine ⟨fun _=>by rw[e];rfl,fun i hi=>?_⟩;rw[e]
  show Seg h (aB A) (aO A+k*sz+i*sz) _
  rw[zy] at hi
  have:=s.el (k+i) oM;rw[zF,<-yr] at this
  rwa [zh,yn,<-zh]
 ·rw[yC hk];exact SlO.nil
theorem AC (x y:Int):(if y>x then y else x)=max x y:=by omega
theorem tS (x y:Int):(if y<x then y else x)=min x y:=by omega
section z
variable {bs:List Nat}{P:Program}{n:Nat}{N R:Po}{X:Nat->Po}{ops:Array Oper}{k0:Nat}{hr:Hp}{AL:List Al}{L:Array Bool}{Γ:bO}{w wr:World}{h:Hp}{w0:World}{h0:Hp}{B:List Bx}{Rs:List Rw}{F F1:List (Hp->Prop)}
abbrev Mz (hr:Hp)(bs:List Nat):Ms:=⟨[],some (hr.size,bs)⟩
theorem wQ {id:Nat}{d:Bool}(k0:Nat)(AL:List Al)(bs:List Nat)(c:P.follows .mixedOrders=true)(s:SS w0 h0 w h B Rs F)(b:∀ x∈AL,AlOk P ops k0 x)(H:EG (Mz h bs) P n N R X ops k0 h AL (vl ops.size false) Γ w h)(a:jn ops=true:=by kernel_rfl):CG P n N R X (.region id ops d) Γ w :=
 CG.region (Mz h bs) k0 AL c a s.g b (fun _ e=>by cases e) H
theorem DW (e:SS w0 h0 wr hr B Rs F1)(s:SS w0 h0 w h B Rs F){w':World}(c:∀ b,b<hr.size->b ∉ bs->b ∉ ([]:List Nat)->w'.heap[b]?=w.heap[b]?):∀ x∈B,x.b ∉ bs->Own w' x.b x.t x.vs:=fun x a d =>
 (c x.b (aE (e.st.jk x a)) d List.not_mem_nil).trans (s.st.own x a)
theorem rF (i t:Nat)(ps:List (Nat × Nat × Nat))(v:Value)(f:SS w0 h0 wr hr B Rs F1)(s:SS w0 h0 w h B Rs F)(H:EG (Mz hr bs) P n N R X ops k0 hr AL (L.setIfInBounds i true) ((t,v)::Γ) w h)(hM:∀ p∈ps,(av B p.1).b ∉ bs:=by intro _ _;exact List.not_mem_nil)(a:cE n ops k0 AL L Γ i t=true:=by kernel_rfl)(c:cc B ps=true:=by kernel_rfl)(e:bM P (execOp (ev Γ) (ak ops i)) (cI B ps)=some (.value v,bK B ps):=by kernel_rfl):EG (Mz hr bs) P n N R X ops k0 hr AL L Γ w h :=
 Rg.loadZ i t v rfl (iU a).1 (iU a).2 (fun w' d=>ce _ _ _ _ e (fr hM (DW f s d) ps (fun _ h=>h) c)) H
theorem B6 {x y:Al}(D:SS w0 h0 wr hr B Rs F)(s:SS w0 h0 w h B Rs F)(t:TypeId)(vs:List Value)(I:TypeId)(j:List Value)(H:∀ w' p b c,hr.size<=b->hr.size<=c->SS w0 h0 w' p (⟨b,t,vs⟩::⟨c,I,j⟩::B) Rs F->AG (Mz hr bs) P n N R X ops k0 ((L.setIfInBounds y.i true).setIfInBounds x.i true) ((x.t,.pointer (some ⟨b,0,none⟩))::(y.t,.pointer (some ⟨c,0,none⟩))::Γ) w')(K:(eu ops [x,y] L && decide (x.t<n) && decide (y.t<n) && (x.t != y.t) && (x.i != y.i))=true:=by kernel_rfl)(J:x.o=.cells vs.toArray t (0,0):=by kernel_rfl)(C:y.o=.cells j.toArray I (0,0):=by kernel_rfl):EG (Mz hr bs) P n N R X ops k0 hr [x,y] L Γ w h :=
 Rg.fin2 K (fun w' p b c u k k2 z=>H w' p b c k.2.2 k2.2.2 ⟨s.g0,St.new2 D.st (s.st.step u) k k2 z t vs J I j C,fun r a=>(((s.step u).ro r a).new c (fun d l e=>by
  have h1:=(D.ro r a).lt l;have M:hr.size<=c:=k2.2.2
  omega)).new b (fun d l e=>by
  have h1:=(D.ro r a).lt l;have M:hr.size<=b:=k.2.2
  omega),s.ap,s.mo,(s.step u).f⟩)
theorem eZ {b:Nat}(c:hr.size<=b):∀ K a,(Mz hr bs).z=some (K,a)->K<=b\/b∈a:=fun K a e=>by
 injection e with e
 injection e with e1 e2
 subst e1;exact .inl c
theorem eP {b:Nat}(c:b∈bs):∀ K a,(Mz hr bs).z=some (K,a)->K<=b\/b∈a:=fun K a e=>by
 injection e with e
 injection e with e1 e2
 subst e2;exact .inr c
end z
section
variable {bs:List Nat}{P:Program}{n:Nat}{N R:Po}{X:Nat->Po}{ops:Array Oper}{k0:Nat}{hr:Hp}{AL:List Al}{L:Array Bool}{Γ:bO}{w wr:World}{h:Hp}{w0:World}{h0:Hp}{B:List Bx}{Rs:List Rw}{F F1:List (Hp->Prop)}
theorem Fh {x y:Al}(D:SS w0 h0 wr hr B Rs F1)(s:SS w0 h0 w h B Rs F)(t:TypeId)(vs:List Value)(I:TypeId)(j:List Value)(H:∀ w' p b c,hr.size<=b->hr.size<=c->SS w0 h0 w' p (⟨b,t,vs⟩::⟨c,I,j⟩::B) Rs F->AG (Mz hr bs) P n N R X ops k0 ((L.setIfInBounds y.i true).setIfInBounds x.i true) ((x.t,.pointer (some ⟨b,0,none⟩))::(y.t,.pointer (some ⟨c,0,none⟩))::Γ) w')(K:(eu ops [x,y] L && decide (x.t<n) && decide (y.t<n) && (x.t != y.t) && (x.i != y.i))=true:=by kernel_rfl)(J:x.o=.cells vs.toArray t (0,0):=by kernel_rfl)(C:y.o=.cells j.toArray I (0,0):=by kernel_rfl):EG (Mz hr bs) P n N R X ops k0 hr [x,y] L Γ w h :=
 Rg.fin2 K (fun w' p b c u k k2 z=>H w' p b c k.2.2 k2.2.2 ⟨s.g0,St.new2 D.st (s.st.step u) k k2 z t vs J I j C,fun r a=>(((s.step u).ro r a).new c (fun d l e=>by
  have h1:=(D.ro r a).lt l;have M:hr.size<=c:=k2.2.2
  omega)).new b (fun d l e=>by
  have h1:=(D.ro r a).lt l;have M:hr.size<=b:=k.2.2
  omega),s.ap,s.mo,(s.step u).f⟩)
end
theorem mixed:Tryz.prog.follows .mixedOrders=true:=by kernel_rfl
theorem rb {s:Result Next}{e b:Bool}{w:World}(h:s=.ok (.value (.bool e)) w)(a:e=b):s=.ok (.value (.bool b)) w:=a▸h
theorem aY {s:Result Next}{k:IntKind}{n m:Int}{w:World}(h:s=.ok (.value (.int k n)) w)(e:n=m):s=.ok (.value (.int k m)) w:=e▸h
theorem rU {s:Result Next}{m:Int}{w:World}(x:Int)(h:s=.ok (.value (.int .u64 (IntKind.wrap .u64 x))) w)(e:IntKind.wrap .u64 x=m):s=.ok (.value (.int .u64 m)) w:=aY (n:=IntKind.wrap .u64 x) h e
theorem rS {s:Result Next}{m:Int}{w:World}(x:Int)(h:s=.ok (.value (.int .i64 (IntKind.wrap .i64 x))) w)(e:IntKind.wrap .i64 x=m):s=.ok (.value (.int .i64 m)) w:=aY (n:=IntKind.wrap .i64 x) h e
theorem rT {s:Result Next}{m:Int}{w:World}(x:Int)(h:s=.ok (.value (.int .u32 (IntKind.wrap .u32 x))) w)(e:IntKind.wrap .u32 x=m):s=.ok (.value (.int .u32 m)) w:=aY (n:=IntKind.wrap .u32 x) h e
theorem vJ (n:Nat):IntKind.wrap .u8 (n:Int)=((n%256:Nat):Int):=by rw[IntKind.wrap_u8];omega
theorem tC (n:Nat):IntKind.wrap .u32 (n:Int)=((n%4294967296:Nat):Int):=by rw[IntKind.wrap_u32];omega
theorem su (n:Nat):IntKind.wrap .u64 (n:Int)=((n%18446744073709551616:Nat):Int):=by rw[IntKind.wrap_u64];omega
theorem oQ {n:Int}(h0:0<=n)(h:n<4294967296):IntKind.wrap .u32 n=n:=by rw[IntKind.wrap_u32];omega
theorem bD {n:Int}(h0:0<=n)(h:n<18446744073709551616):IntKind.wrap .u64 n=n:=by rw[IntKind.wrap_u64];omega
theorem mc {n:Int}(h0 : -9223372036854775808<=n)(h:n<9223372036854775808):IntKind.wrap .i64 n=n:=by rw[IntKind.wrap_i64];omega
theorem DG {n:Nat}(h:n<4294967296):IntKind.wrap .u32 (n:Int)=(n:Int):=by rw[IntKind.wrap_u32];omega
theorem Eh {n:Nat}(h:n<18446744073709551616):IntKind.wrap .u64 (n:Int)=(n:Int):=by rw[IntKind.wrap_u64];omega
theorem D2 {n:Nat}(h:n<9223372036854775808):IntKind.wrap .i64 (n:Int)=(n:Int):=by rw[IntKind.wrap_i64];omega
theorem jm (a b:Nat):Int.fdiv (a:Int) (b:Int)=((a/b:Nat):Int):=by rw[zT _ oM];simp
theorem pY (a b:Nat):zW (a:Int) (b:Int)=((a/b:Nat):Int):=rfl
theorem cX (a b:Nat):Int.tmod (a:Int) (b:Int)=((a%b:Nat):Int):=rfl
theorem j8 (a b:Nat)(h:a<18446744073709551616):IntKind.wrap .u64 (zW (a:Int) (b:Int))=((a/b:Nat):Int):=by rw[pY];exact Eh (zX (zY _ _) h)
theorem cM (a b:Nat)(h:a<9223372036854775808):IntKind.wrap .i64 (zW (a:Int) (b:Int))=((a/b:Nat):Int):=by rw[pY];exact D2 (zX (zY _ _) h)
section div
variable {P:Program}{Γ:bO}{o:Oper}
theorem db {t u:TypeId}{x y:Operand}{k:IntKind}{a b:Int}(c:o.op=.binOp .quo t x y u)(e:ev Γ x=.int k a)(d:ev Γ y=.int k b)(f:b≠0)(w:World) :
  (execOp (ev Γ) o).run P w=.ok (.value (.int k (k.wrap (a.tdiv b)))) w:=by
 unfold execOp;simp only[c];rw[e,d]
 simp[binOp,eqGuard,Op.intDiv,f,Result.andThen]
theorem eT {t u:TypeId}{x y:Operand}{k:IntKind}{a b:Int}(c:o.op=.binOp .rem t x y u)(e:ev Γ x=.int k a)(d:ev Γ y=.int k b)(f:b≠0)(w:World) :
  (execOp (ev Γ) o).run P w=.ok (.value (.int k (a.tmod b))) w:=by
 unfold execOp;simp only[c];rw[e,d]
 simp[binOp,eqGuard,Op.intDiv,f,Result.andThen]
theorem Ee {t u:TypeId}{x y:Operand}{k ky:IntKind}{a:Int}{n:Nat}(c:o.op=.binOp .shl t x y u)(e:ev Γ x=.int k a)(d:ev Γ y=.int ky (n:Int))(f:n<=k.bits)(w:World) :
  (execOp (ev Γ) o).run P w=.ok (.value (.int k (k.wrap (a*2^n)))) w:=by
 unfold execOp;simp only[c];rw[e,d]
 have b:min n k.bits=n:=by omega
 have hz:¬((n:Int)<0):=by omega
 simp[binOp,eqGuard,Op.shift,Result.andThen,b,hz]
theorem DF {t u:TypeId}{x y:Operand}{k ky:IntKind}{a:Int}{n:Nat}(c:o.op=.binOp .shr t x y u)(f:ev Γ x=.int k a)(d:ev Γ y=.int ky (n:Int))(h:n<=k.bits)(w:World) :
  (execOp (ev Γ) o).run P w=.ok (.value (.int k (a/2^n))) w:=by
 unfold execOp;simp only[c];rw[f,d]
 have b:min n k.bits=n:=by omega
 have hz:¬((n:Int)<0):=by omega
 have e:(0:Int)<=2^n:=Int.pow_nonneg kD
 simp[binOp,eqGuard,Op.shift,Result.andThen,b,hz,zT _ e]
theorem im {t u:TypeId}{x y:Operand}{a b:Nat}(c:o.op=.binOp .or t x y u)(f:ev Γ x=.int .u64 (a:Int))(d:ev Γ y=.int .u64 (b:Int))(ha:a<18446744073709551616)(h:b<18446744073709551616)(w:World) :
  (execOp (ev Γ) o).run P w=.ok (.value (.int .u64 ((a ||| b:Nat):Int))) w:=by
 unfold execOp;simp only[c];rw[f,d]
 have e:bits .or .u64 (a:Int) (b:Int)=((a ||| b:Nat):Int):=by
  unfold bits
  have h1:(BitVec.ofInt 64 (a:Int) ||| BitVec.ofInt 64 (b:Int)).toNat=a ||| b:=by
   rw[BitVec.toNat_or]
   congr 1<;>(simp[BitVec.toNat_ofInt];omega)
  show IntKind.wrap .u64 (((BitVec.ofInt 64 (a:Int) ||| BitVec.ofInt 64 (b:Int)).toNat:Nat):Int)=_
  rw[h1];have:=zZ (n:=64) ha h;exact bD oM oM
 simp[binOp,eqGuard,Result.andThen,intBits_or,e]
theorem AU {t u:TypeId}{x y:Operand}{a b:Nat}(c:o.op=.binOp .or t x y u)(f:ev Γ x=.int .u32 (a:Int))(d:ev Γ y=.int .u32 (b:Int))(ha:a<4294967296)(h:b<4294967296)(w:World) :
  (execOp (ev Γ) o).run P w=.ok (.value (.int .u32 ((a ||| b:Nat):Int))) w:=by
 unfold execOp;simp only[c];rw[f,d]
 have e:bits .or .u32 (a:Int) (b:Int)=((a ||| b:Nat):Int):=by
  unfold bits
  have h1:(BitVec.ofInt 32 (a:Int) ||| BitVec.ofInt 32 (b:Int)).toNat=a ||| b:=by
   rw[BitVec.toNat_or]
   congr 1<;>(simp[BitVec.toNat_ofInt];omega)
  show IntKind.wrap .u32 (((BitVec.ofInt 32 (a:Int) ||| BitVec.ofInt 32 (b:Int)).toNat:Nat):Int)=_
  rw[h1];have:=zZ (n:=32) ha h;exact oQ oM oM
 simp[binOp,eqGuard,Result.andThen,intBits_or,e]
end div
def lo (n:Nat):Int:=((n%18446744073709551616:Nat):Int)
def wb:Nat->Nat->List UInt8
  | 0,_=>[]
  | f+1,m=>if m=0 then [] else (ov 8).map (fun k=>UInt8.ofNat (m/256^k))++wb f (m/18446744073709551616)
def hi (n:Nat):ByteArray:=⟨(wb n (n/18446744073709551616)).toArray⟩
abbrev uX (r k:Rat)(s b t:Int)(d:Nat):Value:=.agg #[.bool (aw r.num),uV (lo (ab r.num)),.string (hi (ab r.num)),uV (lo (qd r)),.string (hi (qd r)),.bool (aw k.num),uV (lo (ab k.num)),.string (hi (ab k.num)),uV (lo (qd k)),.string (hi (qd k)),iV s,iV b,iV t,mV d]
abbrev uC (r k:Rat)(s b t:Int)(d:Nat):List Value:=[.bool (aw r.num),uV (lo (ab r.num)),.string (hi (ab r.num)),uV (lo (qd r)),.string (hi (qd r)),.bool (aw k.num),uV (lo (ab k.num)),.string (hi (ab k.num)),uV (lo (qd k)),.string (hi (qd k)),iV s,iV b,iV t,mV d]
abbrev qX (q:Rat):Value:=.agg #[.bool (aw q.num),uV (lo (ab q.num)),.string (hi (ab q.num)),uV (lo (qd q)),.string (hi (qd q))]
abbrev qC (q:Rat):List Value:=[.bool (aw q.num),uV (lo (ab q.num)),.string (hi (ab q.num)),uV (lo (qd q)),.string (hi (qd q))]
abbrev qY (q:Rat)(A:Z9)(m c:Nat):Value:=.agg #[.bool (aw q.num),uV (lo (ab q.num)),.string (hi (ab q.num)),uV (lo (qd q)),.string (hi (qd q)),.slice A m c]
abbrev qZ (q:Rat)(A:Z9)(m c:Nat):List Value:=[.bool (aw q.num),uV (lo (ab q.num)),.string (hi (ab q.num)),uV (lo (qd q)),.string (hi (qd q)),.slice A m c]
abbrev wX (b:Value)(m:Nat):Value:=.agg #[b,uV (lo m),.string (hi m)]
abbrev wC (b:Value)(m:Nat):List Value:=[b,uV (lo m),.string (hi m)]
def nc (n:Nat):List Value:=[.int .u64 (lo n),.string (hi n)]
def nv (n:Nat):Value:=.agg #[.int .u64 (lo n),.string (hi n)]
def ic (z:Int):List Value:=[.bool (aw z),.int .u64 (lo (ab z)),.string (hi (ab z))]
def iv (z:Int):Value:=.agg #[.bool (aw z),.int .u64 (lo (ab z)),.string (hi (ab z))]
def qc (q:Rat):List Value:=[.bool (aw q.num),.int .u64 (lo (ab q.num)),.string (hi (ab q.num)),.int .u64 (lo (qd q)),.string (hi (qd q))]
abbrev Sq (A:Z9)(l:List Rat):Hp->Prop:=fun h_=>SlO 5 qc 0 h_ A l
def qv (q:Rat):Value:=.agg #[.bool (aw q.num),.int .u64 (lo (ab q.num)),.string (hi (ab q.num)),.int .u64 (lo (qd q)),.string (hi (qd q))]
theorem jH {n:Nat}(h:n<18446744073709551616):lo n=(n:Int):=by unfold lo;rw[yL h]
theorem ke {n:Nat}(h:n<18446744073709551616):hi n=⟨#[]⟩:=by
 unfold hi;rw[z1 h];cases n<;>rfl
def cF:List Nat->Nat
  | []=>0
  | x::l=>x+4294967296*cF l
def m8:Nat->Nat->List Nat
  | 0,_=>[]
  | f+1,n=>if n=0 then [] else n%4294967296::m8 f (n/4294967296)
def lim (n:Nat):List Nat:=m8 n n
abbrev xW (q:Rat)(A:Z9)(c:Nat)(D:Z9)(d:Nat):List Value:=[.bool (aw q.num),.slice A (lim (ab q.num)).length c,.slice D (lim q.den).length d]
abbrev rG (q:Rat)(A:Z9)(c:Nat)(D:Z9)(d:Nat):Value:=.agg #[.bool (aw q.num),.slice A (lim (ab q.num)).length c,.slice D (lim q.den).length d]
theorem pm:∀ (f g n:Nat),n<=f->n<=g->m8 f n=m8 g n
  | 0,g,n,hf,hg=>by
    have:n=0:=by omega
    subst this;cases g<;>rfl
  | f+1,0,n,hf,hg=>by
    have:n=0:=by omega
    subst this
    rfl
  | f+1,g+1,n,hf,hg=>by
    unfold m8
    split
    . rfl
    . rw[pm f g (n/4294967296) oM oM]
theorem fk:lim 0=[]:=rfl
theorem dN {n:Nat}(h:0<n):lim n=n%4294967296::lim (n/4294967296):=by
 unfold lim
 obtain ⟨m,rfl⟩:∃ m,n=m+1:=⟨n-1,by omega⟩;rw[m8,if_neg oM];rw[pm m _ _ oM (ey _)]
theorem wT {n:Nat}(h0:0<n)(h:n<4294967296):lim n=[n]:=by
 rw[dN h0,yL h,z1 h,fk]
theorem eA (n:Nat):cF (lim n)=n:=by
  induction n using hH with
  | _ n ih =>
    rcases yU n with h|h
    . subst h;rfl
    . rw[dN h,cF,ih (n/4294967296) oM]
      omega
theorem iN (n:Nat):∀ x∈lim n,x<4294967296:=by
  induction n using hH with
  | _ n ih =>
    rcases yU n with h|h
    . subst h;intro x a;cases a
    . rw[dN h]
      intro x a
      rcases g3.1 a with rfl|a
      . omega
      . exact ih _ oM x a
theorem de {n:Nat}:0<(lim n).length↔0<n:=by
 rcases yU n with h|h
 ·subst h;simp[fk]
 ·rw[dN h];simp[h]
theorem od {n:Nat}:lim n=[]↔n=0:=by
 constructor
 ·intro h;rcases yU n with h0|h0;exact h0;rw[dN h0] at h;cases h
 ·rintro rfl;rfl
theorem fF {n k:Nat}(h:n<4294967296^k):(lim n).length<=k:=by
  induction k generalizing n with
  | zero => have:n=0:=by simpa using h
            subst this;simp[fk]
  | succ k ih =>
    rcases yU n with h0|h0
    . subst h0;simp[fk]
    . rw[dN h0]
      have:n/4294967296<4294967296^k:=z2 (by rw[z6,y8] at h;exact h);have:=ih this
      simp
      omega
def tl (l:List Nat):Nat->Nat
  | 0=>0
  | n+1=>if l.getD n 0=0 then tl l n else n+1
theorem gA (l:List Nat):∀ n,tl l n<=n
 | 0=>ey _
 | n+1=>by unfold tl;split;exact Nat.le_succ_of_le (gA l n);exact ey _
theorem k6 {l:List Nat}{n:Nat}(h:n=0\/l.getD (n-1) 0≠0):tl l n=n:=by
 cases n with
 | zero=>rfl
 | succ n=>unfold tl;rw[if_neg];rcases h with h|h;omega;exact h
theorem i8 (a b:List Nat):cF (a++b)=cF a+4294967296^a.length*cF b:=by
  induction a with
  | nil=>simp[cF]
  | cons x a ih =>
    simp only[z7,cF,ih,yc,z6,z8]
    rw[<-Ab,y8 (4294967296^a.length) 4294967296]
    omega
theorem jf {l:List Nat}(h:∀ x∈l,x<4294967296):cF l<4294967296^l.length:=by
  induction l with
  | nil=>simp[cF]
  | cons x l ih =>
    have h1:=h x (by simp);have b:=ih (fun y a=>h y (by simp[a]))
    simp only[cF,yc,z6]
    omega
theorem iG (x:Nat)(l:List Nat):∀ n,tl l n=0->tl (x::l) (n+1)=if x=0 then 0 else 1
  | 0,_=>by simp[tl]
  | n + 1,h=>by
    unfold tl at h
    split at h
    . rename_i h0
      show tl (x::l) (n+2)=_
      unfold tl
      rw[if_pos (by simpa using h0)];exact iG x l n h
    . omega
theorem jh (l:List Nat)(n:Nat):tl l (n+1)=if l.getD n 0=0 then tl l n else n+1:=rfl
theorem i4 (x:Nat)(l:List Nat):∀ n,0<tl l n->tl (x::l) (n+1)=tl l n+1
  | 0,h=>by simp[tl] at h
  | n + 1,h=>by
    rw[jh l n] at h ⊢
    rw[jh (x::l) (n+1),yx]
    by_cases h0:l.getD n 0=0
    . rw[if_pos h0] at h ⊢
      rw[if_pos h0];exact i4 x l n h
    . rw[if_neg h0,if_neg h0]
theorem mr (l:List Nat):cF l=0->tl l l.length=0:=by
  intro h
  have key:∀ n,n<=l.length->tl l n=0:=by
    have hz:∀ k,l.getD k 0=0:=by
      induction l with
      | nil=>intro k;simp
      | cons x l ih =>
        simp only[cF] at h
        intro k;cases k with
        | zero=>simp;omega
        | succ k=>simpa using ih oM k
    intro n
    induction n with
    | zero=>intro _;rfl
    | succ n ih=>intro a;unfold tl;rw[if_pos (hz n)];exact ih oM
  exact key _ (ey _)
theorem r7 {l:List Nat}(h:∀ x∈l,x<4294967296):lim (cF l)=l.take (tl l l.length):=by
  induction l with
  | nil=>rfl
  | cons x l ih =>
    have h1:=h x (by simp);have a:=ih (fun y c=>h y (by simp[c]))
    rcases yU (cF (x::l)) with h0|h0
    . rw[h0,fk,mr _ h0];rfl
    . rw[dN h0]
      have e1:cF (x::l)%4294967296=x:=by simp only[cF];omega
      have e2:cF (x::l)/4294967296=cF l:=by simp only[cF];omega
      rw[e1,e2,a]
      rcases yU (tl l l.length) with ht|ht
      . have b:x≠0:=by
          intro b;have:lim (cF l)=[]:=by rw[a,ht];rfl
          have:=od.1 this
          simp only[cF] at h0
          omega
        rw[yc,iG x l _ ht,if_neg b,ht];rfl
      . rw[yc,i4 x l _ ht];rfl
theorem tF (n:Nat)(h:0<n):(lim n).getD ((lim n).length-1) 0≠0:=by
  induction n using hH with
  | _ n ih =>
    rw[dN h]
    rcases yU (n/4294967296) with h0|h0
    . rw[h0,fk];simp;omega
    . have:=ih (n/4294967296) oM h0
      have a:=de.2 h0;rw[yc,show (lim (n/4294967296)).length+1-1=((lim (n/4294967296)).length-1)+1 by omega,yx];exact this
theorem jJ {l:List Nat}{k:Nat}(h:k<l.length):cF (l.take (k+1))=cF (l.take k)+4294967296^k*l.getD k 0:=by
 have e:l.take (k+1)=l.take k++[l.getD k 0]:=by
  rw[Af];simp[h]
 rw[e,i8,y9,Ag oM]
 show cF (l.take k)+4294967296^k*(l.getD k 0+4294967296*0)=_
 rw[Ah,yt]
theorem rx {l:List Nat}{k:Nat}(h:k<l.length):cF (l.drop k)=l.getD k 0+4294967296*cF (l.drop (k+1)):=by
 rw[Ai h]
 simp[cF,h]
def nb (n:Nat):Nat:=if n=0 then 0 else Nat.log2 n+1
theorem xL:nb 0=0:=rfl
theorem bR {n:Nat}(h:0<n):2^(nb n-1)<=n/\n<2^nb n/\0<nb n:=by
 unfold nb
 rw[if_neg oM];have:=(Am (n:=n) (k:=n.log2) oM).1 rfl;exact ⟨this.1,this.2,by omega⟩
theorem kL {n k:Nat}(h1:2^k<=n)(a:n<2^(k+1)):nb n=k+1:=by
 have b:0<2^k:=As k
 unfold nb
 rw[if_neg oM,(Am oM).2 ⟨h1,a⟩]
theorem Em (n:Nat):n<2^nb n:=by
 rcases yU n with h|h
 ·subst h;simp[nb]
 ·exact (bR h).2.1
theorem jy {n k:Nat}(h:n<2^k):nb n<=k:=by
 rcases yU n with h0|h0
 ·subst h0;simp[nb]
 ·have:=bR h0
  rcases ep k (nb n) with hl|hl
  ·have:2^k<=2^(nb n-1):=Aw oM oM
   omega
  ·exact hl
theorem wD {n:Nat}(h:0<n):nb n=nb (n/2)+1:=by
 rcases ep n 2 with h2|h2
 ·have:n=1:=by omega
  subst this;decide
 ·obtain ⟨a,b,c⟩:=bR (n:=n/2) oM
  apply kL
  ·have:2^nb (n/2)=2*2^(nb (n/2)-1):=by rw[<-Az,show (nb (n/2)-1).succ=nb (n/2) by omega]
   omega
  ·rw[z6];omega
theorem t7 {lo rD k:Nat}(d:lo<2^k)(c:0<rD):nb (lo+2^k*rD)=k+nb rD:=by
 obtain ⟨a,b,e⟩:=bR c;rw[show k+nb rD=(k+(nb rD-1))+1 by omega]
 apply kL
 ·rw[A4]
  have:=A5 (2^k) a
  omega
 ·rw[show k+(nb rD-1)+1=k+nb rD by omega,A4]
  have:=A5 (2^k) (show rD+1<=2^nb rD from b);rw[Nat.mul_succ] at this
  omega
theorem B5 {a:Nat}(h:0<a):nb a=32*((lim a).length-1)+nb ((lim a).getD ((lim a).length-1) 0):=by
 have f:=de.2 h;have e:=jJ (l:=lim a) (k:=(lim a).length-1) oM;rw[show (lim a).length-1+1=(lim a).length by omega,yw,eA] at e
 have b:=jf (l:=(lim a).take ((lim a).length-1)) (fun x d=>iN a x (A6 d));rw[y9,Ag oM] at b
 have e2:(4294967296:Nat)^((lim a).length-1)=2^(32*((lim a).length-1)):=by rw[A7]
 rw[e2] at e b
 have c:=tF a h;have:=t7 b (Nat.pos_of_ne_zero c);rw[<-e] at this
 exact this
def eg (n:Nat):Nat->List Nat
  | 0=>[]
  | m+1=>n/256^m%256::eg n m
theorem hC (n m:Nat):(eg n m).length=m:=by induction m with|zero=>rfl|succ m ih=>simp[eg,ih]
theorem gj (n:Nat):∀ (m k:Nat),k<m->(eg n m).getD k 0=n/256^(m-1-k)%256
  | 0,k,h=>by omega
  | m+1,0,h=>by simp[eg]
  | m+1,k+1,h=>by
    rw[eg,yx,gj n m k oM]
    congr 3
    omega
theorem iz (n m k:Nat):(eg n m).getD k 0<256:=by
 rcases ep k m with h|h
 ·rw[gj n m k h];exact yM _ oM
 ·simp[ws (show (eg n m).length<=k by rw[hC];exact h)]
theorem s8 (n i:Nat):n%256^(i+1)=n%256^i+256^i*(n/256^i%256):=by
 rw[z6,Nat.mod_mul]
theorem n9 (a:Nat):nb a<=32*(lim a).length:=by
 apply jy
 have:=jf (iN a);rw[eA] at this
 rw[A7];exact this
theorem vf (a k:Nat):(lim a).getD (k/4) 0/2^(8*(k%4))%256=a/256^k%256:=by
  have f:(lim a).getD (k/4) 0=a/4294967296^(k/4)%4294967296:=by
    rcases ep (k/4) (lim a).length with h|h
    . have e:=i8 ((lim a).take (k/4)) ((lim a).drop (k/4))
      rw[A8,eA,y9,Ag oM] at e
      have b:=jf (l:=(lim a).take (k/4)) (fun x c=>iN a x (A6 c));rw[y9,Ag oM] at b
      have d:=rx h
      have c:(lim a).getD (k/4) 0<4294967296:=by
        have:=iN a ((lim a)[k/4]) (gp h);simpa [h] using this
      have h1:(cF ((lim a).take (k/4))+4294967296^(k/4)*cF ((lim a).drop (k/4)))/4294967296^(k/4)=cF ((lim a).drop (k/4)):=by
        rw[A9 _ _ (Bs oM),z1 b,yF]
      rw[<-e] at h1
      rw[h1,d]
      omega
    . have:a<4294967296^(k/4):=by
        have h1:=jf (iN a);rw[eA] at h1
        exact e4 h1 (Aw oM h)
      rw[z1 this]
      simp[ws h]
  rw[f]
  have e1:(256:Nat)^k=4294967296^(k/4)*2^(8*(k%4)):=by
    have:k=4*(k/4)+k%4:=by omega
    conv=>lhs;rw[this,A4,A7]
    rw[A7 2 8]
  rw[e1,<-D0]
  generalize a/4294967296^(k/4)=y
  have:k%4=0\/k%4=1\/k%4=2\/k%4=3:=by omega
  rcases this with h|h|h|h<;>rw[h]<;>omega
theorem fu {l:List Nat}{m k x:Nat}{f:Nat->Nat}(c:l.length=m)(hk:k<m)(hv:∀ j,j<k->l.getD (m-1-j) 0=f j)(b:x=f k:=by rfl):∀ j,j<k+1->(l.set (m-1-k) x).getD (m-1-j) 0=f j:=by
 intro j d
 by_cases e:j=k
 ·subst e
  have:m-1-j<l.length:=by omega
  simp[this,b]
 ·have a:m-1-k≠m-1-j:=by omega
  have:=hv j oM
  simp only[zh] at this ⊢
  rw[yg a];exact this
theorem o3 {l:List Nat}{n m:Nat}(a:l.length=m)(hv:∀ j,j<m->l.getD (m-1-j) 0=n/256^j%256):l=eg n m:=by
 apply List.ext_getElem
 ·rw[hC,a]
 ·intro i h1 c
  have b:=gj n m i oM;have:=hv (m-1-i) oM;rw[show m-1-(m-1-i)=i by omega,<-b] at this
  simpa [h1,c] using this
def d3 (n k j:Nat):Nat:=n/256^k*256^k/4294967296^j%4294967296
theorem qB (n j:Nat):d3 n 0 j=n/4294967296^j%4294967296:=by unfold d3;simp
theorem r5 {n k:Nat}(h:n<256^k)(j:Nat):d3 n k j=0:=by unfold d3;rw[z1 h];simp
theorem mj (n k j:Nat):d3 n k j<4294967296:=yM _ oM
theorem qW (k:Nat):(256:Nat)^k=4294967296^(k/4)*2^(8*(k%4)):=by
 have:k=4*(k/4)+k%4:=by omega
 conv=>lhs;rw[this,A4,A7]
 rw[A7 2 8]
theorem pD (y q j:Nat):y*4294967296^q/4294967296^j%4294967296=if j<q then 0 else y/4294967296^(j-q)%4294967296:=by
 split
 ·rename_i h
  have e:(4294967296:Nat)^q=4294967296^j*(4294967296^(q-j-1)*4294967296):=by
   rw[<-z6,<-A4];congr 1;omega
  rw[e,<-Ab,y8 y,Ab,Nat.mul_div_cancel_left _ (Bs oM),<-Ab];exact Nat.mul_mod_left _ _
 ·rename_i h
  have e:(4294967296:Nat)^j=4294967296^q*4294967296^(j-q):=by rw[<-A4];congr 1;omega
  rw[e,<-D0,Nat.mul_div_cancel _ (Bs oM)]
theorem vT (x b:Nat)(a:b<256):∀ r,r<4->(256*x+b)*2^(8*r)%4294967296=256*x*2^(8*r)%4294967296+b*2^(8*r)/\(256*x+b)*2^(8*r)/4294967296=256*x*2^(8*r)/4294967296/\256*x*2^(8*r)%4294967296%2^(8*r+8)=0/\b*2^(8*r)<4294967296:=by
 intro r hr;have:r=0\/r=1\/r=2\/r=3:=by omega
 rcases this with rfl|rfl|rfl|rfl<;>omega
theorem kO (n k j:Nat):d3 n k j=if j=k/4 then d3 n (k+1) j ||| (n/256^k%256)*2^(8*(k%4)) else d3 n (k+1) j:=by
  have l:n/256^k=256*(n/256^(k+1))+n/256^k%256:=by
    rw[z6,<-D0];omega
  have i:n/256^k%256<256:=yM _ oM;have h:=qW k;have e:(256:Nat)^(k+1)=4294967296^(k/4)*2^(8*(k%4))*256:=by rw[z6,h]
  obtain ⟨o,l2,l3,p⟩:=vT (n/256^(k+1)) _ i (k%4) oM
  unfold d3
  generalize n/256^(k+1)=x at *
  generalize hb2:n/256^k%256=b at *
  rw[l,h,e];have e1:(256*x+b)*(4294967296^(k/4)*2^(8*(k%4)))=(256*x+b)*2^(8*(k%4))*4294967296^(k/4):=by ac_rfl
  have e2:x*(4294967296^(k/4)*2^(8*(k%4))*256)=256*x*2^(8*(k%4))*4294967296^(k/4):=by ac_rfl
  rw[e1,e2,pD,pD]
  by_cases h1:j<k/4
  . rw[if_pos h1,if_pos h1,if_neg oM]
  . rw[if_neg h1,if_neg h1]
    by_cases h2:j=k/4
    . rw[if_pos h2,h2,x1,Nat.pow_zero,Nat.div_one,Nat.div_one,o]
      obtain ⟨c,hc⟩:∃ c,256*x*2^(8*(k%4))%4294967296=2^(8*(k%4)+8)*c:=⟨_,(Nat.mul_div_cancel' (Nat.dvd_of_mod_eq_zero l3)).symm⟩;rw[hc]
      have a:b*2^(8*(k%4))<2^(8*(k%4)+8):=by
        rw[A4,y8];exact Nat.mul_lt_mul_of_pos_left i (As _)
      exact Nat.two_pow_add_eq_or_of_lt a c
    . rw[if_neg h2]
      obtain ⟨d,hd⟩:∃ d,j-k/4=d+1:=⟨j-k/4-1,by omega⟩;have f:∀ y:Nat,y/4294967296^(d+1)=y/4294967296/4294967296^d:=fun y=>by rw[Az,D0]
      rw[hd,f,f,l2]
theorem fN:∀ (l:List Nat) (n:Nat),(∀ j,j<l.length->l.getD j 0=n/4294967296^j%4294967296)->n<4294967296^l.length->cF l=n
  | [],n,_,h=>by simp at h;simp[cF,h]
  | x :: l,n,hd,h=>by
    have h0:=hd 0 (by simp)
    simp at h0
    have a:=fN l (n/4294967296) (fun j b=>by
      have:=hd (j+1) (by simpa using b);rw[yx,Az,<-D0] at this
      exact this) (z2 (by rw[yc,Az] at h;exact h))
    rw[cF,a,h0]
    omega
def ah (b:Nat):List Nat->Nat
  | []=>0
  | x::l=>x+b*ah b l
def Dg (b:Nat)(l:List Nat):Prop:=∀ x∈l,x<b
theorem iL (l:List Nat):cF l=ah 4294967296 l:=by
 induction l with
 | nil=>rfl
 | cons x l ih=>simp only[cF,ah,ih]
theorem Dg.nil {b:Nat}:Dg b []:=fun _ h=>by cases h
theorem Dg.getD {b:Nat}{l:List Nat}(h:Dg b l)(a:0<b)(k:Nat):l.getD k 0<b:=by
 rcases ep k l.length with hk|hk
 ·have:=h (l[k]) (gp hk);simpa [hk] using this
 ·simpa [ws hk] using a
theorem Dg.set {b:Nat}{l:List Nat}(h:Dg b l)(k:Nat){x:Nat}(c:x<b):Dg b (l.set k x):=fun y a=>by
 rcases List.mem_or_eq_of_mem_set a with h1|h1
 ·exact h y h1
 ·rw[h1];exact c
theorem Dg.take {b:Nat}{l:List Nat}(h:Dg b l)(k:Nat):Dg b (l.take k):=fun x a=>h x (A6 a)
theorem Dg.drop {b:Nat}{l:List Nat}(h:Dg b l)(k:Nat):Dg b (l.drop k):=fun x a=>h x (yH a)
theorem Dg.append {b:Nat}{l m:List Nat}(h:Dg b l)(k:Dg b m):Dg b (l++m):=fun x a=>by
 rcases gx.1 a with h1|h1
 ·exact h x h1
 ·exact k x h1
theorem Dg.one {b x:Nat}(h:x<b):Dg b [x]:=fun y a=>by rw[ul.1 a];exact h
theorem Dg.cons {b x:Nat}{l:List Nat}(h:x<b)(k:Dg b l):Dg b (x::l):=fun y a=>by
 rcases g3.1 a with rfl|h1
 ·exact h
 ·exact k y h1
theorem Dg.rep {b n:Nat}(c:0<b):Dg b (yJ n 0):=fun y a=>by rw[(List.mem_replicate.1 a).2];exact c
theorem dj (b:Nat)(x y:List Nat):ah b (x++y)=ah b x+b^x.length*ah b y:=by
  induction x with
  | nil=>simp[ah]
  | cons a x ih =>
    simp only[z7,ah,ih,yc,z6,z8]
    rw[<-Ab,y8 (b^x.length) b]
    omega
theorem bJ {b:Nat}{l:List Nat}(h:Dg b l):ah b l<b^l.length:=by
  induction l with
  | nil=>simp[ah]
  | cons x l ih =>
    have h1:=h x (by simp);have d:=ih (fun y a=>h y (by simp[a]))
    simp only[ah,yc,z6]
    have c:b*(ah b l+1)<=b*b^l.length:=A5 _ d;rw[z8,Nat.mul_one,y8 b (b^l.length)] at c
    omega
theorem bE (b:Nat){l:List Nat}{k:Nat}(h:k<=l.length):ah b l=ah b (l.take k)+b^k*ah b (l.drop k):=by
 have e:=dj b (l.take k) (l.drop k);rw[A8,y9,Ag h] at e
 exact e
theorem fY {l:List Nat}{k:Nat}(h:k<l.length):l.take (k+1)=l.take k++[l.getD k 0]:=by
 rw[Af];simp[h]
theorem aR (b:Nat){l:List Nat}{k:Nat}(h:k<l.length):ah b (l.take (k+1))=ah b (l.take k)+b^k*l.getD k 0:=by
 rw[fY h,dj,y9,Ag oM]
 show ah b (l.take k)+b^k*(l.getD k 0+b*0)=_
 rw[Ah,yt]
theorem d5 (b:Nat){l:List Nat}{k:Nat}(h:k<l.length):ah b (l.drop k)=l.getD k 0+b*ah b (l.drop (k+1)):=by
 rw[Ai h]
 simp[ah,h]
theorem cj (b:Nat){l:List Nat}{k:Nat}(x:Nat)(h:k<l.length):ah b (l.set k x)+b^k*l.getD k 0=ah b l+b^k*x:=by
  induction l generalizing k with
  | nil=>simp at h
  | cons y l ih =>
    cases k with
    | zero=>simp[ah];omega
    | succ k =>
      have:=ih (k:=k) (by simpa using h);rw[yE,yx,ah,ah,z6,y8 (b^k) b,Ab,Ab];have e:b*(ah b (l.set k x)+b^k*l.getD k 0)=b*(ah b l+b^k*x):=by rw[this]
      rw[z8,z8] at e
      omega
theorem ee (b n:Nat):ah b (yJ n 0)=0:=by
 induction n with
 | zero=>rfl
 | succ n ih=>simp[yK,ah,ih]
theorem kz {b:Nat}(c:0<b){l:List Nat}(h:ah b l=0)(k:Nat):l.getD k 0=0:=by
  induction l generalizing k with
  | nil=>simp
  | cons x l ih =>
    simp only[ah] at h
    have h1:b*ah b l=0:=by omega
    have a:ah b l=0:=by
      rcases Nat.mul_eq_zero.1 h1 with a|a
      . omega
      . exact a
    cases k with
    | zero=>simp;omega
    | succ k=>simpa using ih a k
theorem fG (b:Nat){l:List Nat}(h:∀ k,l.getD k 0=0):ah b l=0:=by
  induction l with
  | nil=>rfl
  | cons x l ih =>
    have h0:=h 0
    simp at h0
    rw[ah,ih (fun k=>by have:=h (k+1);simpa using this),h0];simp
theorem gN {l:List Nat}{k n:Nat}(h:k<n):(l.take n).getD k 0=l.getD k 0:=by
 simp only[zh,List.getElem?_take,if_pos h]
theorem br {l:List Nat}{k n:Nat}:(l.drop n).getD k 0=l.getD (n+k) 0:=by
 simp only[zh,yn]
theorem bv {l:List Nat}{k j x:Nat}(h:k<l.length):(l.set k x).getD j 0=if k=j then x else l.getD j 0:=by
 simp only[zh,List.getElem?_set,h,if_true]
 split<;>simp
theorem fe {n k:Nat}:(yJ n 0).getD k 0=0:=by
 simp only[zh,List.getElem?_replicate]
 split<;>rfl
theorem bP {l:List Nat}{k:Nat}(h:l.length<=k):l.getD k 0=0:=by simp[ws h]
theorem iI (b:Nat)(l:List Nat):∀ n,n<=l.length->ah b (l.take (tl l n))=ah b (l.take n)
  | 0,_=>rfl
  | n + 1,h=>by
    unfold tl
    split
    . rename_i h0
      rw[aR b oM,h0,iI b l n oM];simp
    . rfl
theorem pi {l:List Nat}:∀ n,tl l n=0\/l.getD (tl l n-1) 0≠0
  | 0=>.inl rfl
  | n+1=>by
    unfold tl
    split
    . exact pi n
    . rename_i h;exact .inr h
def mM (b:Nat):Nat->Nat->List Nat
  | 0,_=>[]
  | f+1,n=>if n=0 then [] else n%b::mM b f (n/b)
def gZ (b n:Nat):List Nat:=mM b n n
theorem pr {b:Nat}(a:2<=b):∀ (f g n:Nat),n<=f->n<=g->mM b f n=mM b g n
  | 0,g,n,hf,hg=>by
    have:n=0:=by omega
    subst this;cases g<;>rfl
  | f+1,0,n,hf,hg=>by
    have:n=0:=by omega
    subst this
    rfl
  | f + 1,g+1,n,hf,hg=>by
    unfold mM
    split
    . rfl
    . rename_i h0
      have:=D1 (n:=n) (k:=b) oM oM;rw[pr a f g (n/b) oM oM]
theorem iw (b:Nat):gZ b 0=[]:=rfl
theorem dt {b n:Nat}(a:2<=b)(h:0<n):gZ b n=n%b::gZ b (n/b):=by
 unfold gZ
 obtain ⟨m,rfl⟩:∃ m,n=m+1:=⟨n-1,by omega⟩;have:=D1 (n:=m+1) (k:=b) oM oM;rw[mM,if_neg oM];rw[pr a m _ _ oM (ey _)]
theorem jv {b:Nat}(a:2<=b)(n:Nat):ah b (gZ b n)=n:=by
  induction n using hH with
  | _ n ih =>
    rcases yU n with h|h
    . subst h;rfl
    . rw[dt a h,ah,ih (n/b) (D1 h oM)]
      exact Nat.mod_add_div n b
theorem rJ {b:Nat}(a:2<=b)(n:Nat):Dg b (gZ b n):=by
  induction n using hH with
  | _ n ih =>
    rcases yU n with h|h
    . subst h;exact Dg.nil
    . rw[dt a h]
      exact Dg.cons (yM _ oM) (ih _ (D1 h oM))
theorem p7 {b n:Nat}(a:2<=b):0<(gZ b n).length↔0<n:=by
 rcases yU n with h|h
 ·subst h;simp[iw]
 ·rw[dt a h];simp[h]
theorem oq {b:Nat}(i:2<=b){l:List Nat}(e:Dg b l)(a:l=[]\/l.getD (l.length-1) 0≠0):gZ b (ah b l)=l:=by
  induction l with
  | nil=>rfl
  | cons x l ih =>
    have d:=e x (by simp);have e1:(x+b*ah b l)%b=x:=by rw[Nat.add_mul_mod_self_left,yL d]
    have e2:(x+b*ah b l)/b=ah b l:=by rw[A9 _ _ oM,z1 d,yF]
    have c:l=[]\/l.getD (l.length-1) 0≠0:=by
      rcases List.eq_nil_or_concat l with h0|⟨m,y,rfl⟩
      . exact .inl h0
      . right
        rcases a with a|a
        . cases a
        . rw[show (x::m.concat y).length-1=((m.concat y).length-1)+1 by simp,yx] at a
          exact a
    have h:0<ah b (x::l):=by
      rcases yU (ah b (x::l)) with h0|h0
      . rcases a with a|a
        . cases a
        . exact absurd (kz oM h0 _) a
      . exact h0
    rw[dt i h]
    simp only[ah]
    rw[e1,e2,ih (fun y f=>e y (by simp[f])) c]
theorem Bh {b:Nat}(d:2<=b){l:List Nat}(c:Dg b l):gZ b (ah b l)=l.take (tl l l.length):=by
 have e:=iI b l l.length (ey _);rw[yw] at e
 have a:=gA l l.length
 have:=oq d (c.take (tl l l.length)) (by
  by_cases h0:tl l l.length=0
  ·left;rw[h0];rfl
  ·right
   rw[y9,Ag a,gN oM]
   rcases pi (l:=l) l.length with h|h
   ·exact absurd h h0
   ·exact h)
 rw[e] at this
 exact this
theorem nE {b:Nat}(a:2<=b)(n:Nat)(h:0<n):(gZ b n).getD ((gZ b n).length-1) 0≠0:=by
  induction n using hH with
  | _ n ih =>
    rw[dt a h]
    rcases yU (n/b) with h0|h0
    . rw[h0,iw]
      have:n<b:=by
        rcases ep n b with h1|h1
        . exact h1
        . have:=Nat.div_pos h1 oM;omega
      simp[yL this];omega
    . have:=ih (n/b) (D1 h oM) h0
      have c:=(p7 a).2 h0;rw[yc,show (gZ b (n/b)).length+1-1=((gZ b (n/b)).length-1)+1 by omega,yx];exact this
theorem ew {b n k:Nat}(a:2<=b)(h:n<b^k):(gZ b n).length<=k:=by
 rcases yU n with h0|h0
 ·subst h0;simp[iw]
 ·rcases ep k (gZ b n).length with hk|hk
  ·exfalso
   have h1:=aR b (l:=gZ b n) (k:=(gZ b n).length-1) oM;rw[show (gZ b n).length-1+1=(gZ b n).length by omega,yw,jv a] at h1
   have d:=nE a n h0;have e:b^((gZ b n).length-1)*1<=b^((gZ b n).length-1)*(gZ b n).getD ((gZ b n).length-1) 0:=A5 _ oM;have c:b^k<=b^((gZ b n).length-1):=Aw oM oM
   omega
  ·exact hk
theorem gz {b:Nat}(a:2<=b)(n:Nat):n<b^(gZ b n).length:=by
 have:=bJ (rJ a n)
 rwa [jv a] at this
theorem fP (b:Nat){l:List Nat}{k m:Nat}(hk:k+m<=l.length)(a:0<b)(d:Dg b l)(h:ah b l<b^(k+m)):ah b l/b^k=ah b ((l.drop k).take m)/\∀ i,k+m<=i->l.getD i 0=0:=by
 have e1:=bE b (l:=l) (k:=k) oM;have e2:=bE b (l:=l.drop k) (k:=m) (by rw[zy];omega);have h1:=bJ (d.take k);rw[y9,Ag oM] at h1
 have c:0<b^k:=Bs a
 have hz:ah b ((l.drop k).drop m)=0:=by
  rcases yU (ah b ((l.drop k).drop m)) with h0|h0
  ·exact h0
  ·exfalso
   have f:b^m*1<=b^m*ah b ((l.drop k).drop m):=A5 _ h0;have e:b^k*b^m<=b^k*ah b (l.drop k):=A5 _ oM;rw[<-A4] at e
   omega
 rw[hz,Ah,yt] at e2
 refine ⟨?_,fun i hi=>?_⟩
 ·rw[e1,A9 _ _ c,z1 h1,yF,e2]
 ·have:=kz a hz (i-k-m)
  rw[br,br,show k+(m+(i-k-m))=i by omega] at this
  exact this
theorem ve {b P u v U V G:Nat}(i:0<P)(o:U*P<=u)(j:u<(U+1)*P)(c:V*P<=v)(p:v<(V+1)*P)(a:b*P<=v)(e:u<b*v)(l:G*V<=U)(d:G+1=b\/U<(G+1)*V)(x:G<b) :
    u/v<=G/\G<=u/v+1:=by
  have hv:0<v:=e4 (Nat.mul_pos oM i) a
  constructor
  . have y:u/v<G+1:=by
      rw[y7 hv]
      rcases d with h|h
      . rw[h];exact e
      . have h1:(U+1)*P<=(G+1)*V*P:=yG _ h
        have f:(G+1)*(V*P)<=(G+1)*v:=A5 _ c;rw[Ab] at h1
        omega
    omega
  . have h1:G*v<=u+v:=by
      have D:G*v<=G*((V+1)*P):=A5 _ oM;have z:G*((V+1)*P)=G*V*P+G*P:=by rw[<-Ab,z8,Nat.mul_one,zF]
      have B:G*V*P<=U*P:=yG _ l;have C:G*P<=b*P:=yG _ oM
      omega
    have f:G<=(u+v)/v:=(Nat.le_div_iff_mul_le hv).2 h1;rw[Nat.add_div_right _ hv] at f
    omega
theorem ay (b:Nat)(l:List Nat)(k:Nat):ah b (l.take (k+1))=ah b (l.take k)+b^k*l.getD k 0:=by
 rcases ep k l.length with h|h
 ·exact aR b h
 ·rw[Ft oM,Ft h]
  simp[ws h]
theorem fi {b:Nat}{l y:List Nat}{i c c' s X:Nat}(hi:i<l.length)(inv:ah b l+b^i*c=X+ah b (y.take i))(e:s+b*c'=l.getD i 0+y.getD i 0+c) :
  ah b (l.set i s)+b^(i+1)*c'=X+ah b (y.take (i+1)):=by
 have h1:=cj b s hi;rw[ay,z6]
 generalize b^i=P at *
 generalize ah b (l.set i s)=S at *
 have e2:P*(s+b*c')=P*(l.getD i 0+y.getD i 0+c):=by rw[e]
 simp only[z8,<-Ab] at e2 ⊢
 omega
theorem fK {b:Nat}{l y:List Nat}{i c c' s X:Nat}(hi:i<l.length)(inv:ah b l+ah b (y.take i)=X+b^i*c)(e:s+y.getD i 0+c=l.getD i 0+b*c') :
  ah b (l.set i s)+ah b (y.take (i+1))=X+b^(i+1)*c':=by
 have h1:=cj b s hi;rw[ay,z6]
 generalize b^i=P at *
 generalize ah b (l.set i s)=S at *
 have e2:P*(s+y.getD i 0+c)=P*(l.getD i 0+b*c'):=by rw[e]
 simp only[z8,<-Ab] at e2 ⊢
 omega
theorem nu {b:Nat}{l y:List Nat}{k j m c c' s X:Nat}(hi:k+j<l.length)(inv:ah b l+b^(k+j)*c=X+b^k*(m*ah b (y.take j)))(e:s+b*c'=l.getD (k+j) 0+m*y.getD j 0+c) :
  ah b (l.set (k+j) s)+b^(k+(j+1))*c'=X+b^k*(m*ah b (y.take (j+1))):=by
 have h1:=cj b s hi;rw[ay,<-yr,z6];have d:b^(k+j)=b^k*b^j:=A4 _ _ _;have e2:b^(k+j)*(s+b*c')=b^(k+j)*(l.getD (k+j) 0+m*y.getD j 0+c):=by rw[e]
 have a:b^k*(m*(ah b (y.take j)+b^j*y.getD j 0))=b^k*(m*ah b (y.take j))+b^(k+j)*(m*y.getD j 0):=by
  rw[d,z8,z8,<-Ab m,y8 m (b^j),Ab (b^j),<-Ab (b^k) (b^j)]
 rw[a]
 generalize b^(k+j)=P at *
 generalize ah b (l.set (k+j) s)=S at *
 generalize b^k*(m*ah b (y.take j))=Y at *
 simp only[z8,<-Ab] at e2 ⊢
 omega
theorem vE {b:Nat}{l y:List Nat}{k m c X:Nat}(hi:k+y.length<l.length)(inv:ah b l+b^(k+y.length)*c=X+b^k*(m*ah b (y.take y.length)))(h0:l.getD (k+y.length) 0=0) :
  ah b (l.set (k+y.length) c)=X+b^k*(m*ah b y):=by
 have h1:=cj b c hi;rw[yw] at inv
 rw[h0] at h1
 omega
theorem xn {b:Nat}{x:List Nat}{i X Y:Nat}(h:X=ah b (x.take i)*Y):X+b^i*(x.getD i 0*Y)=ah b (x.take (i+1))*Y:=by
 rw[ay,zF,h,Ab]
theorem vC {b:Nat}{l:List Nat}{i d r a q X:Nat}(hi:i<l.length)(inv:X=d*(b^(i+1)*ah b (l.drop (i+1)))+(b^(i+1)*r+ah b (l.take (i+1))))(e:r*b+l.getD i 0=d*q+a) :
  X=d*(b^i*ah b ((l.set i q).drop i))+(b^i*a+ah b ((l.set i q).take i)):=by
 have e1:(l.set i q).take i=l.take i:=by rw[List.take_set_of_le (ey _)]
 have e2:ah b ((l.set i q).drop i)=q+b*ah b (l.drop (i+1)):=by
  rw[d5 b (by simpa using hi),bv hi,if_pos rfl,List.drop_set_of_lt oM]
 rw[e1,e2,inv,aR b hi,z6];have c:b^i*(r*b+l.getD i 0)=b^i*(d*q+a):=by rw[e]
 have h:d*(b^i*(q+b*ah b (l.drop (i+1))))=b^i*(d*q)+d*(b^i*b*ah b (l.drop (i+1))):=by
  rw[z8,z8,<-Ab (b^i) b,Nat.mul_left_comm d (b^i) q]
 have f:b^i*b*r=b^i*(r*b):=by rw[Ab,y8 b r]
 rw[h,f]
 simp only[z8] at c
 omega
theorem vO {b:Nat}{u v:List Nat}{j i G c c' a bo' t s X:Nat}(hi:j+i<u.length)(inv:ah b u+b^j*(G*ah b (v.take i))=X+b^(j+i)*(c+a))(e1:t+b*c'=G*v.getD i 0+c)(e2:s+t+a=u.getD (j+i) 0+b*bo') :
  ah b (u.set (j+i) s)+b^j*(G*ah b (v.take (i+1)))=X+b^(j+(i+1))*(c'+bo'):=by
 have h1:=cj b s hi;rw[ay,<-yr,z6];have h:b^(j+i)=b^j*b^i:=A4 _ _ _
 have f:b^j*(G*(ah b (v.take i)+b^i*v.getD i 0))=b^j*(G*ah b (v.take i))+b^(j+i)*(G*v.getD i 0):=by
  rw[h,z8,z8,<-Ab G,y8 G (b^i),Ab (b^i),<-Ab (b^j) (b^i)]
 rw[f];have e:b^(j+i)*(t+b*c')=b^(j+i)*(G*v.getD i 0+c):=by rw[e1]
 have d:b^(j+i)*(s+t+a)=b^(j+i)*(u.getD (j+i) 0+b*bo'):=by rw[e2]
 generalize b^(j+i)=P at *
 generalize ah b (u.set (j+i) s)=S at *
 generalize b^j*(G*ah b (v.take i))=Y at *
 simp only[z8,<-Ab] at e d inv ⊢
 omega
theorem CU {b:Nat}{u v:List Nat}{j G c a bo' s X:Nat}(hi:j+v.length<u.length)(inv:ah b u+b^j*(G*ah b (v.take v.length))=X+b^(j+v.length)*(c+a))(e2:s+c+a=u.getD (j+v.length) 0+b*bo') :
  ah b (u.set (j+v.length) s)+b^j*(G*ah b v)=X+b^(j+v.length+1)*bo':=by
 have h1:=cj b s hi;rw[yw] at inv
 rw[z6];have d:b^(j+v.length)*(s+c+a)=b^(j+v.length)*(u.getD (j+v.length) 0+b*bo'):=by rw[e2]
 generalize b^(j+v.length)=P at *
 generalize ah b (u.set (j+v.length) s)=S at *
 generalize b^j*(G*ah b v)=Y at *
 simp only[z8,<-Ab] at d inv ⊢
 omega
theorem vy {b:Nat}{u v:List Nat}{j i c c' s X:Nat}(hi:j+i<u.length)(inv:ah b u+b^(j+i)*c=X+b^j*ah b (v.take i))(e:s+b*c'=u.getD (j+i) 0+v.getD i 0+c) :
  ah b (u.set (j+i) s)+b^(j+(i+1))*c'=X+b^j*ah b (v.take (i+1)):=by
 have:=nu (b:=b) (l:=u) (y:=v) (k:=j) (j:=i) (m:=1) (c:=c) (c':=c') (s:=s) (X:=X) hi (by rw[F4];exact inv) (by rw[F4];exact e);rw[F4] at this
 exact this
theorem Cm {b:Nat}{u v:List Nat}{j c c' s X:Nat}(hi:j+v.length<u.length)(inv:ah b u+b^(j+v.length)*c=X+b^j*ah b (v.take v.length))(e:s+b*c'=u.getD (j+v.length) 0+c) :
  ah b (u.set (j+v.length) s)+b^(j+v.length+1)*c'=X+b^j*ah b v:=by
 have h1:=cj b s hi;rw[yw] at inv
 rw[z6];have a:b^(j+v.length)*(s+b*c')=b^(j+v.length)*(u.getD (j+v.length) 0+c):=by rw[e]
 generalize b^(j+v.length)=P at *
 generalize ah b (u.set (j+v.length) s)=S at *
 generalize b^j*ah b v=Y at *
 simp only[z8,<-Ab] at a inv ⊢
 omega
def Above (u u0:List Nat)(k:Nat):Prop:=u.length=u0.length/\∀ i,k<=i->u.getD i 0=u0.getD i 0
theorem Above.refl (u:List Nat)(k:Nat):Above u u k:=⟨rfl,fun _ _=>rfl⟩
theorem Above.set {u a:List Nat}{k i x:Nat}(h:Above u a k)(hi:i<k)(b:i<u.length):Above (u.set i x) a k:=⟨by rw[List.length_set];exact h.1,fun j c=>by rw[bv b,if_neg oM];exact h.2 j c⟩
theorem iF {b:Nat}(d:0<b){u a:List Nat}{k:Nat}(h:Above u a k)(f:Dg b u)(c:Dg b a)(hk:k<=u.length)(h0:ah b a<b^k):ah b u<b^k:=by
 have e:=bE b hk;have h1:=bJ (f.take k);rw[y9,Ag hk] at h1
 have hz:ah b (u.drop k)=0:=fG b (fun i=>by
  rw[br,h.2 _ oM];exact (fP b (l:=a) (k:=k) (m:=0) (by rw[<-h.1];exact hk) d c h0).2 _ oM)
 rw[hz] at e
 omega
end Go.Proofs.YtmdaaeffcfheoaaGreatDoor
