/- Laws of this claim, part 1. -/
import Derived.Below
import Derived.WalkKit
import Derived.Lib.Hide
import Derived.Deep.Draws
import Derived.Orders
import Derived.OrdersHeld
import Derived.KernelRfl
import Derived.Laws.MakeOwn
import Derived.Maps.AppendAt
import Derived.Test.YtcbgbcghmndlmaaGreatDoorProg
import Derived.Lib.IndexBytes
import Derived.Lib.Builder
import Derived.Lib.UnsafeStr
import Derived.Test.YtcbgbcghmndlmaaGreatDoorShelf
import Derived.Shelf.Spec.BitsCarry
import Derived.Lib.BitFns
import Derived.Laws.CopyRow
import Derived.Shelf.Strings.Builder1
import Derived.Shelf.Strings.Builder2
import Derived.Lib.TrailingZeros
import Derived.Laws.Bits64b
import Derived.WideMake
import Derived.ArgAppend
import Derived.DeepKeys5
import Derived.StringKeys
import Derived.Shelf.SlIter.Nil
import Derived.Shelf.SortM.Plain
import Derived.Shelf.SortM.SortNone
import Derived.RangeFuncBox
import Derived.OwnWalkIn
import Derived.TacticsInMore
import Derived.LoopNIn
import Derived.LoopIn
import Derived.Sort.KeysCollected
import Derived.Deep.Upon
import Derived.Shelf.SortM.Walk0sIn
set_option maxRecDepth 100000
set_option maxHeartbeats 4000000
namespace Go.Proofs.YtcbgbcghmndlmaaGreatDoor
open _root_.Array renaming all_eq_true_iff_forall_mem -> oi, any_eq_true -> sA, getD -> gp, getElem?_append_left -> yb, getElem?_append_right -> yR, getElem?_eq_getElem -> fo, getElem?_eq_none -> eq, getElem?_eq_some_iff -> hP, getElem?_extract -> yU, getElem?_push_lt -> e6, getElem?_push_size -> gg, getElem?_replicate -> yS, getElem?_setIfInBounds_ne -> i3, getElem?_setIfInBounds_self_of_lt -> yV, getElem_mem -> ta, mapM_eq_mapM_toList -> yt, replicate -> x2, setIfInBounds_comm -> gx
open Bool renaming and_eq_true -> la, false_eq_true -> ul, not_true -> u9, or_eq_true -> po
open Int renaming fdiv_eq_ediv_of_nonneg -> y8, pow_nonneg -> zF, tdiv -> y9, toNat_natCast -> yP
open List renaming all_cons -> yn, all_eq_true -> ov, any_eq_true -> um, cons_append -> z6, drop_eq_getElem_cons -> Am, drop_sublist -> yK, drop_zero -> yx, eq_nil_of_length_eq_zero -> yF, eraseIdx_sublist -> y2, ext_getElem? -> yh, flatMap_cons -> yv, getD_cons_succ -> yA, getD_eq_getElem?_getD -> D0, getElem?_append_left -> yo, getElem?_append_right -> yr, getElem?_drop -> yq, getElem?_eq_none -> ya, getElem?_set_ne -> yj, getElem?_set_self -> yi, getElem?_take_of_lt -> yp, getElem_eraseIdx -> yX, getElem_inj -> ym, getElem_map -> yl, getElem_mem -> gs, getElem_set_ne -> y4, getElem_set_self -> y5, length_append -> yD, length_cons -> yf, length_eraseIdx_of_lt -> yY, length_take -> Af, lookup_cons -> i2, mapM_cons -> ys, map_cons -> yT, map_set -> yg, mem_append -> g1, mem_cons -> g4, mem_iff_getElem -> yk, mem_map -> g2, mem_of_mem_drop -> yJ, mem_of_mem_eraseIdx -> yZ, mem_of_mem_take -> A6, mem_range -> pa, mem_singleton -> vl, nodup_cons -> hC, pairwise_iff_getElem -> y3, perm_middle -> g3, range -> o0, range' -> v2, range'_succ -> x1, range_eq_range' -> x3, replicate -> yL, replicate_succ -> yM, set_cons_succ -> yG, take_add_one -> Ab, take_append_drop -> A8, take_append_of_le_length -> yy, take_length -> yz, take_of_length_le -> G1
open Nat renaming add_assoc -> yu, add_comm -> yC, add_mul -> Gx, add_mul_div_left -> A9, add_zero -> yw, div_add_mod -> Hz, div_div_eq_div_mul -> B2, div_eq_of_lt -> zY, div_le_self -> zy, div_lt_of_lt_mul -> zZ, div_lt_self -> Gb, eq_zero_or_pos -> yW, le_of_ble_eq_true -> y7, le_refl -> ey, le_trans -> e4, log2_eq_iff -> As, lt_of_le_of_lt -> zh, lt_of_lt_of_le -> e5, lt_or_ge -> ep, min_eq_left -> Ag, min_eq_right -> HA, mod_eq_of_lt -> yN, mod_lt -> yO, mul_add -> z7, mul_assoc -> z8, mul_comm -> z2, mul_le_mul_left -> A5, mul_le_mul_right -> yI, mul_lt_mul_of_pos_left -> Ft, mul_mod_left -> D1, mul_one -> Ga, mul_zero -> Ah, one_mul -> Hy, or_lt_two_pow -> zT, pow_add -> A4, pow_le_pow_right -> Ay, pow_mul -> A7, pow_pos -> Bs, pow_succ -> z1, pow_succ' -> Az, strongRecOn -> hO, sub_self -> yc, succ_mul -> yB, two_pow_pos -> Aw, zero_add -> yH, zero_mul -> yE
open Option renaming isSome_iff_exists -> na, map_eq_none_iff -> y6, map_eq_some_iff -> yd, map_none -> yQ, map_some -> ye
abbrev Z9:=Option Addr
theorem kD {p : Prop} (h : p := by decide) : p := h
theorem oM {p : Prop} (h : p := by omega) : p := h
theorem kR {p : Prop} (h : p := by kernel_rfl) : p := h
theorem aM {p : Prop} (h : p := by assumption) : p := h
theorem ce {p : Prop} (h : p := by first | assumption | omega) : p := h
theorem sM {p : Prop} (h : p := by first | omega | (simp; done) | (simp; omega)) : p := h
theorem oT {p : Prop} [Decidable p] (h : decide p = true) : p := of_decide_eq_true h
theorem oF {p : Prop} [Decidable p] (h : decide p = false) : ¬p := of_decide_eq_false h
theorem dT {p : Prop} [Decidable p] (h : p) : decide p = true /\ p := ⟨decide_eq_true h, h⟩
theorem dF {p : Prop} [Decidable p] (h : ¬p) : decide p = false /\ ¬p := ⟨decide_eq_false h, h⟩
open Go.RowKit
abbrev pB (b:Nat):Value:=.pointer (some ⟨b,0,none⟩)
abbrev qP (b o:Nat):Value:=.pointer (some ⟨b,o,none⟩)
abbrev qT:Value:=.bool true
abbrev qF:Value:=.bool false
abbrev qS (A:Z9)(n c:Nat):Value:=.slice A n c
abbrev sZ:Value:=.slice none 0 0
abbrev eS:Value:=.string ⟨#[]⟩
abbrev sB (b:Nat):Z9:=some ⟨b,0,none⟩
abbrev iV (n:Int):Value:=.int .i64 n
abbrev uV (n:Int):Value:=.int .u64 n
abbrev ca:List Value:=[qF,uV 0,eS,uV 0,eS]
abbrev ea:List Value:=[iV 0,iV 0,qF,uV 0,eS,uV 0,eS,eS,sZ]
abbrev eb:Value:=.agg #[qF,uV 0,eS,uV 0,eS]
abbrev ek:List Value:=[qF,sZ,sZ]
abbrev en:List ByteArray:=[⟨#[120]⟩,⟨#[121]⟩,⟨#[122]⟩]
abbrev uW (n:Int):Value:=.int .u32 n
abbrev nV (n:Nat):Value:=.int .i64 (n:Int)
abbrev mV (n:Nat):Value:=.int .u64 (n:Int)
abbrev mW (n:Nat):Value:=.int .u32 (n:Int)
def Ext (w w':World):Prop:=Below w.heap.size w w'
theorem Ext.refl (w:World):Ext w w:=Below.refl _ _
theorem Ext.trans {a b c:World}(h:Ext a b)(k:Ext b c):Ext a c:=Below.trans h (Below.mono k h.size)
theorem Ext.alloc {a w:World}(h:Ext a w)(o:Obj):Ext a (w.alloc o):=Below.alloc h h.size o
theorem Ext.drew {a w:World}(h:Ext a w):Ext a w.drew:=Below.drew h
theorem Ext.size {a w:World}(h:Ext a w):a.heap.size<=w.heap.size:=Below.size h
theorem Ext.cell {a w:World}(h:Ext a w){p:Addr}(b:p.block<a.heap.size):w.cell? p=a.cell? p:=Below.cell h b
theorem Ext.some {a w:World}(h:Ext a w){p:Addr}{v:Value}(b:a.cell? p=.some v):w.cell? p=.some v:=by
 rcases ep p.block a.heap.size with hl|hl
 ·rw[h.cell hl];exact b
 ·unfold World.cell? at b
  rw[eq hl] at b
  cases b
def ax (z:Int):Bool:=decide (z<0)
def ac (z:Int):Nat:=z.natAbs
def qd (q:Rat):Nat:=if q.den=1 then 0 else q.den
def ck (neg:Bool)(a:Nat):Int:=if neg then -(a:Int) else a
theorem iL (neg:Bool)(a:Nat):ax (ck neg a)=(neg && decide (0<a)):=by cases neg<;>simp[ax,ck]<;>omega
theorem ei (neg:Bool)(a:Nat):ac (ck neg a)=a:=by cases neg<;>simp[ac,ck]
theorem ku (z:Int):ck (ax z) (ac z)=z:=by unfold ck ax ac;by_cases h:z<0<;>simp[h]<;>omega
theorem rQ (z:Int):ck (!ax z) (ac z) = -z:=by unfold ck ax ac;by_cases h:z<0<;>simp[h]<;>omega
theorem bp {z:Int}(h:ax z=true):z<0:=by simpa [ax] using h
theorem bc {z:Int}(h:ax z=false):0<=z:=by simpa [ax] using h
abbrev Hp:=Array Obj
def aY:Obj:=.cells #[] 0 (0,0)
structure G (w:World) (h:Hp):Prop where
  size:w.heap.size=h.size
  blk:∀ b:Nat,h[b]?=w.heap[b]?\/h[b]?=some aY
structure Gr (h h':Hp):Prop where
  size:h.size<=h'.size
  blk:∀ b:Nat,b<h.size->h'[b]?=h[b]?
structure Up (w:World) (h:Hp) (w':World) (h':Hp):Prop where
  ext:Ext w w'
  gr:Gr h h'
  g:G w' h'
theorem Gr.refl (h:Hp):Gr h h:=⟨ey _,fun _ _=>rfl⟩
theorem Gr.trans {a b c:Hp}(h:Gr a b)(k:Gr b c):Gr a c :=
 ⟨e4 h.size k.size,fun x d=>(k.blk x (e5 d h.size)).trans (h.blk x d)⟩
theorem Gr.push (h:Hp)(o:Obj):Gr h (h.push o) :=
 ⟨by simp,fun b a=>by rw[e6 a];exact (fo a).symm⟩
theorem Up.refl {w:World}{h:Hp}(g:G w h):Up w h w h:=⟨Ext.refl _,Gr.refl _,g⟩
theorem Up.trans {w w1 w2:World}{h h1 c:Hp}(a:Up w h w1 h1)(b:Up w1 h1 w2 c):Up w h w2 c:=⟨a.ext.trans b.ext,a.gr.trans b.gr,b.g⟩
theorem G.drew {w:World}{h:Hp}(g:G w h):G w.drew h:=⟨g.size,g.blk⟩
theorem Up.drew {w w1:World}{h h1:Hp}(a:Up w h w1 h1):Up w h w1.drew h1:=⟨a.ext.drew,a.gr,a.g.drew⟩
theorem heap_alloc (w:World)(o:Obj):(w.alloc o).heap=w.heap.push o:=rfl
theorem Up.allocAny {w:World}{h:Hp}(g:G w h)(o o':Obj)(a:o'=o\/o'=aY):Up w h (w.alloc o) (h.push o'):=by
 refine ⟨(Ext.refl _).alloc _,Gr.push _ _,⟨by rw[heap_alloc];simp[g.size],fun b=>?_⟩⟩;rw[heap_alloc];have e:=g.size
 rcases Nat.lt_trichotomy b h.size with hb|hb|hb
 ·rw[e6 hb,e6 oM]
  have:=g.blk b
  rwa [fo hb,fo oM] at this
 ·subst hb
  rw[gg];have:(w.heap.push o)[h.size]?=some o:=by rw[<-e];exact gg
  rw[this]
  rcases a with rfl|rfl
  ·exact .inl rfl
  ·exact .inr rfl
 ·left
  rw[eq (by simp;omega),eq (by simp;omega)]
structure Mo (M:List Nat) (w w':World):Prop where
  os:w'.os=w.os
  tape:w'.tape=w.tape
  output:w'.output=w.output
  size:w.heap.size<=w'.heap.size
  blk:∀ b,b<w.heap.size->b ∉ M->w'.heap[b]?=w.heap[b]?
theorem Mo.refl (M:List Nat)(w:World):Mo M w w:=⟨rfl,rfl,rfl,ey _,fun _ _ _=>rfl⟩
theorem Mo.trans {M:List Nat}{a b c:World}(h:Mo M a b)(k:Mo M b c):Mo M a c :=
 ⟨k.os.trans h.os,k.tape.trans h.tape,k.output.trans h.output,e4 h.size k.size,fun x d e=>(k.blk x (e5 d h.size) e).trans (h.blk x d e)⟩
theorem Ext.mo {a b:World}(h:Ext a b)(M:List Nat):Mo M a b:=⟨h.os,h.tape,h.output,h.size,fun x c _=>Below.block h x c⟩
structure UpM (M:List Nat) (w:World) (h:Hp) (w':World) (h':Hp):Prop where
  mo:Mo M w w'
  gr:Gr h h'
  g:G w' h'
theorem Up.m {w w':World}{h a:Hp}(u:Up w h w' a)(M:List Nat):UpM M w h w' a:=⟨u.ext.mo M,u.gr,u.g⟩
theorem UpM.refl {M:List Nat}{w:World}{h:Hp}(g:G w h):UpM M w h w h:=⟨Mo.refl _ _,Gr.refl _,g⟩
theorem UpM.trans {M:List Nat}{w w1 w2:World}{h h1 c:Hp}(a:UpM M w h w1 h1)(b:UpM M w1 h1 w2 c):UpM M w h w2 c:=⟨a.mo.trans b.mo,a.gr.trans b.gr,b.g⟩
structure Ms where
  l:List Nat
  z:Option (Nat × List Nat)
def Tl (M:Ms)(w w':World):Prop:=∀ K bs,M.z=some (K,bs)->w.heap.size<=w'.heap.size/\∀ b,b<K->b ∉ bs->w'.heap[b]?=w.heap[b]?
theorem Tl.refl (M:Ms)(w:World):Tl M w w:=fun _ _ _=>⟨ey _,fun _ _ _=>rfl⟩
theorem Tl.none {M:Ms}(h:M.z=none)(w w':World):Tl M w w':=fun _ _ e=>by rw[h] at e;cases e
def Rl (M:Ms)(k0 i:Nat)(w w':World):Prop:=(i<k0->Mo M.l w w')/\(k0<=i->Tl M w w')
theorem Rl.refl (M:Ms)(k0 i:Nat)(w:World):Rl M k0 i w w:=⟨fun _=>Mo.refl _ _,fun _=>Tl.refl _ _⟩
theorem Rl.mo {M:Ms}{k0 i:Nat}{w w':World}(h:i<k0)(m:Mo M.l w w'):Rl M k0 i w w':=⟨fun _=>m,fun hk=>absurd hk oM⟩
theorem Rl.tl {M:Ms}{k0 i:Nat}{w w':World}(h:k0<=i)(m:Tl M w w'):Rl M k0 i w w':=⟨fun hk=>absurd hk oM,fun _=>m⟩
section region
variable (M:Ms)(P:Program)(ops:Array Oper)(Q:Exit->Act->World->Prop)(k0:Nat)
def qB:Nat->Array Bool->Act->World->Prop
  | 0,L,a,w=>Region.ready .any ops L=[]/\Q .normal a w
  | n + 1,L,a,w=>(Region.ready .any ops L=[]->Q .normal a w) /\
      ∀ i∈Region.ready .any ops L,wpOp P ops Q i (fun a' w'=>Rl M k0 i w w'/\qB n (L.setIfInBounds i true) a' w') a w
theorem kr:∀ (n:Nat) (L:Array Bool) (a:Act) (w:World),qB M P ops Q k0 n L a w->wpAny P .any ops Q n L a w
 | 0,_,_,_,h=>h
 | n+1,_,_,_,h=>⟨h.1,fun i hi=>wpOp_mono (fun a' w' h'=>kr n _ a' w' h'.2) (h.2 i hi)⟩
def rem (L:Array Bool):Nat:=L.toList.count false
def A (L:Array Bool)(a:Act)(w:World):Prop:=qB M P ops Q k0 (rem L) L a w
variable {M P ops Q k0}
theorem EH {L:Array Bool}{i:Nat}(h:L.getD i true=false):∃ hi:i<L.size,L[i]=false:=by
 rcases ep i L.size with hi|hi
 ·exact ⟨hi,by simpa [gp,hi] using h⟩
 ·simp[gp,Nat.not_lt.2 hi] at h
theorem AZ {L:Array Bool}{i:Nat}(h:L.getD i true=false):rem L=rem (L.setIfInBounds i true)+1:=by
 obtain ⟨hi,e⟩:=EH h
 unfold rem
 rw[Array.toList_setIfInBounds,List.count_set (by simpa using hi)];have a:L.toList[i]'(by simpa using hi)=false:=by simpa using e
 have b:0<L.toList.count false:=List.count_pos_iff.2 (by rw[<-a];exact gs _);rw[a,if_pos (by rfl),if_neg kD]
 omega
theorem eZ {L:Array Bool}{i:Nat}(h:i∈Region.ready .any ops L):rem L=rem (L.setIfInBounds i true)+1:=AZ (mem_ready.1 h).1
theorem A.intro {L:Array Bool}{a:Act}{w:World}(h0:Region.ready .any ops L=[]->Q .normal a w)
    (h1:∀ i∈Region.ready .any ops L,wpOp P ops Q i (fun a' w'=>Rl M k0 i w w'/\A M P ops Q k0 (L.setIfInBounds i true) a' w') a w):A M P ops Q k0 L a w:=by
  unfold A
  cases c:rem L with
  | zero =>
    have hr:Region.ready .any ops L=[]:=by
      cases hr:Region.ready .any ops L with
      | nil=>rfl
      | cons i l =>
        have:=eZ (ops:=ops) (L:=L) (i:=i) (by rw[hr];simp)
        omega
    exact ⟨hr,h0 hr⟩
  | succ n =>
    refine ⟨h0,fun i hi=>?_⟩;have e:=eZ hi;have b:=h1 i hi
    unfold A at b
    have e2:rem (L.setIfInBounds i true)=n:=by omega
    rw[e2] at b
    exact b
theorem A.done {L:Array Bool}{a:Act}{w:World}(hr:(Region.ready .any ops L).isEmpty=true)(h:Q .normal a w):A M P ops Q k0 L a w:=by
 have b:Region.ready .any ops L=[]:=by simpa using hr
 exact A.intro (fun _=>h) (fun i hi=>by rw[b] at hi;cases hi)
theorem kY {i:Nat}{D:Oper}{v:Value}{S:World->Prop}(hi:ops[i]?=some D)(C:∀ (j:Nat) (o:Oper) cs b,ops[j]?=some o->o.op≠.select cs b)
    (hQ:∀ c a w,Q (.panic c) (a.put D.dst v) w->Q (.panic c) a w)(I:∀ w w',S w->Mo M.l w w'->S w') :
    ∀ (n:Nat) (L:Array Bool) (a:Act) (w:World),
      (∀ j d,ops[j]?=some d->j≠i->L.getD j true=false->(∀ e∈d.after,Region.binds .any e=true->e.on≠i)->D.apart ops d=true) ->
      ((∀ w,S w)\/(∀ w w',S w->Tl M w w'->S w')\/∀ j d,ops[j]?=some d->k0<=j->j≠i->∃ e∈d.after,Region.binds .any e=true/\e.on=i) ->
      i∈Region.ready .any ops L->YieldsIf P ops S D v a->S w ->
      qB M P ops Q k0 n (L.setIfInBounds i true) (a.put D.dst v) w->(i<k0)->qB M P ops Q k0 (n+1) L a w:=by
  intro n
  induction n with
  | zero =>
    intro L a w _ _ hr O F H _;refine ⟨fun h=>(by rw[h] at hr;cases hr),fun j V=>?_⟩
    by_cases hji:j=i
    . subst hji;exact O.wpOp hi F ⟨Rl.refl _ _ _ _,H⟩
    . have:=ready_mono V hji
      rw[H.1] at this
      cases this
  | succ n ih =>
    intro L a w f p hr O F H hk;refine ⟨fun h=>(by rw[h] at hr;cases hr),fun j V=>?_⟩
    by_cases hji:j=i
    . subst hji;exact O.wpOp hi F ⟨Rl.refl _ _ _ _,H⟩
    . have h1:=H.2 j (ready_mono V hji)
      obtain ⟨B,d,u,J⟩:=mem_ready.1 V
      have z:∀ e∈d.after,Region.binds .any e=true->e.on≠i:=fun e Y hb X=>by
        have h1:=J e Y hb;have h0:=(mem_ready.1 hr).1;rw[X] at h1
        obtain ⟨x,h0'⟩:=EH h0
        simp[gp,x,h0'] at h1
      have h2:=wpOp_putIf u (f j d u hji B z) (fun cs b=>C i D cs b hi) (fun cs b=>C j d cs b u) hQ O h1
      have y:∀ k ok,ops[k]?=some ok->k≠i->(L.setIfInBounds j true).getD k true=false ->
          (∀ e∈ok.after,Region.binds .any e=true->e.on≠i)->D.apart ops ok=true:=fun k ok hk hki K W=>by
        refine f k ok hk hki ?_ W
        by_cases hjk:j=k
        . subst hjk;exact B
        . rw[getD_set_ne true hjk] at K;exact K
      have Z:∀ w',Rl M k0 j w w'->S w':=fun w' hx=>by
        rcases p with ht|ht|ht
        . exact ht w'
        . rcases ep j k0 with x|x
          . exact I _ _ F (hx.1 x)
          . exact ht _ _ F (hx.2 x)
        . rcases ep j k0 with x|x
          . exact I _ _ F (hx.1 x)
          . obtain ⟨e,Y,hb,ho⟩:=ht j d u x hji
            exact absurd ho (z e Y hb)
      refine wpOp_mono (fun a' w' U=>⟨U.2.1,ih (L.setIfInBounds j true) a' w' y p (ready_mono hr (Ne.symm hji)) U.1 (Z w' U.2.1) ?_ hk⟩) h2;rw[gx _ _ hji];exact U.2.2
structure Al where
  i:Nat
  t:Nat
  o:Obj
structure AlOk (P:Program) (ops:Array Oper) (k0:Nat) (x:Al):Prop where
  ex:∃ o,ops[x.i]?=some o/\o.dst=some x.t/\o.guard=none/\o.after = #[]/\(∀ (ρ:Operand->Value) (w:World),(execOp ρ o).run P w=.ok (.value (.pointer (some ⟨w.heap.size,0,none⟩))) (w.alloc x.o))
  lt:x.i<k0
abbrev SA:=Al × Nat
def dw (L:Array Bool)(S:List SA):Array Bool:=S.foldr (fun s L=>L.setIfInBounds s.1.i true) L
def addA (a:Act)(S:List SA):Act:=S.foldr (fun s a=>a.put (some s.1.t) (.pointer (some ⟨s.2,0,none⟩))) a
def Blk (h0:Hp)(w:World)(h:Hp)(s:SA):Prop:=w.heap[s.2]?=some s.1.o/\h[s.2]?=some aY/\h0.size<=s.2
theorem Blk.up {h0:Hp}{w w':World}{h f:Hp}{s:SA}(b:Blk h0 w h s)(u:UpM M.l w h w' f)(hM:∀ b∈M.l,b<h0.size):Blk h0 w' f s:=by
 obtain ⟨e,c,i⟩:=b
 have a:s.2<w.heap.size:=by
  rcases ep s.2 w.heap.size with a|a
  ·exact a
  ·rw[eq a] at e;cases e
 have d:s.2<h.size:=by
  rcases ep s.2 h.size with a|a
  ·exact a
  ·rw[eq a] at c;cases c
 exact ⟨(u.mo.blk _ a (fun j=>by have:=hM _ j;omega)).trans e,(u.gr.blk _ d).trans c,i⟩
theorem Blk.lt {h0:Hp}{w:World}{h:Hp}{s:SA}(b:Blk h0 w h s):s.2<w.heap.size:=by
 rcases ep s.2 w.heap.size with hl|hl
 ·exact hl
 ·have:=b.1;rw[eq hl] at this;cases this
variable (M P ops Q k0) in
def E (h0:Hp)(AL:List Al)(L:Array Bool)(a:Act)(w:World)(h:Hp):Prop :=
  ∀ w' h',Up w h w' h'->∀ (S:List SA) (T:List Al),(S.map (·.1)++T).Perm AL->(∀ s∈S,Blk h0 w' h' s)->(S.map (·.2)).Nodup ->
    A M P ops Q k0 (dw L S) (addA a S) w'
theorem li (L:Array Bool)(S:List SA)(i:Nat)(hi:∀ s∈S,s.1.i≠i):dw (L.setIfInBounds i true) S=(dw L S).setIfInBounds i true:=by
  induction S with
  | nil=>rfl
  | cons s S ih =>
    have h1:s.1.i≠i:=hi s (by simp)
    show (dw (L.setIfInBounds i true) S).setIfInBounds s.1.i true=((dw L S).setIfInBounds s.1.i true).setIfInBounds i true
    rw[ih (fun t a=>hi t (by simp[a])),gx _ _ (Ne.symm h1)]
theorem kM (a:Act)(S:List SA)(d:Option Tmp)(v:Value)(b:∀ s∈S,d≠some s.1.t):addA (a.put d v) S=(addA a S).put d v:=by
  induction S with
  | nil=>rfl
  | cons s S ih =>
    have h1:d≠some s.1.t:=b s (by simp)
    show (addA (a.put d v) S).put (some s.1.t) _=((addA a S).put (some s.1.t) _).put d v
    rw[ih (fun t f=>b t (by simp[f]))];exact Act.put_comm _ _ _ (fun x c e=>h1 (c.trans e.symm))
theorem fK {L:Array Bool}{S:List SA}{j:Nat}(h:(dw L S).getD j true=false):L.getD j true=false:=by
  induction S with
  | nil=>exact h
  | cons s S ih =>
    apply ih
    have a:((dw L S).setIfInBounds s.1.i true).getD j true=false:=h
    by_cases e:s.1.i=j
    . subst e
      obtain ⟨c,b⟩:=EH a
      simp at b
    . rwa [getD_set_ne true e] at a
theorem gY {L:Array Bool}{S:List SA}{j:Nat}(d:Bool)(a:∀ s∈S,s.1.i≠j):(dw L S).getD j d=L.getD j d:=by
  induction S with
  | nil=>rfl
  | cons s S ih =>
    show ((dw L S).setIfInBounds s.1.i true).getD j d=_
    rw[getD_set_ne d (a s (by simp))];exact ih (fun t b=>a t (by simp[b]))
theorem jh {L:Array Bool}{S:List SA}{j:Nat}(h:L.getD j false=true):(dw L S).getD j false=true:=by
 induction S with
 | nil=>exact h
 | cons s S ih=>exact getD_set_true (listed:=dw L S) ih
theorem pZ {L:Array Bool}{S:List SA}{i:Nat}(hi:∀ s∈S,s.1.i≠i)(h:i∈Region.ready .any ops L):i∈Region.ready .any ops (dw L S):=by
 rw[mem_ready] at *
 obtain ⟨h0,o,b,a⟩:=h;exact ⟨by rw[gY true hi];exact h0,o,b,fun e d c=>jh (a e d c)⟩
theorem me {o:Oper}(j:∀ cs b,o.op≠.select cs b)(a:Act)(S:List SA)(h:∀ s∈S,s.1.t ∉ o.looksAt ops) :
    execOp (addA a S).eval o=execOp a.eval o/\Region.wanted o (yielded ops (addA a S).tmps)=Region.wanted o (yielded ops a.tmps):=by
  induction S with
  | nil=>exact ⟨rfl,rfl⟩
  | cons s S ih =>
    obtain ⟨i1,f⟩:=ih (fun t i=>h t (by simp[i]));have e:∀ d,some s.1.t=some d->d ∉ o.looksAt ops:=fun d c=>by injection c with c;subst c;exact h s (by simp)
    exact ⟨(execOp_put (ops:=ops) o j _ _ _ e).trans i1,(wanted_put (ops:=ops) o _ _ _ e).trans f⟩
theorem gI {S:List SA}{T AL:List Al}(a:(S.map (·.1)++T).Perm AL){s:SA}(b:s∈S):s.1∈AL :=
 a.mem_iff.1 (g1.2 (.inl (g2.2 ⟨s,b,rfl⟩)))
def OpR (P:Program)(ops:Array Oper)(o:Oper)(a:Act)(w:World)(R:Value->World->Prop):Prop :=
  Region.wanted o (yielded ops a.tmps)=true /\
  ((∃ v w',(execOp a.eval o).run P w=.ok (.value v) w'/\R v w')\/(∃ w',(execOp a.eval o).run P w=.ok .skip w'/\R undef w') \/
   (∃ f args,(execOp a.eval o).run P w=.ok (.enter f args) w/\Calls P f args w (fun e w'=>∃ v,e=.returned v/\R v w')))
theorem OpR.wpOp {i:Nat}{o:Oper}{a:Act}{w:World}{R:Value->World->Prop}{K:Act->World->Prop}(hi:ops[i]?=some o)(h:OpR P ops o a w R)
  (b:∀ v w',R v w'->K (a.put o.dst v) w'):wpOp P ops Q i K a w:=by
 obtain ⟨d,h⟩:=h
 unfold Go.wpOp
 simp only[hi,d,if_true]
 left
 unfold Oper.wp
 rcases h with ⟨v,w',hr,hR⟩|⟨w',hr,hR⟩|⟨f,args,hr,hc⟩
 ·rw[hr];exact b _ _ hR
 ·rw[hr];exact b _ _ hR
 ·rw[hr]
  refine Calls.mono hc fun e w' c=>?_
  obtain ⟨v,rfl,hR⟩:=c;exact b _ _ hR
theorem OpR.addA {o:Oper}{a:Act}{w:World}{R:Value->World->Prop}(h:OpR P ops o a w R)(c:∀ cs b,o.op≠.select cs b)(S:List SA)(d:∀ s∈S,s.1.t ∉ o.looksAt ops) :
  OpR P ops o (addA a S) w R:=by
 obtain ⟨e1,e2⟩:=me (ops:=ops) c a S d
 unfold OpR at *
 rw[e1,e2];exact h
theorem AP {x:Al}(ok:AlOk P ops k0 x){a:Act}{w:World}{K:Act->World->Prop}(h:K (a.put (some x.t) (.pointer (some ⟨w.heap.size,0,none⟩))) (w.alloc x.o)):wpOp P ops Q x.i K a w:=by
 obtain ⟨o,h1,c,b,_,d⟩:=ok.ex
 unfold Go.wpOp
 simp only[h1]
 rw[if_pos (by simp[Region.wanted,b])]
 left
 unfold Oper.wp
 rw[d]
 show K (a.put o.dst _) _
 rw[c];exact h
theorem n0 {x:Al}(ok:AlOk P ops k0 x){L:Array Bool}(h:L.getD x.i true=false):x.i∈Region.ready .any ops L:=by
 obtain ⟨o,h1,_,_,b,_⟩:=ok.ex;exact mem_ready.2 ⟨h,o,h1,fun e a=>by rw[b] at a;simp at a⟩
theorem mR {h0:Hp}{AL:List Al}{L:Array Bool}{a:Act}{w':World}{e:Hp}{S:List SA}{T:List Al}{x:Al}
  (h:∀ x∈AL,AlOk P ops k0 x)(hM:∀ b∈M.l,b<h0.size)(g:G w' e)(j:h0.size<=e.size)(p:(S.map (·.1)++T).Perm AL)(y:∀ s∈S,Blk h0 w' e s)(H:(S.map (·.2)).Nodup)(z:x∈T)
  (F:∀ (w1:World) (h1:Hp) (S1:List SA) (d:List Al),Up w' e w1 h1->(S1.map (·.1)++d).Perm AL->(∀ s∈S1,Blk h0 w1 h1 s)->(S1.map (·.2)).Nodup->d.length<T.length->A M P ops Q k0 (dw L S1) (addA a S1) w1) :
  wpOp P ops Q x.i (fun C w1=>Rl M k0 x.i w' w1/\A M P ops Q k0 ((dw L S).setIfInBounds x.i true) C w1) (addA a S) w':=by
 have c:x∈AL:=p.mem_iff.1 (g1.2 (.inr z))
 obtain ⟨d,hT⟩:∃ d,T.Perm (x::d):=by
  obtain ⟨D,l2,rfl⟩:=List.append_of_mem z;exact ⟨D++l2,g3⟩
 have u:Up w' e (w'.alloc x.o) (e.push aY):=Up.allocAny g _ _ (.inr rfl);refine AP (h x c) ⟨Rl.mo (h x c).lt (u.m M.l).mo,?_⟩;refine F (w'.alloc x.o) (e.push aY) ((x,w'.heap.size)::S) d u ?_ ?_ ?_ ?_
 ·refine List.Perm.trans ?_ p
  show (x::(S.map (·.1)++d)).Perm _
  refine List.Perm.trans g3.symm ?_;exact List.Perm.append_left _ hT.symm
 ·intro s f
  rcases g4.1 f with rfl|f
  ·refine ⟨?_,?_,?_⟩
   ·rw[heap_alloc];exact gg
   ·rw[g.size];exact gg
   ·show h0.size<=w'.heap.size;rw[g.size];exact j
  ·exact (y s f).up (u.m M.l) hM
 ·show (w'.heap.size::S.map (·.2)).Nodup
  refine hC.2 ⟨fun B=>?_,H⟩;obtain ⟨s,f,I⟩:=g2.1 B;have:=(y s f).lt
  omega
 ·have:=hT.length_eq
  simp at this
  omega
theorem gi {AL:List Al}{L:Array Bool}{S:List SA}{T:List Al}{x:Al}(c:(S.map (·.1)++T).Perm AL)(f:x∈AL)(hr:x.i∈Region.ready .any ops (dw L S)):x∈T:=by
  rcases g1.1 (c.mem_iff.2 f) with hm|hm
  . obtain ⟨s,d,b⟩:=g2.1 hm
    have h1:=(mem_ready.1 hr).1
    exfalso
    rw[<-b] at h1
    clear hr c hm b
    induction S with
    | nil=>cases d
    | cons t S ih =>
      have a:((dw L S).setIfInBounds t.1.i true).getD s.1.i true=false:=h1
      by_cases e:t.1.i=s.1.i
      . rw[e] at a
        obtain ⟨h,b⟩:=EH a
        simp at b
      . rw[getD_set_ne true e] at a
        rcases g4.1 d with rfl|hs'
        . exact e rfl
        . exact ih hs' a
  . exact hm
end region
section laws
variable {M:Ms}{P:Program}{ops:Array Oper}{Q:Exit->Act->World->Prop}{k0:Nat}
theorem s7 (L:Array Bool)(S:List SA):(dw L S).size=L.size:=by
 induction S with
 | nil=>rfl
 | cons s S ih=>show ((dw L S).setIfInBounds s.1.i true).size=_;simp[ih]
theorem E.take0 {h0:Hp}{AL:List Al}{L:Array Bool}{a:Act}{w:World}{h:Hp}{i:Nat}{o:Oper}{v:Value}{S:World->Prop}
  (hi:ops[i]?=some o)(hk:i<k0)(f:Region.noSelect ops=true)(hf:Region.free .any ops L i=true)(hr:i∈Region.ready .any ops L)
  (C:∀ x∈AL,x.i≠i/\x.t ∉ o.looksAt ops/\o.dst≠some x.t)(U:∀ c a w,¬Q (.panic c) a w)
  (F:∀ w w',S w->Mo M.l w w'->S w')(W:∀ w',Mo M.l w w'->S w')(O:YieldsIf P ops S o v a)
  (p:(∀ w,S w)\/(∀ w w',S w->Tl M w w'->S w')\/∀ j B,ops[j]?=some B->k0<=j->j≠i->∃ e∈B.after,Region.binds .any e=true/\e.on=i)
  (H:E M P ops Q k0 h0 AL (L.setIfInBounds i true) (a.put o.dst v) w h):E M P ops Q k0 h0 AL L a w h:=by
 intro w' Y u y T J V Z;have d:∀ s∈y,s.1.i≠i/\s.1.t ∉ o.looksAt ops/\o.dst≠some s.1.t:=fun s b=>C _ (gI J b)
 have K:=H w' Y u y T J V Z;rw[li L y i (fun s b=>(d s b).1),kM a y o.dst v (fun s b=>(d s b).2.2)] at K
 have z:=pZ (fun s b=>(d s b).1) hr;obtain ⟨e1,e2⟩:=me (ops:=ops) (Region.noSelect_spec f i o · · hi) a y (fun s b=>(d s b).2.1)
 unfold A at *
 rw[eZ z]
 exact kY hi (Region.noSelect_spec f) (fun c a w X=>absurd X (U _ _ _)) F _ _ _ _
  (fun j B hj D I=>Region.free_spec hi hf j B hj D (fK I)) p z (O.of_same e1 e2) (W _ (u.m M.l).mo) K hk
theorem E.event0 {h0:Hp}{AL:List Al}{L:Array Bool}{a:Act}{w:World}{h:Hp}{i:Nat}{o:Oper}
    (hi:ops[i]?=some o)(hk:i<k0)(K:Region.noSelect ops=true)(hL:L.size=ops.size)(hun:L.getD i true=false)
    (J:∀ j X,ops[j]?=some X->L.getD j true=false->j≠i->(∀ x∈AL,x.i≠j)->∃ e∈X.after,Region.binds .any e=true/\L.getD e.on false=false/\∀ x∈AL,x.i≠e.on)
    (I:∀ e∈o.after,Region.binds .any e=true->L.getD e.on false=true\/∃ x∈AL,x.i=e.on)
    (hal:∀ x∈AL,x.i≠i/\x.t ∉ o.looksAt ops/\o.dst≠some x.t)(C:∀ x∈AL,AlOk P ops k0 x)(hM:∀ b∈M.l,b<h0.size)(g:G w h)(hsz:h0.size<=h.size)
    (H:∀ w' z,Up w h w' z->OpR P ops o a w' (fun v y=>∃ f,UpM M.l w' z y f/\E M P ops Q k0 h0 AL (L.setIfInBounds i true) (a.put o.dst v) y f)):E M P ops Q k0 h0 AL L a w h:=by
  have key:∀ (m:Nat) (T:List Al),T.length=m->∀ w' z,Up w h w' z->∀ (S:List SA),(S.map (·.1)++T).Perm AL->(∀ s∈S,Blk h0 w' z s)->(S.map (·.2)).Nodup ->
      A M P ops Q k0 (dw L S) (addA a S) w':=by
    intro m
    induction m using hO with
    | _ m ih =>
      intro T hT w' z u S B Y Z;have p:∀ s∈S,s.1.i≠i/\s.1.t ∉ o.looksAt ops/\o.dst≠some s.1.t:=fun s c=>hal _ (gI B c)
      refine A.intro (fun U=>?_) (fun j hj=>?_)
      . exfalso
        by_cases hd:∃ e∈o.after,Region.binds .any e=true/\(dw L S).getD e.on false=false
        . obtain ⟨e,D,d,hf⟩:=hd
          rcases I e D d with h1|⟨x,F,hxe⟩
          . rw[jh h1] at hf;cases hf
          . have W:x.i<(dw L S).size:=by
              obtain ⟨o',ho',_⟩:=(C x F).ex;rw[s7,hL];exact (hP.1 ho').1
            have:x.i∈Region.ready .any ops (dw L S):=n0 (C x F) (by rw[<-hxe] at hf;simp[gp,W] at hf ⊢;exact hf);rw[U] at this
            cases this
        . have:i∈Region.ready .any ops (dw L S):=mem_ready.2 ⟨by rw[gY true (fun s c=>(p s c).1)];exact hun,o,hi,fun e D d=>by
            cases hv:(dw L S).getD e.on false
            . exact absurd ⟨e,D,d,hv⟩ hd
            . rfl⟩
          rw[U] at this
          cases this
      . by_cases hji:j=i
        . subst hji
          refine OpR.wpOp hi ((H w' z u).addA (Region.noSelect_spec K j o · · hi) S (fun s c=>(p s c).2.1)) ?_;rintro v y ⟨f,u2,H2⟩;refine ⟨Rl.mo hk u2.mo,?_⟩;rw[<-li L S j (fun s c=>(p s c).1),<-kM a S o.dst v (fun s c=>(p s c).2.2)];exact H2 y f (Up.refl u2.g) S T B (fun s c=>(Y s c).up u2 hM) Z
        . obtain ⟨V,X,hoj,O⟩:=mem_ready.1 hj
          have F:∃ x∈AL,x.i=j:=by
            refine Classical.byContradiction fun hno=>?_
            obtain ⟨e,D,d,hf,hne⟩:=J j X hoj (fK V) hji (fun x F D=>hno ⟨x,F,D⟩);have:=O e D d;rw[gY false (fun s c=>hne _ (gI B c)),hf] at this
            cases this
          obtain ⟨x,hxA,rfl⟩:=F;have hxT:=gi B hxA hj;exact mR C hM u.g (e4 hsz u.gr.size) B Y Z hxT (fun w1 h1 S1 T1 u1 hp1 hb1 hn1 W=>ih T1.length oM T1 rfl w1 h1 (u.trans u1) S1 hp1 hb1 hn1)
  exact fun w' z u S T B Y Z=>key _ T rfl w' z u S B Y Z
theorem E.fin0 {h0:Hp}{AL:List Al}{L:Array Bool}{a:Act}{w:World}{h:Hp}(hL:L.size=ops.size)
    (O:∀ j D,ops[j]?=some D->L.getD j true=false->(∃ x∈AL,x.i=j)\/∀ x∈AL,∃ e∈D.after,Region.binds .any e=true/\e.on=x.i)
    (C:∀ x∈AL,L.getD x.i true=false)(y:∀ x∈AL,AlOk P ops k0 x)(hM:∀ b∈M.l,b<h0.size)(hsz:h0.size<=h.size)(J:(AL.map (·.i)).Nodup)
    (H:∀ w' c,Up w h w' c->∀ S:List SA,(S.map (·.1)).Perm AL->(∀ s∈S,Blk h0 w' c s)->(S.map (·.2)).Nodup->A M P ops Q k0 (dw L S) (addA a S) w'):E M P ops Q k0 h0 AL L a w h:=by
  have key:∀ (m:Nat) (T:List Al),T.length=m->∀ w' c,Up w h w' c->∀ (S:List SA),(S.map (·.1)++T).Perm AL->(∀ s∈S,Blk h0 w' c s)->(S.map (·.2)).Nodup ->
      A M P ops Q k0 (dw L S) (addA a S) w':=by
    intro m
    induction m using hO with
    | _ m ih =>
      intro T hT w' c u S f F I;cases T with
      | nil=>exact H w' c u S (by simpa using f) F I
      | cons t T' =>
        have p:t∈AL:=f.mem_iff.1 (g1.2 (.inr (by simp)));have d:((S.map (·.1)++t::T').map (·.i)).Nodup:=(f.map (·.i)).nodup_iff.2 J
        have htS:∀ s∈S,s.1.i≠t.i:=fun s hs V=>by
          rw[List.map_append,List.nodup_append] at d
          exact d.2.2 s.1.i (g2.2 ⟨s.1,g2.2 ⟨s,hs,rfl⟩,rfl⟩) t.i (g2.2 ⟨t,by simp,rfl⟩) V
        have o:t.i∈Region.ready .any ops (dw L S):=n0 (y t p) (by rw[gY true htS];exact C t p);refine A.intro (fun h0'=>by rw[h0'] at o;cases o) (fun j hj=>?_);obtain ⟨B,D,W,z⟩:=mem_ready.1 hj
        rcases O j D W (fK B) with ⟨x,hxA,rfl⟩|hw
        . have U:=gi f hxA hj
          exact mR y hM u.g (e4 hsz u.gr.size) f F I U (fun w1 h1 S1 T1 u1 Y K hn1 hlt=>ih T1.length oM T1 rfl w1 h1 (u.trans u1) S1 Y K hn1)
        . obtain ⟨e,V,Z,X⟩:=hw t p
          have:=z e V Z;rw[X] at this
          obtain ⟨hl,hv⟩:=EH (mem_ready.1 o).1
          simp[gp,hl,hv] at this
  exact fun w' c u S T f F I=>key _ T rfl w' c u S f F I
end laws
abbrev bW:=List (Nat × Value)
def fS (Γ:bW):List Deferred:=match Γ.lookup 1000000 with|some (.int _ D)=>[{ target:=.collected D.toNat,args:=#[] }]|_=>[]
structure Kn (n:Nat) (a:Act) (Γ:bW):Prop where
  df:a.defers=fS Γ
  sz:a.tmps.size=n
  nb:n<=1000000
  has:∀ t v,t≠1000000->Γ.lookup t=some v->a.tmps[t]?=some v
def ev (Γ:bW):Operand->Value
  | .tmp t=>(Γ.lookup t).getD undef
  | .const v=>v
  | .global g=>.pointer (some ⟨g,0,none⟩)
  | .func f=>.func (.func f) #[] #[]
def ao (ops:Array Oper)(i:Nat):Oper:=ops.getD i default
def gl (Γ:bW):Operand->Bool
  | .tmp t=>t != 1000000 && (Γ.lookup t).isSome
  | _=>true
def a6 (Γ:bW)(o:Oper):Bool:=o.op.operands.all (gl Γ)
def bh (ops:Array Oper)(Γ:bW)(o:Oper):Option Bool :=
  match o.guard with
  | none=>some true
  | some (g,want)=>match ((ops[g]?).bind (·.dst)).bind (fun t=>if t=1000000 then none else Γ.lookup t) with
    | some (.bool b)=>some (b == want)
    | some (.tuple _)=>some false
    | _=>none
theorem Kn.put {n:Nat}{a:Act}{Γ:bW}(k:Kn n a Γ){t:Nat}(c:t<n)(v:Value):Kn n (a.put (some t) v) ((t,v)::Γ):=by
 have h:=k.nb;refine ⟨?_,by simpa [Act.put] using k.sz,k.nb,fun s u f b=>?_⟩
 ·have e:((1000000:Nat) == t)=false:=by simp;omega
  show a.defers=_
  rw[k.df];unfold fS;rw[i2,e]
 rw[i2] at b
 by_cases e:s=t
 ·subst e
  simp at b
  subst b
  simp[Act.put,k.sz,c]
 ·have d:(s == t)=false:=by simp[e]
  rw[d] at b
  simp only[Act.put]
  rw[i3 (Ne.symm e)];exact k.has s u f b
theorem Kn.eval {n:Nat}{a:Act}{Γ:bW}(k:Kn n a Γ){x:Operand}(b:gl Γ x=true):a.eval x=ev Γ x:=by
  cases x with
  | tmp t =>
    have b:(t != 1000000 && (Γ.lookup t).isSome)=true:=b;rw[la] at b
    obtain ⟨v,hv⟩:=na.1 b.2;have:=k.has t v (by simpa using b.1) hv
    simp[Act.eval,ev,hv,this]
  | _=>rfl
theorem Kn.exec {n:Nat}{a:Act}{Γ:bW}(k:Kn n a Γ){o:Oper}(d:∀ cs b,o.op≠.select cs b)(hk:a6 Γ o=true):execOp a.eval o=execOp (ev Γ) o :=
 execOp_congr o d (fun x c=>k.eval ((oi.1 hk) x c))
theorem Kn.want {n:Nat}{a:Act}{Γ:bW}(k:Kn n a Γ){ops:Array Oper}{o:Oper}{b:Bool}(h:bh ops Γ o=some b):Region.wanted o (yielded ops a.tmps)=b:=by
  unfold bh at h
  unfold Region.wanted
  split at h
  . rename_i d;simp only[d];simpa using h
  . rename_i g want d
    simp only[d]
    cases c:(ops[g]?).bind (·.dst) with
    | none=>rw[c] at h;simp at h
    | some t =>
      rw[c] at h
      simp only[Option.bind_some] at h
      by_cases ht0:t=1000000
      . rw[if_pos ht0] at h;simp at h
      rw[if_neg ht0] at h
      cases hv:Γ.lookup t with
      | none=>rw[hv] at h;simp at h
      | some u =>
        rw[hv] at h
        have e:=k.has t u ht0 hv;cases u with
        | bool x=>simp at h;subst h;simp[yielded,c,e]
        | tuple x=>simp at h;subst h;simp[yielded,c,e]
        | _=>simp at h
theorem Kn.mono {n:Nat}{a:Act}{Γ Γ':bW}(k:Kn n a Γ)(h:∀ t v,Γ'.lookup t=some v->Γ.lookup t=some v)(c:fS Γ'=fS Γ):Kn n a Γ':=⟨k.df.trans c.symm,k.sz,k.nb,fun t v b hv=>k.has t v b (h t v hv)⟩
def iT (Γ:bW):List Nat->bW
  | []=>[]
  | t::ts=>match Γ.lookup t with|some v=>(t,v)::iT Γ ts|none=>iT Γ ts
theorem eo (Γ:bW):∀ (ts:List Nat) (t:Nat) (v:Value),(iT Γ ts).lookup t=some v->Γ.lookup t=some v
  | [],_,_,h=>by simp[iT] at h
  | s :: ts,t,v,h=>by
    unfold iT at h
    split at h
    . rename_i u b
      rw[i2] at h
      by_cases e:t=s
      . subst e;simp at h;subst h;exact b
      . have a:(t == s)=false:=by simp[e]
        rw[a] at h
        exact eo Γ ts t v h
    . exact eo Γ ts t v h
abbrev Po:=Act->World->Prop
def gZ (N R:Po)(X:Nat->Po):Exit->Act->World->Prop
  | .normal,a,w=>N a w
  | .ret,a,w=>R a w
  | .exit i,a,w=>X i a w
  | _,_,_=>False
def CG (P:Program)(n:Nat)(N R:Po)(X:Nat->Po)(c:Code)(Γ:bW)(w:World):Prop:=∀ a,Kn n a Γ->c.wp P (gZ N R X) a w
def EG (M:Ms)(P:Program)(n:Nat)(N R:Po)(X:Nat->Po)(ops:Array Oper)(k0:Nat)(h0:Hp)(AL:List Al)(L:Array Bool)(Γ:bW)(w:World)(h:Hp):Prop :=
  (∀ x∈AL,AlOk P ops k0 x)->(∀ b∈M.l,b<h0.size)->G w h->h0.size<=h.size->∀ a,Kn n a Γ->E M P ops (gZ N R X) k0 h0 AL L a w h
def AG (M:Ms)(P:Program)(n:Nat)(N R:Po)(X:Nat->Po)(ops:Array Oper)(k0:Nat)(L:Array Bool)(Γ:bW)(w:World):Prop :=
  ∀ a,Kn n a Γ->A M P ops (gZ N R X) k0 L a w
section steps
variable {M:Ms}{P:Program}{n:Nat}{N R:Po}{X:Nat->Po}{ops:Array Oper}{k0:Nat}{h0:Hp}{AL:List Al}{L:Array Bool}{Γ:bW}{w:World}{h:Hp}
def rK (ops:Array Oper)(AL:List Al)(i:Nat)(o:Oper):Bool:=AL.all fun x=>x.i != i && !(o.looksAt ops).contains x.t && o.dst != some x.t
theorem il {i:Nat}{o:Oper}(b:rK ops AL i o=true):∀ x∈AL,x.i≠i/\x.t ∉ o.looksAt ops/\o.dst≠some x.t:=by
 intro x a;have:=(ov.1 b) x a
 simp only[la,bne_iff_ne,ne_eq,Bool.not_eq_true',List.contains_eq_mem,decide_eq_false_iff_not] at this
 exact ⟨this.1.1,this.1.2,this.2⟩
def dd (n:Nat)(ops:Array Oper)(k0:Nat)(AL:List Al)(L:Array Bool)(i t:Nat):Bool :=
  let o:=ao ops i
  decide (i<ops.size) && decide (i<k0) && Region.noSelect ops && Region.free .any ops L i && (Region.ready .any ops L).contains i && rK ops AL i o && (o.dst == some t) && decide (t<n)
structure TakeOk (n:Nat) (ops:Array Oper) (k0:Nat) (AL:List Al) (L:Array Bool) (i t:Nat):Prop where
  get:ops[i]?=some (ao ops i)
  lt:i<k0
  sel:Region.noSelect ops=true
  free:Region.free .any ops L i=true
  ready:i∈Region.ready .any ops L
  al:∀ x∈AL,x.i≠i/\x.t ∉ (ao ops i).looksAt ops/\(ao ops i).dst≠some x.t
  dst:(ao ops i).dst=some t
  tn:t<n
theorem bj {i:Nat}(h:i<ops.size):ops[i]?=some (ao ops i):=by
 unfold ao;simp[h]
theorem dj {i t:Nat}(h:dd n ops k0 AL L i t=true):TakeOk n ops k0 AL L i t:=by
 unfold dd at h
 simp only[la,decide_eq_true_eq,beq_iff_eq] at h
 obtain ⟨⟨⟨⟨⟨⟨⟨h1,e⟩,d⟩,f⟩,j⟩,b⟩,c⟩,a⟩:=h;exact ⟨bj h1,e,d,f,by simpa using j,il b,c,a⟩
theorem Rg.pure (i t:Nat)(v:Value)(b:(dd n ops k0 AL L i t && a6 Γ (ao ops i))=true)(l:bh ops Γ (ao ops i)=some true)
  (hr:∀ w,(execOp (ev Γ) (ao ops i)).run P w=.ok (.value v) w)
  (k:EG M P n N R X ops k0 h0 AL (L.setIfInBounds i true) ((t,v)::Γ) w h):EG M P n N R X ops k0 h0 AL L Γ w h:=by
 rw[la] at b
 obtain ⟨b,e⟩:=b;have c:=dj b;intro f hM g j a d;have e1:=d.exec (Region.noSelect_spec c.sel i _ · · c.get) e;refine E.take0 (v:=v) (S:=fun _=>True) c.get c.lt c.sel c.free c.ready c.al (fun _ _ _ o=>o) (fun _ _ _ _=>trivial) (fun _ _=>trivial) (.inl ⟨d.want l,fun w _=>by rw[e1];exact hr w⟩) (.inl fun _=>trivial) ?_;rw[c.dst];exact k f hM g j _ (d.put c.tn v)
theorem Rg.skip (i t:Nat)(l:dd n ops k0 AL L i t=true)(f:bh ops Γ (ao ops i)=some false)
  (k:EG M P n N R X ops k0 h0 AL (L.setIfInBounds i true) ((t,undef)::Γ) w h):EG M P n N R X ops k0 h0 AL L Γ w h:=by
 have c:=dj l;intro d hM g b a e;refine E.take0 (v:=undef) (S:=fun _=>True) c.get c.lt c.sel c.free c.ready c.al (fun _ _ _ j=>j) (fun _ _ _ _=>trivial) (fun _ _=>trivial) (.inr ⟨e.want f,rfl⟩) (.inl fun _=>trivial) ?_;rw[c.dst];exact k d hM g b _ (e.put c.tn undef)
def gN (ops:Array Oper)(k0 i:Nat):Bool:=(o0 ops.size).all fun j=>decide (j<k0) || (ao ops j).after.any fun e=>Region.binds .any e && e.on == i
theorem i5 {i:Nat}(h:gN ops k0 i=true):∀ j b,ops[j]?=some b->k0<=j->j≠i->∃ e∈b.after,Region.binds .any e=true/\e.on=i:=by
 intro j b c hk _;have a:=(hP.1 c).1;have e:b=ao ops j:=by have:=bj (ops:=ops) a;rw[c] at this;injection this
 have:=(ov.1 h) j (pa.2 a)
 simp only[po,decide_eq_true_eq,sA,la,beq_iff_eq] at this
 rcases this with h1|⟨x,hx,h2⟩
 ·omega
 ·rw[e];exact ⟨_,ta hx,h2⟩
theorem Rg.load (i t:Nat)(v:Value)(b:(dd n ops k0 AL L i t && a6 Γ (ao ops i) && gN ops k0 i)=true)(x:bh ops Γ (ao ops i)=some true)
  (hr:∀ w',Mo M.l w w'->(execOp (ev Γ) (ao ops i)).run P w'=.ok (.value v) w')
  (k:EG M P n N R X ops k0 h0 AL (L.setIfInBounds i true) ((t,v)::Γ) w h):EG M P n N R X ops k0 h0 AL L Γ w h:=by
 rw[la,la] at b
 obtain ⟨⟨b,e⟩,j⟩:=b;have c:=dj b;intro f hM g p a d;have e1:=d.exec (Region.noSelect_spec c.sel i _ · · c.get) e;refine E.take0 (v:=v) (S:=fun w'=>Mo M.l w w') c.get c.lt c.sel c.free c.ready c.al (fun _ _ _ y=>y) (fun _ _ h1 u=>h1.trans u) (fun _ o=>o) (.inl ⟨d.want x,fun w' o=>by rw[e1];exact hr w' o⟩) (.inr (.inr (i5 j))) ?_;rw[c.dst];exact k f hM g p _ (d.put c.tn v)
theorem Rg.loadZ (i t:Nat)(v:Value){bs:List Nat}(hz:M.z=some (h0.size,bs))(j:(dd n ops k0 AL L i t && a6 Γ (ao ops i))=true)(y:bh ops Γ (ao ops i)=some true)
  (hr:∀ w',(∀ b,b<h0.size->b ∉ bs->b ∉ M.l->w'.heap[b]?=w.heap[b]?)->(execOp (ev Γ) (ao ops i)).run P w'=.ok (.value v) w')
  (k:EG M P n N R X ops k0 h0 AL (L.setIfInBounds i true) ((t,v)::Γ) w h):EG M P n N R X ops k0 h0 AL L Γ w h:=by
 rw[la] at j
 obtain ⟨j,p⟩:=j;have c:=dj j;intro u hM g f a o;have x:h0.size<=w.heap.size:=by rw[g.size];exact f
 have e1:=o.exec (Region.noSelect_spec c.sel i _ · · c.get) p;refine E.take0 (v:=v) (S:=fun w'=>h0.size<=w'.heap.size/\∀ b,b<h0.size->b ∉ bs->b ∉ M.l->w'.heap[b]?=w.heap[b]?) c.get c.lt c.sel c.free c.ready c.al (fun _ _ _ B=>B) ?_ ?_ (.inl ⟨o.want y,fun w' C=>by rw[e1];exact hr w' C.2⟩) (.inr (.inl ?_)) ?_
 ·intro w1 w2 s m
  exact ⟨e4 s.1 m.size,fun b d h1 e=>(m.blk b (e5 d s.1) e).trans (s.2 b d h1 e)⟩
 ·intro w' m
  exact ⟨e4 x m.size,fun b d h1 e=>m.blk b (e5 d x) e⟩
 ·intro w1 w2 s m
  have:=m h0.size bs hz;exact ⟨e4 s.1 this.1,fun b d h1 e=>(this.2 b d h1).trans (s.2 b d h1 e)⟩
 ·rw[c.dst]
  exact k u hM g f _ (o.put c.tn v)
def mr (n:Nat)(ops:Array Oper)(k0:Nat)(AL:List Al)(L:Array Bool)(i t:Nat):Bool :=
  let o:=ao ops i
  decide (i<ops.size) && decide (i<k0) && Region.noSelect ops && (L.size == ops.size) && (L.getD i true == false) &&
  ((o0 ops.size).all fun j=>L.getD j true || j == i || AL.any (·.i == j) || (ao ops j).after.any fun e=>Region.binds .any e && (L.getD e.on false == false) && AL.all (·.i != e.on)) &&
  (o.after.all fun e=>!Region.binds .any e || L.getD e.on false || AL.any (·.i == e.on)) &&
  rK ops AL i o && (o.dst == some t) && decide (t<n)
theorem Rg.event (i t:Nat)(B:(mr n ops k0 AL L i t && a6 Γ (ao ops i))=true)(hw:bh ops Γ (ao ops i)=some true)
  (H:∀ w' D,Up w h w' D ->
   (∃ v c b,(execOp (ev Γ) (ao ops i)).run P w'=.ok (.value v) c/\UpM M.l w' D c b/\EG M P n N R X ops k0 h0 AL (L.setIfInBounds i true) ((t,v)::Γ) c b) \/
   (∃ f args,(execOp (ev Γ) (ao ops i)).run P w'=.ok (.enter f args) w'/\Calls P f args w' (fun e c=>∃ v b,e=.returned v/\UpM M.l w' D c b/\EG M P n N R X ops k0 h0 AL (L.setIfInBounds i true) ((t,v)::Γ) c b))) :
  EG M P n N R X ops k0 h0 AL L Γ w h:=by
 rw[la] at B
 obtain ⟨B,K⟩:=B
 unfold mr at B
 simp only[la,decide_eq_true_eq,beq_iff_eq] at B
 obtain ⟨⟨⟨⟨⟨⟨⟨⟨⟨h1,h2⟩,Z⟩,h4⟩,h5⟩,h6⟩,h7⟩,h8⟩,W⟩,C⟩:=B;have d:=bj (ops:=ops) h1;intro p hM g F a J;have e1:=J.exec (Region.noSelect_spec Z i _ · · d) K;refine E.event0 d h2 Z h4 h5 ?_ ?_ (il h8) p hM g F ?_
 ·intro j oj Y V S O
  have I:=(hP.1 Y).1;have e:oj=ao ops j:=by have:=bj (ops:=ops) I;rw[Y] at this;injection this
  have:=(ov.1 h6) j (pa.2 I)
  simp only[po,V,ul,false_or,beq_iff_eq,S,um,sA,la] at this
  rcases this with ⟨x,hx,hxe⟩|⟨x,hx,⟨U,hL⟩,hno⟩
  ·exact absurd hxe (O x hx)
  ·rw[e]
   refine ⟨_,ta hx,U,hL,fun y hy=>?_⟩;have:=(ov.1 hno) y hy
   simpa using this
 ·intro e Q U
  have:=(oi.1 h7) e Q
  simp only[po,U,u9,ul,false_or,um,beq_iff_eq] at this
  exact this
 ·intro w' D u
  refine ⟨J.want hw,?_⟩;rw[e1];have o:=e4 F u.gr.size
  rcases H w' D u with ⟨v,c,b,hr,z,k⟩|⟨f,args,hr,hcall⟩
  ·exact .inl ⟨v,c,hr,b,z,by rw[W];exact k p hM z.g (e4 o z.gr.size) _ (J.put C v)⟩
  ·exact .inr (.inr ⟨f,args,hr,hcall.mono fun e c ⟨v,b,Q,z,k⟩=>⟨v,Q,b,z,by rw[W];exact k p hM z.g (e4 o z.gr.size) _ (J.put C v)⟩⟩)
theorem Rg.call (i t f:Nat)(args:Array Value)(c:(mr n ops k0 AL L i t && a6 Γ (ao ops i))=true)(b:bh ops Γ (ao ops i)=some true)
 (hr:∀ w',(execOp (ev Γ) (ao ops i)).run P w'=.ok (.enter f args) w')
 (H:∀ w' a,Up w h w' a->Calls P f args w' (fun e w''=>∃ v h'',e=.returned v/\UpM M.l w' a w'' h''/\EG M P n N R X ops k0 h0 AL (L.setIfInBounds i true) ((t,v)::Γ) w'' h'')) :
 EG M P n N R X ops k0 h0 AL L Γ w h:=Rg.event i t c b (fun w' a u=>.inr ⟨f,args,hr w',H w' a u⟩)
def fG (ops:Array Oper)(AL:List Al)(L:Array Bool):Bool :=
  (L.size == ops.size) && ((o0 ops.size).all fun j=>L.getD j true || AL.any (·.i == j) || AL.all fun x=>(ao ops j).after.any fun e=>Region.binds .any e && e.on == x.i) && AL.all (fun x=>L.getD x.i true == false)
theorem Rg.fin (l:fG ops AL L=true)(c:(AL.map (·.i)).Nodup)
  (H:∀ a,Kn n a Γ->∀ w' h',Up w h w' h'->∀ S:List SA,(S.map (·.1)).Perm AL->(∀ s∈S,Blk h0 w' h' s)->(S.map (·.2)).Nodup->A M P ops (gZ N R X) k0 (dw L S) (addA a S) w') :
  EG M P n N R X ops k0 h0 AL L Γ w h:=by
 unfold fG at l
 simp only[la,beq_iff_eq] at l
 obtain ⟨⟨h1,D⟩,I⟩:=l;intro d hM _ p a B;refine E.fin0 h1 ?_ ?_ d hM p c (H a B)
 ·intro j C u f
  have b:=(hP.1 u).1;have e:C=ao ops j:=by have:=bj (ops:=ops) b;rw[u] at this;injection this
  have:=(ov.1 D) j (pa.2 b)
  simp only[po,f,ul,false_or,um,beq_iff_eq] at this
  rcases this with h4|h4
  ·exact .inl h4
  ·refine .inr fun x o=>?_
   have:=(ov.1 h4) x o
   simp only[sA,la,beq_iff_eq] at this
   obtain ⟨y,z,F⟩:=this;rw[e];exact ⟨_,ta z,F⟩
 ·intro x o
  have:=(ov.1 I) x o
  simpa using this
theorem Rg.fin0 (e:fG ops [] L=true)(H:∀ w' b,Up w h w' b->AG M P n N R X ops k0 L Γ w'):EG M P n N R X ops k0 h0 [] L Γ w h:=by
 refine Rg.fin e (by simp) ?_;intro a c w' b u S d _ _;have:S=[]:=by simpa using d.length_eq
 subst this;exact H w' b u a c
theorem Rg.fin1 {x:Al}(d:(fG ops [x] L && decide (x.t<n))=true) 
    (H:∀ w' c b,Up w h w' c->Blk h0 w' c (x,b)->AG M P n N R X ops k0 (L.setIfInBounds x.i true) ((x.t,.pointer (some ⟨b,0,none⟩))::Γ) w'):EG M P n N R X ops k0 h0 [x] L Γ w h:=by
  rw[la,decide_eq_true_eq] at d
  refine Rg.fin d.1 (by simp) ?_;intro a f w' c u S e l _;have j:=e.length_eq
  match S,j with
  | [s],_ =>
    have:s.1=x:=by simpa using e
    obtain ⟨y,b⟩:=s
    simp at this
    subst this;exact H w' c b u (l _ (by simp)) _ (f.put d.2 _)
theorem Rg.fin2 {x y:Al}(C:(fG ops [x,y] L && decide (x.t<n) && decide (y.t<n) && (x.t != y.t) && (x.i != y.i))=true) 
    (H:∀ w' o b c,Up w h w' o->Blk h0 w' o (x,b)->Blk h0 w' o (y,c)->b≠c->AG M P n N R X ops k0 ((L.setIfInBounds y.i true).setIfInBounds x.i true) ((x.t,.pointer (some ⟨b,0,none⟩))::(y.t,.pointer (some ⟨c,0,none⟩))::Γ) w'):EG M P n N R X ops k0 h0 [x,y] L Γ w h:=by
  simp only[la,decide_eq_true_eq,bne_iff_ne,ne_eq] at C
  obtain ⟨⟨⟨⟨C,h1⟩,K⟩,W⟩,F⟩:=C;refine Rg.fin C (by simp[F]) ?_;intro a I w' o u S J B Z;have Y:=J.length_eq
  match S,Y with
  | [s, t],_ =>
    obtain ⟨f,b⟩:=s;obtain ⟨j,c⟩:=t;have z:b≠c:=by simpa using Z
    have U:f=x/\j=y\/f=y/\j=x:=by
      have l:[f,j].Perm [x,y]:=by simpa using J
      have Q:f∈[x,y]:=l.mem_iff.1 (by simp);have m2:x∈[f,j]:=l.mem_iff.2 (by simp);have O:y∈[f,j]:=l.mem_iff.2 (by simp);have p:x≠y:=fun e=>F (by rw[e])
      simp at Q m2 O
      rcases Q with rfl|rfl
      . rcases O with e|e
        . exact absurd e.symm p
        . exact .inl ⟨rfl,e.symm⟩
      . rcases m2 with e|e
        . exact absurd e p
        . exact .inr ⟨rfl,e.symm⟩
    rcases U with ⟨rfl,rfl⟩|⟨rfl,rfl⟩
    . exact H w' o b c u (B _ (by simp)) (B _ (by simp)) z _ ((I.put K _).put h1 _)
    . have e1:dw L [(f,b),(j,c)]=(L.setIfInBounds f.i true).setIfInBounds j.i true:=gx _ _ F
      have e2:addA a [(f,b),(j,c)]=(a.put (some f.t) (.pointer (some ⟨b,0,none⟩))).put (some j.t) (.pointer (some ⟨c,0,none⟩)) :=
        Act.put_comm (x:=some j.t) (y:=some f.t) a _ _ (fun d V D=>W (Option.some.inj (V.trans D.symm)))
      rw[e1,e2];exact H w' o c b u (B _ (by simp)) (B _ (by simp)) (Ne.symm z) _ ((I.put K _).put h1 _)
def io (ops:Array Oper)(k0:Nat)(L:Array Bool)(i:Nat):Bool :=
  decide (i<ops.size) && decide (k0<=i) && Region.noSelect ops && (Region.ready .any ops L == [i])
theorem A.one {a:Act}{i:Nat}(b:io ops k0 L i=true){Q:Exit->Act->World->Prop}{o:Oper}(e:ops[i]?=some o){R':Value->World->Prop}(h:OpR P ops o a w R')(f:∀ v w',R' v w'->Tl M w w')
  (d:∀ v w',R' v w'->A M P ops Q k0 (L.setIfInBounds i true) (a.put o.dst v) w'):A M P ops Q k0 L a w:=by
 unfold io at b
 simp only[la,decide_eq_true_eq,beq_iff_eq] at b
 refine A.intro (fun h0=>by rw[b.2] at h0;cases h0) (fun j c=>?_);rw[b.2,vl] at c
 subst c;exact OpR.wpOp e h (fun v w' hr=>⟨Rl.tl b.1.1.2 (f v w' hr),d v w' hr⟩)
theorem kK {i:Nat}(a:io ops k0 L i=true):ops[i]?=some (ao ops i)/\Region.noSelect ops=true:=by
 unfold io at a
 simp only[la,decide_eq_true_eq,beq_iff_eq] at a
 exact ⟨bj a.1.1.1,a.1.2⟩
theorem T.val (i t:Nat)(v:Value)(w':World)(d:(io ops k0 L i && a6 Γ (ao ops i) && ((ao ops i).dst == some t) && decide (t<n))=true)(l:bh ops Γ (ao ops i)=some true)
  (hr:(execOp (ev Γ) (ao ops i)).run P w=.ok (.value v) w')(k:AG M P n N R X ops k0 (L.setIfInBounds i true) ((t,v)::Γ) w')(f:Tl M w w':=by exact Tl.refl _ _):AG M P n N R X ops k0 L Γ w:=by
 simp only[la,decide_eq_true_eq,beq_iff_eq] at d
 obtain ⟨⟨⟨h1,j⟩,p⟩,o⟩:=d;obtain ⟨c,h⟩:=kK h1;intro a b;refine A.one h1 c (R':=fun u w1=>u=v/\w1=w') ⟨b.want l,.inl ⟨v,w',?_,rfl,rfl⟩⟩ (fun _ _ e=>e.2▸f) ?_
 ·rw[b.exec (Region.noSelect_spec h i _ · · c) j];exact hr
 ·rintro _ _ ⟨rfl,rfl⟩
  rw[p];exact k _ (b.put o _)
theorem T.store (i:Nat)(w':World)(d:(io ops k0 L i && a6 Γ (ao ops i) && ((ao ops i).dst == none))=true)(o:bh ops Γ (ao ops i)=some true)
  (hr:(execOp (ev Γ) (ao ops i)).run P w=.ok .skip w')(f:Tl M w w')(k:AG M P n N R X ops k0 (L.setIfInBounds i true) Γ w'):AG M P n N R X ops k0 L Γ w:=by
 simp only[la,beq_iff_eq] at d
 obtain ⟨⟨h1,l⟩,h⟩:=d;obtain ⟨c,j⟩:=kK h1;intro a b;refine A.one h1 c (R':=fun u w1=>u=undef/\w1=w') ⟨b.want o,.inr (.inl ⟨w',?_,rfl,rfl⟩)⟩ (fun _ _ e=>e.2▸f) ?_
 ·rw[b.exec (Region.noSelect_spec j i _ · · c) l];exact hr
 ·rintro _ _ ⟨rfl,rfl⟩
  rw[h];exact k _ b
theorem T.done (c:(Region.ready .any ops L).isEmpty=true)(k:∀ a,Kn n a Γ->N a w):AG M P n N R X ops k0 L Γ w :=
 fun a b=>A.done c (k a b)
theorem T.next {y:Code}{N' R':Po}{X':Nat->Po}(c:(Region.ready .any ops L).isEmpty=true)(k:CG P n N' R' X' y Γ w):AG M P n (fun a w=>y.wp P (gZ N' R' X') a w) R X ops k0 L Γ w :=
 fun a b=>A.done c (k a b)
end steps
section code
variable {P:Program}{n:Nat}{N R:Po}{X:Nat->Po}{Γ:bW}{w:World}
def jR (ops:Array Oper):Bool:=(o0 ops.size).all fun i=>(ao ops i).after.all fun e=>!Region.binds .any e || decide (e.on<i)
theorem nw {M:Ms}{ops:Array Oper}{Q:Exit->Act->World->Prop}{k0:Nat}(h:jR ops=true):∀ (m k:Nat) (L:Array Bool) (a:Act) (w:World),k+m=ops.size->L.size=ops.size ->
    (∀ j,j<ops.size->L.getD j true=decide (j<k))->A M P ops Q k0 L a w->wpOps P ops Q (v2 k m) a w:=by
  intro m
  induction m with
  | zero =>
    intro k L a w hk u b d
    have hz:Region.ready .any ops L=[]:=by
      cases hr:Region.ready .any ops L with
      | nil=>rfl
      | cons i l =>
        have B:i∈Region.ready .any ops L:=by rw[hr];simp
        obtain ⟨h0,o,C,_⟩:=mem_ready.1 B;have hi:=(hP.1 C).1;rw[b i hi] at h0
        simp at h0
        omega
    show Q .normal a w
    unfold A at d
    cases z:rem L with
    | zero=>rw[z] at d;exact d.2
    | succ n=>rw[z] at d;exact d.1 hz
  | succ m ih =>
    intro k L a w hk u b d;have f:k<ops.size:=by omega
    have c:k∈Region.ready .any ops L:=by
      refine mem_ready.2 ⟨by rw[b k f];simp,ao ops k,bj f,fun e D H=>?_⟩;have h1:=(ov.1 h) k (pa.2 f);have x:=(oi.1 h1) e D
      simp only[H,u9,Bool.false_or,decide_eq_true_eq] at x
      have p:=b e.on oM;rw[show decide (e.on<k)=true by simp[x]] at p
      have J:e.on<L.size:=by omega
      simp[gp,J] at p ⊢
      exact p
    rw[x1,wpOps_cons]
    unfold A at d
    rw[eZ c] at d
    refine wpOp_mono (fun F w' I=>?_) (d.2 k c);refine ih (k+1) (L.setIfInBounds k true) F w' oM (by simpa using u) ?_ I.2;intro j y
    by_cases e:k=j
    . subst e
      simp[gp,u,y]
    . rw[getD_set_ne true e,b j y]
      congr 1
      simp only[eq_iff_iff]
      omega
theorem ib (m:Nat):rem (x2 m false)=m:=by unfold rem;simp
theorem kb {m j:Nat}(a:j<m):(x2 m false).getD j true=false:=by simp[gp,a]
theorem CG.region {id:Nat}{ops:Array Oper}{d:Bool}(M:Ms)(k0:Nat)(AL:List Al)(y:P.follows .mixedOrders=true)(c:jR ops=true){h:Hp}(g:G w h)(e:∀ x∈AL,AlOk P ops k0 x)(hM:∀ b∈M.l,b<h.size)
    (H:EG M P n N R X ops k0 h AL (x2 ops.size false) Γ w h):CG P n N R X (.region id ops d) Γ w:=by
  intro a o;have i:∀ w' f,Up w h w' f->A M P ops (gZ N R X) k0 (x2 ops.size false) a w':=fun w' f u=>H e hM g (ey _) a o w' f u [] AL (List.Perm.refl _) (fun _ p=>by cases p) (by simp)
  cases d with
  | true =>
    refine wp_region_any y ?_;have h1:=i w.drew h (Up.drew (Up.refl g))
    unfold A at h1
    rw[ib] at h1
    exact kr _ _ _ _ _ _ _ _ _ h1
  | false =>
    refine wp_region ?_;rw[x3];exact nw c _ 0 _ a w oM (by simp) (fun j z=>by rw[kb z];simp) (i w h (Up.refl g))
theorem CG.seq {x y:Code}(H:CG P n (fun a w=>y.wp P (gZ N R X) a w) R X x Γ w):CG P n N R X (.seq x y) Γ w:=by
 intro a b;refine wp_seq (wp_mono (H a b) ?_);intro e a w c;cases e<;>exact c
theorem CG.cond {c:Operand}{x y:Code}(t:Bool)(f:gl Γ c=true)(hv:ev Γ c=.bool t)(d:t=true->CG P n N R X x Γ w)(hf:t=false->CG P n N R X y Γ w):CG P n N R X (.cond c x y) Γ w :=
 fun a b=>wp_cond_split (by rw[b.eval f];exact hv) (fun e=>d e a b) (fun e=>hf e a b)
theorem CG.condT {c:Operand}{x y:Code}(b:gl Γ c=true)(hv:ev Γ c=.bool true)(a:CG P n N R X x Γ w):CG P n N R X (.cond c x y) Γ w:=CG.cond true b hv (fun _=>a) (fun e=>by cases e)
theorem CG.condF {c:Operand}{x y:Code}(b:gl Γ c=true)(hv:ev Γ c=.bool false)(a:CG P n N R X y Γ w):CG P n N R X (.cond c x y) Γ w:=CG.cond false b hv (fun e=>by cases e) (fun _=>a)
theorem CG.skip (H:∀ a,Kn n a Γ->N a w):CG P n N R X .skip Γ w:=fun a b=>wp_skip (H a b)
theorem CG.skipN {y:Code}{N' R':Po}{X':Nat->Po}(H:CG P n N' R' X' y Γ w):CG P n (fun a w=>y.wp P (gZ N' R' X') a w) R X .skip Γ w:=fun a b=>wp_skip (H a b)
theorem CG.ret (H:∀ a,Kn n a Γ->R a w):CG P n N R X .ret Γ w:=fun a b=>wp_ret (H a b)
theorem CG.exit {id:Nat}(H:∀ a,Kn n a Γ->X id a w):CG P n N R X (.exit id) Γ w:=fun a b=>wp_exit (H a b)
theorem CG.block {id:Nat}{c:Code}(H:CG P n N R (fun i=>if i=id then N else X i) c Γ w):CG P n N R X (.block id c) Γ w:=by
 intro a f;refine wp_block (wp_mono (H a f) ?_);intro e a w d;cases e<;>try exact d
 rename_i i
 simp only[gZ] at d
 simp only[Exit.inBlock,gZ]
 split
 ·rename_i b;rw[if_pos b] at d;exact d
 ·rename_i b;rw[if_neg b] at d;exact d
theorem CG.to {c:Code}(Γ':bW)(e:iT Γ (Γ'.map (·.1))=Γ')(d:fS Γ'=fS Γ)(H:CG P n N R X c Γ' w):CG P n N R X c Γ w :=
 fun a b=>H a (b.mono (fun t v hv=>eo Γ (Γ'.map (·.1)) t v (by rw[e];exact hv)) d)
theorem Kn.to {a:Act}(k:Kn n a Γ)(Γ':bW)(c:iT Γ (Γ'.map (·.1))=Γ')(b:fS Γ'=fS Γ:=by kernel_rfl):Kn n a Γ' :=
 k.mono (fun t v hv=>eo Γ (Γ'.map (·.1)) t v (by rw[c];exact hv)) b
theorem CG.loop {c:Code}(I:Nat->bW->World->Prop)(m:Nat)(h0:I m Γ w)
    (u:∀ m Γ w,I m Γ w->CG P n (fun a w'=>∃ C j,C<m/\I C j w'/\Kn n a j) R X c Γ w):CG P n N R X (.loop c) Γ w:=by
  intro a F
  suffices key:∀ m a w Γ,I m Γ w->Kn n a Γ->∀ (b:Frame) (k:List Item) (cs:List Frame),∃ e D w',gZ N R X e D w'/\Arrives P (lone (b.at a (.code c::.inLoop c::k)) cs w) b k cs e D w' by
    intro b k cs;obtain ⟨e,D,w',o,d⟩:=key m a w Γ h0 F b k cs;exact ⟨e,D,w',o,.of_steps (.one step_loop) d⟩
  intro m
  induction m using hO with
  | _ m ih =>
    intro a w Γ L F b k cs;obtain ⟨e,f,h,o,d⟩:=u m Γ w L a F b (.inLoop c::k) cs;cases e with
    | normal =>
      obtain ⟨C,j,K,J,H⟩:=o;obtain ⟨z,y,B,p,i⟩:=ih C K f h j J H b k cs;exact ⟨z,y,B,p,.of_steps (Steps.trans d (.one step_inLoop)) i⟩
    | exit id=>exact ⟨.exit id,f,h,o,.pass (x:=.inLoop c) rfl (fun _ _=>.inl (by simp)) d⟩
    | goto l=>exact o.elim
    | ret=>exact ⟨.ret,f,h,o,.pass (x:=.inLoop c) rfl (fun _ _=>.inl (by simp)) d⟩
    | panic ch=>exact o.elim
    | outgrown=>exact o.elim
def envOf (l:List Value):bW:=go 0 l
where go:Nat->List Value->bW
  | _,[]=>[]
  | k,v::l=>(k,v)::go (k+1) l
theorem oo:∀ (l:List Value) (k t:Nat) (v:Value),(envOf.go k l).lookup t=some v->k<=t/\l[t-k]?=some v
  | [],_,_,_,h=>by simp[envOf.go] at h
  | u :: l,k,t,v,h=>by
    rw[envOf.go,i2] at h
    by_cases e:t=k
    . subst e;simp at h;subst h;exact ⟨ey _,by simp⟩
    . have b:(t == k)=false:=by simp[e]
      rw[b] at h
      obtain ⟨h1,a⟩:=oo l (k+1) t v h;refine ⟨by omega,?_⟩;obtain ⟨d,hd⟩:∃ d,t-k=d+1:=⟨t-k-1,by omega⟩;rw[hd];have:t-(k+1)=d:=by omega
      rw[this] at a
      simpa using a
theorem iU {l:List Value}{t:Nat}{v:Value}(h:(envOf l).lookup t=some v):l[t]?=some v:=by
 have:=oo l 0 t v h
 simpa using this.2
def mT (P:Program)(fn:Func)(Ro:Ending->World->Prop):Po:=fun a w=>a.defers=[]/\∃ v,(results fn a.tmps).run P w=.ok v w/\Ro (.returned v) w
theorem enter {f:FuncId}{h:Func}{c:Code}{args:Array Value}{j:Ending->World->Prop}(hf:P.funcs[f]?=some h)(u:h.body=some c)(y:h.ntmps=n)(x:args.size<=n)(o:n<=1000000)
    (Γ0:bW)(d:Γ0=envOf args.toList)(H:CG P n (mT P h j) (mT P h j) (fun _ _ _=>False) c Γ0 w):Calls P f args w j:=by
  refine calls_of_wp hf u (wp_mono (H _ ⟨?_,?_,o,?_⟩) ?_)
  . show []=fS Γ0
    unfold fS
    cases e:Γ0.lookup 1000000 with
    | none=>rfl
    | some v =>
      rw[d] at e
      have h1:=iU e;rw[ya (by simp;omega)] at h1
      cases h1
  . simp;omega
  . intro t v _ hv
    rw[d] at hv
    have h1:=iU hv
    have p:t<args.size:=by
      rcases ep t args.size with hl|hl
      . exact hl
      . rw[ya (by simpa using hl)] at h1;cases h1
    rw[yb p]
    simpa using h1
  . intro e a w b
    cases e with
    | normal=>exact b
    | ret=>exact b
    | exit i=>exact b.elim
    | goto l=>exact b.elim
    | panic ch=>exact b.elim
    | outgrown=>exact b.elim
def LG (P:Program)(n:Nat)(N R:Po)(X:Nat->Po)(ops:Array Oper)(k:Nat)(Γ:bW)(w:World):Prop :=
  ∀ a,Kn n a Γ->wpOps P ops (gZ N R X) (v2 k (ops.size-k)) a w
theorem CG.listed {id:Nat}{ops:Array Oper}(H:LG P n N R X ops 0 Γ w):CG P n N R X (.region id ops false) Γ w :=
 fun a b=>wp_region (by rw[x3];exact H a b)
section listed
variable {ops:Array Oper}{k:Nat}
def fX (ops:Array Oper)(Γ:bW)(k:Nat):Bool:=decide (k<ops.size) && Region.noSelect ops && a6 Γ (ao ops k)
theorem LG.op (b:fX ops Γ k=true)(e:bh ops Γ (ao ops k)=some true){R':Value->World->Prop}
  (h:∀ a,Kn n a Γ->OpR P ops (ao ops k) a w R')(d:∀ a v w',Kn n a Γ->R' v w'->wpOps P ops (gZ N R X) (v2 (k+1) (ops.size-(k+1))) (a.put (ao ops k).dst v) w'):LG P n N R X ops k Γ w:=by
 unfold fX at b
 simp only[la,decide_eq_true_eq] at b
 intro a c;obtain ⟨m,hm⟩:∃ m,ops.size-k=m+1:=⟨ops.size-k-1,by omega⟩;rw[hm,x1,wpOps_cons];refine OpR.wpOp (bj b.1.1) (h a c) (fun v w' hr=>?_);have:=d a v w' c hr;rw[show ops.size-(k+1)=m by omega] at this
 exact this
theorem LG.val (t:Nat)(v:Value)(w':World)(e:(fX ops Γ k && ((ao ops k).dst == some t) && decide (t<n))=true)(d:bh ops Γ (ao ops k)=some true)
  (hr:(execOp (ev Γ) (ao ops k)).run P w=.ok (.value v) w')(H:LG P n N R X ops (k+1) ((t,v)::Γ) w'):LG P n N R X ops k Γ w:=by
 simp only[la,decide_eq_true_eq,beq_iff_eq] at e
 obtain ⟨⟨h1,h⟩,f⟩:=e;have b:=h1
 unfold fX at b
 simp only[la,decide_eq_true_eq] at b
 refine LG.op h1 d (R':=fun u w1=>u=v/\w1=w') (fun a c=>⟨c.want d,.inl ⟨v,w',?_,rfl,rfl⟩⟩) ?_
 ·rw[c.exec (Region.noSelect_spec b.1.2 k _ · · (bj b.1.1)) b.2];exact hr
 ·rintro a _ _ c ⟨rfl,rfl⟩
  rw[h];exact H _ (c.put f _)
theorem LG.out (t:Nat)(c:(decide (k<ops.size) && ((ao ops k).dst == some t) && decide (t<n))=true)(f:bh ops Γ (ao ops k)=some false)
  (H:LG P n N R X ops (k+1) ((t,undef)::Γ) w):LG P n N R X ops k Γ w:=by
 simp only[la,decide_eq_true_eq,beq_iff_eq] at c
 obtain ⟨⟨h1,e⟩,d⟩:=c;intro a b;obtain ⟨m,hm⟩:∃ m,ops.size-k=m+1:=⟨ops.size-k-1,by omega⟩;rw[hm,x1,wpOps_cons]
 unfold wpOp
 simp only[bj h1,b.want f,ul,if_false]
 have:=H _ (b.put d undef);rw[show ops.size-(k+1)=m by omega] at this
 rw[e];exact this
theorem LG.store (w':World)(e:(fX ops Γ k && ((ao ops k).dst == none))=true)(d:bh ops Γ (ao ops k)=some true)
  (hr:(execOp (ev Γ) (ao ops k)).run P w=.ok .skip w')(H:LG P n N R X ops (k+1) Γ w'):LG P n N R X ops k Γ w:=by
 simp only[la,beq_iff_eq] at e
 obtain ⟨h1,f⟩:=e;have b:=h1
 unfold fX at b
 simp only[la,decide_eq_true_eq] at b
 refine LG.op h1 d (R':=fun u w1=>w1=w') (fun a c=>⟨c.want d,.inr (.inl ⟨w',?_,rfl⟩)⟩) ?_
 ·rw[c.exec (Region.noSelect_spec b.1.2 k _ · · (bj b.1.1)) b.2];exact hr
 ·rintro a _ _ c rfl
  rw[f];exact H _ c
theorem LG.call (t f:Nat)(args:Array Value)(i:(fX ops Γ k && ((ao ops k).dst == some t) && decide (t<n))=true)(d:bh ops Γ (ao ops k)=some true)
  (hr:(execOp (ev Γ) (ao ops k)).run P w=.ok (.enter f args) w)(H:Calls P f args w (fun e w'=>∃ v,e=.returned v/\LG P n N R X ops (k+1) ((t,v)::Γ) w')):LG P n N R X ops k Γ w:=by
 simp only[la,decide_eq_true_eq,beq_iff_eq] at i
 obtain ⟨⟨h1,l⟩,j⟩:=i;have b:=h1
 unfold fX at b
 simp only[la,decide_eq_true_eq] at b
 refine LG.op h1 d (R':=fun v w'=>LG P n N R X ops (k+1) ((t,v)::Γ) w') (fun a c=>⟨c.want d,.inr (.inr ⟨f,args,?_,H⟩)⟩) ?_
 ·rw[c.exec (Region.noSelect_spec b.1.2 k _ · · (bj b.1.1)) b.2];exact hr
 ·rintro a v w' c h
  rw[l];exact h _ (c.put j _)
theorem LG.done (b:(k == ops.size)=true)(H:∀ a,Kn n a Γ->N a w):LG P n N R X ops k Γ w:=by
 simp only[beq_iff_eq] at b
 subst b;intro a c;rw[yc];exact H a c
theorem LG.next {y:Code}{N' R':Po}{X':Nat->Po}(b:(k == ops.size)=true)(H:CG P n N' R' X' y Γ w):LG P n (fun a w=>y.wp P (gZ N' R' X') a w) R X ops k Γ w:=LG.done b H
end listed
theorem ai {ops:Array Oper}{k0:Nat}:∀ x∈([]:List Al),AlOk P ops k0 x:=fun _ h=>by cases h
theorem be {ops:Array Oper}{k0:Nat}{x:Al}{l:List Al}(h:AlOk P ops k0 x)(k:∀ y∈l,AlOk P ops k0 y):∀ y∈x::l,AlOk P ops k0 y:=fun y a=>by
 rcases g4.1 a with rfl|a
 ·exact h
 ·exact k y a
def Cv (ops:Array Oper)(k0:Nat)(x:Al):Bool:=decide (x.i<ops.size) && ((ao ops x.i).dst == some x.t) && (ao ops x.i).guard.isNone && (ao ops x.i).after.isEmpty && decide (x.i<k0)
theorem dE {ops:Array Oper}{k0:Nat}{x:Al}(a:Cv ops k0 x=true)(hr:∀ (ρ:Operand->Value) (w:World),(execOp ρ (ao ops x.i)).run P w=.ok (.value (.pointer (some ⟨w.heap.size,0,none⟩))) (w.alloc x.o)):AlOk P ops k0 x:=by
 unfold Cv at a
 simp only[la,decide_eq_true_eq,beq_iff_eq,Option.isNone_iff_eq_none,Array.isEmpty_iff] at a
 exact ⟨⟨_,bj a.1.1.1.1,a.1.1.1.2,a.1.1.2,a.1.2,hr⟩,a.2⟩
end code
def bO {α:Type}(P:Program):Sem α->List Value->Option (α × List Addr)
  | .pure a,_=>some (a,[])
  | .load _ a k,v::vs=>(bO P (k v) vs).map fun r=>(r.1,a::r.2)
  | .program k,vs=>bO P (k P) vs
  | .mark _ k,vs=>bO P k vs
  | _,_=>none
theorem bM {α:Type}{P:Program}{w:World}:∀ (s:Sem α) (vs:List Value) (r:α) (l:List Addr),bO P s vs=some (r,l) ->
    (∀ (i:Nat) a v,l[i]?=some a->vs[i]?=some v->w.cell? a=some v)->s.run P w=.ok r w:=by
  intro s
  induction s with
  | pure a=>intro vs r l h _;simp[bO] at h;simp[Sem.run,h.1]
  | load m a k ih =>
    intro vs r l h b;cases vs with
    | nil=>simp[bO] at h
    | cons v vs =>
      simp only[bO,yd] at h
      obtain ⟨⟨f,e⟩,h1,c⟩:=h
      injection c with e1 e2
      subst e1;subst e2;have h0:=b 0 a v (by simp) (by simp)
      simp only[Sem.run,h0]
      exact ih v vs _ _ h1 (fun i d v' ha hv=>b (i+1) d v' (by simpa using ha) (by simpa using hv))
  | program k ih=>intro vs r l h b;exact ih P vs r l h b
  | mark m k ih=>intro vs r l h b;exact ih vs r l h b
  | _=>intro vs r l h _;simp[bO] at h
def dr {α:Type}(P:Program):Sem α->Option (α × List (Addr × Value))
  | .pure a=>some (a,[])
  | .store _ _ (.agg _) _=>none
  | .store _ _ (.tuple _) _=>none
  | .store _ a v k=>(dr P k).map fun r=>(r.1,(a,v)::r.2)
  | .program k=>dr P (k P)
  | .mark _ k=>dr P k
  | _=>none
structure Put (b:Nat) (w w':World):Prop where
  os:w'.os=w.os
  tape:w'.tape=w.tape
  output:w'.output=w.output
  size:w'.heap.size=w.heap.size
  blk:∀ c,c≠b->w'.heap[c]?=w.heap[c]?
theorem Put.tl {b:Nat}{w w':World}(p:Put b w w'){M:Ms}(hz:∀ K bs,M.z=some (K,bs)->K<=b\/b∈bs):Tl M w w':=fun K bs e=>⟨Nat.le_of_eq p.size.symm,fun c d a=>p.blk c (fun h=>by
 rcases hz K bs e with h1|h1
 ·omega
 ·exact a (h▸h1))⟩
theorem Put.refl (b:Nat)(w:World):Put b w w:=⟨rfl,rfl,rfl,rfl,fun _ _=>rfl⟩
theorem Put.trans {b:Nat}{w1 w2 w3:World}(p:Put b w1 w2)(q:Put b w2 w3):Put b w1 w3 :=
 ⟨q.os.trans p.os,q.tape.trans p.tape,q.output.trans p.output,q.size.trans p.size,fun c a=>(q.blk c a).trans (p.blk c a)⟩
theorem Put.set (w:World)(p:Addr)(v:Value):Put p.block w (w.setCell p v) :=
 ⟨rfl,rfl,rfl,by simp,fun c a=>Below.heap_setCell _ _ _ _ a⟩
def Own (w:World)(b:Nat)(t:TypeId)(vs:List Value):Prop:=w.heap[b]?=some (.cells vs.toArray t (0,0))
theorem Own.cell {w:World}{b:Nat}{t:TypeId}{vs:List Value}(h:Own w b t vs)(i:Nat):w.cell? ⟨b,i,none⟩=vs[i]?:=by
 unfold World.cell?;rw[show w.heap[b]?=_ from h];simp
theorem Own.frozen {w:World}{b:Nat}{t:TypeId}{vs:List Value}(h:Own w b t vs)(i:Nat):w.frozen? ⟨b,i,none⟩=false:=by
 unfold World.frozen?;rw[show w.heap[b]?=_ from h];simp
theorem Own.set {w:World}{b:Nat}{t:TypeId}{vs:List Value}(h:Own w b t vs)(i:Nat)(v:Value):Own (w.setCell ⟨b,i,none⟩ v) b t (vs.set i v):=by
 unfold Own World.setCell
 simp only[Array.getElem?_modify,if_true,show w.heap[b]?=_ from h,ye]
 simp
theorem Own.lt {w:World}{b:Nat}{t:TypeId}{vs:List Value}(h:Own w b t vs):b<w.heap.size:=by
 rcases ep b w.heap.size with hl|hl
 ·exact hl
 ·unfold Own at h;rw[eq hl] at h;cases h
theorem Own.ext {w w':World}{b:Nat}{t:TypeId}{vs:List Value}(h:Own w b t vs)(x:Ext w w'):Own w' b t vs:=(Below.block x b h.lt).trans h
def fj (vs:List Value)(o:Nat):List Value->List Value
  | []=>vs
  | c::cs=>fj (vs.set o c) (o+1) cs
def nu (b o:Nat):List Value->List (Addr × Value)
  | []=>[]
  | c::cs=>(⟨b,o,none⟩,c)::nu b (o+1) cs
theorem fO {α:Type}{P:Program}{b:Nat}{t:TypeId}:∀ (s:Sem α) (r:α) (o:Nat) (cs vs:List Value) (w:World),dr P s=some (r,nu b o cs)->Own w b t vs->o+cs.length<=vs.length ->
    ∃ w',s.run P w=.ok r w'/\Put b w w'/\Own w' b t (fj vs o cs):=by
  intro s
  induction s with
  | pure a =>
    intro r o cs vs w h d _
    simp only[dr,Option.some.injEq,Prod.mk.injEq] at h
    obtain ⟨h1,f⟩:=h;cases cs with
    | nil=>exact ⟨w,by simp[Sem.run,h1],Put.refl _ _,d⟩
    | cons c cs=>simp[nu] at f
  | store m a v k ih =>
    intro r o cs vs w h d i
    have B:∃ e,dr P k=some e/\(e.1,(a,v)::e.2)=(r,nu b o cs)/\(∀ l,v≠.agg l)/\∀ l,v≠.tuple l:=by
      cases v<;>simp only[dr,yd] at h<;>first|(obtain ⟨e,h1,f⟩:=h;exact ⟨e,h1,f,by simp,by simp⟩)|cases h
    obtain ⟨⟨e,D⟩,h1,f,y,u⟩:=B
    injection f with e1 e2
    cases cs with
    | nil=>simp[nu] at e2
    | cons c cs =>
      simp only[nu,List.cons.injEq,Prod.mk.injEq] at e2
      obtain ⟨⟨x,ev⟩,C⟩:=e2;subst x;subst ev;subst C;subst e1
      simp only[yf] at i
      have z:w.cell? ⟨b,o,none⟩=some (vs[o]'oM):=by rw[d.cell,List.getElem?_eq_getElem]
      obtain ⟨w',hr,p,j⟩:=ih _ (o+1) cs (vs.set o v) (w.setCell ⟨b,o,none⟩ v) h1 (d.set o v) (by simp;omega);refine ⟨w',?_,(Put.set w ⟨b,o,none⟩ v).trans p,j⟩
      have:(Sem.store m ⟨b,o,none⟩ v k).run P w=k.run P (w.setCell ⟨b,o,none⟩ v):=by
        cases v<;>first|(simp only[Sem.run,z,d.frozen];rfl)|exact absurd rfl (y _)|exact absurd rfl (u _)
      rw[this];exact hr
  | program k ih=>intro r o cs vs w h d i;exact ih P r o cs vs w h d i
  | mark m k ih=>intro r o cs vs w h d i;exact ih r o cs vs w h d i
  | _=>intro r o cs vs w h _ _;simp[dr] at h
structure Bx where
  b:Nat
  t:TypeId
  vs:List Value
  deriving Inhabited
structure St (w0:World) (h0:Hp) (w:World) (h:Hp) (B:List Bx):Prop where
  up:Up w0 h0 w h
  own:∀ x∈B,Own w x.b x.t x.vs
  jk:∀ x∈B,h[x.b]?=some aY
  lo:∀ x∈B,h0.size<=x.b
  nd:(B.map (·.b)).Nodup
theorem aF {h:Hp}{b:Nat}{o:Obj}(e:h[b]?=some o):b<h.size:=by
 rcases ep b h.size with hl|hl
 ·exact hl
 ·rw[eq hl] at e;cases e
section st
variable {w0:World}{h0:Hp}{w:World}{h:Hp}{B:List Bx}
theorem St.start (g:G w h):St w h w h []:=⟨Up.refl g,fun _ a=>(by cases a),fun _ a=>(by cases a),fun _ a=>(by cases a),by simp⟩
theorem St.step (s:St w0 h0 w h B){w':World}{b:Hp}(u:Up w h w' b):St w0 h0 w' b B :=
 ⟨s.up.trans u,fun x a=>(s.own x a).ext u.ext,fun x a=>(u.gr.blk _ (aF (s.jk x a))).trans (s.jk x a),s.lo,s.nd⟩
theorem St.g (s:St w0 h0 w h B):G w h:=s.up.g
theorem St.sz (s:St w0 h0 w h B):h0.size<=h.size:=s.up.gr.size
theorem St.new {wr:World}{hr:Hp}{e:List Bx}{x:Al}{b:Nat}(i:St w0 h0 wr hr e)(s:St w0 h0 w h B)(hB:∀ y∈B,y.b<hr.size\/y.b≠b)(k:Blk hr w h (x,b))(t:TypeId)(vs:List Value)(l:x.o=.cells vs.toArray t (0,0)) :
  St w0 h0 w h (⟨b,t,vs⟩::B):=by
 obtain ⟨u,k2,d⟩:=k;refine ⟨s.up,?_,?_,?_,?_⟩
 ·intro y a
  rcases g4.1 a with rfl|a
  ·show w.heap[b]?=_
   rw[<-l];exact u
  ·exact s.own y a
 ·intro y a
  rcases g4.1 a with rfl|a
  ·exact k2
  ·exact s.jk y a
 ·intro y a
  rcases g4.1 a with rfl|a
  ·exact e4 i.sz d
  ·exact s.lo y a
 ·refine hC.2 ⟨fun j=>?_,s.nd⟩
  obtain ⟨y,a,c⟩:=g2.1 j
  rcases hB y a with hl|hl
  ·have p:y.b=b:=c
   have f:hr.size<=b:=d
   omega
  ·exact hl c
theorem St.new1 {wr:World}{hr:Hp}{x:Al}{b:Nat}(a:St w0 h0 wr hr B)(s:St w0 h0 w h B)(k:Blk hr w h (x,b))(t:TypeId)(vs:List Value)(d:x.o=.cells vs.toArray t (0,0)) :
 St w0 h0 w h (⟨b,t,vs⟩::B):=St.new a s (fun y c=>.inl (aF (a.jk y c))) k t vs d
theorem St.new2 {wr:World}{hr:Hp}{x y:Al}{b c:Nat}(e:St w0 h0 wr hr B)(s:St w0 h0 w h B)(k:Blk hr w h (x,b))(k2:Blk hr w h (y,c))(d:b≠c)(t:TypeId)(vs:List Value)(j:x.o=.cells vs.toArray t (0,0))(i:TypeId)(a:List Value)(f:y.o=.cells a.toArray i (0,0)) :
  St w0 h0 w h (⟨b,t,vs⟩::⟨c,i,a⟩::B) :=
 St.new e (St.new1 e s k2 i a f) (fun z hz=>by
  rcases g4.1 hz with rfl|hz
  ·exact .inr (Ne.symm d)
  ·exact .inl (aF (e.jk z hz))) k t vs j
def av (B:List Bx)(j:Nat):Bx:=B.getD j default
def fN (B:List Bx)(j o:Nat)(cs:List Value):List Bx:=B.set j { av B j with vs:=fj (av B j).vs o cs }
theorem a8 {j:Nat}(h:j<B.length):av B j∈B:=by
 unfold av
 have:B.getD j default=B[j]:=by simp[h]
 rw[this];exact gs h
theorem Up.put {b:Nat}{w':World}(u:Up w0 h0 w h)(p:Put b w w')(d:h[b]?=some aY)(f:h0.size<=b)(a:w0.heap.size=h0.size):Up w0 h0 w' h:=by
 refine ⟨⟨p.os.trans u.ext.os,p.tape.trans u.ext.tape,p.output.trans u.ext.output,by rw[p.size];exact u.ext.size,fun c i=>?_⟩,u.gr,⟨by rw[p.size];exact u.g.size,fun c=>?_⟩⟩
 ·rw[p.blk c oM]
  exact Below.block u.ext c i
 ·by_cases e:c=b
  ·subst e;exact .inr d
  ·rw[p.blk c e];exact u.g.blk c
theorem St.put (s:St w0 h0 w h B)(I:G w0 h0){j o:Nat}{cs:List Value}{w':World}(f:j<B.length)(p:Put (av B j).b w w')(H:Own w' (av B j).b (av B j).t (fj (av B j).vs o cs)):St w0 h0 w' h (fN B j o cs):=by
  have F:=a8 f
  have a:(fN B j o cs).map (·.b)=B.map (·.b):=by
    unfold fN
    rw[yg]
    apply yh
    intro i
    by_cases e:j=i
    . subst e
      rw[yi (by simpa using f)]
      simp[av,f]
    . rw[yj e]
  refine ⟨s.up.put p (s.jk _ F) (s.lo _ F) I.size,?_,?_,?_,by rw[a];exact s.nd⟩
  . intro x l
    obtain ⟨i,hi,c⟩:=yk.1 l;have d:i<B.length:=by simpa [fN] using hi
    by_cases e:j=i
    . subst e
      have:x={ av B j with vs:=fj (av B j).vs o cs }:=by rw[<-c];simp[fN]
      subst this;exact H
    . have D:x=B[i]:=by rw[<-c];simp[fN,e]
      subst D
      have u:B[i].b≠(av B j).b:=by
        intro C
        have h1:(B.map (·.b))[i]'(by simpa using d)=(B.map (·.b))[j]'(by simpa using f):=by
          simp only[yl]
          rw[C]
          simp[av,f]
        exact e ((ym s.nd).1 h1).symm
      show w'.heap[B[i].b]?=_
      rw[p.blk _ u];exact s.own _ (gs d)
  . intro x l
    have:x.b∈(fN B j o cs).map (·.b):=g2.2 ⟨x,l,rfl⟩;rw[a] at this
    obtain ⟨y,z,c⟩:=g2.1 this;rw[<-c];exact s.jk y z
  . intro x l
    have:x.b∈(fN B j o cs).map (·.b):=g2.2 ⟨x,l,rfl⟩;rw[a] at this
    obtain ⟨y,z,c⟩:=g2.1 this;rw[<-c];exact s.lo y z
def lM (b o:Nat):Nat->List Addr
  | 0=>[]
  | n+1=>⟨b,o,none⟩::lM b (o+1) n
theorem eF (b:Nat):∀ (n o i:Nat) (a:Addr),(lM b o n)[i]?=some a->a=⟨b,o+i,none⟩
  | 0,_,_,_,h=>by simp[lM] at h
  | n+1,o,0,a,h=>by simp[lM] at h;rw[<-h];rfl
  | n+1,o,i+1,a,h=>by
    have:=eF b n (o+1) i a (by simpa [lM] using h);rw[this];congr 1;omega
def cB (B:List Bx):List (Nat × Nat × Nat)->List Value
  | []=>[]
  | p::ps=>((av B p.1).vs.drop p.2.1).take p.2.2++cB B ps
def bG (B:List Bx):List (Nat × Nat × Nat)->List Addr
  | []=>[]
  | p::ps=>lM (av B p.1).b p.2.1 p.2.2++bG B ps
def bT (B:List Bx)(ps:List (Nat × Nat × Nat)):Bool:=ps.all fun p=>decide (p.1<B.length) && decide (p.2.1+p.2.2<=(av B p.1).vs.length)
theorem gM (b o n:Nat):(lM b o n).length=n:=by
 induction n generalizing o with
 | zero=>rfl
 | succ n ih=>simp[lM,ih]
theorem cl (d:∀ x∈B,Own w x.b x.t x.vs):∀ (ps:List (Nat × Nat × Nat)),bT B ps=true->∀ (i:Nat) a v,(bG B ps)[i]?=some a->(cB B ps)[i]?=some v->w.cell? a=some v
  | [],_,i,a,v,h,_=>by simp[bG] at h
  | p :: ps,hok,i,a,v,ha,hv=>by
    unfold bT at hok
    rw[yn,la] at hok
    obtain ⟨h1,e⟩:=hok
    simp only[la,decide_eq_true_eq] at h1
    have c:(((av B p.1).vs.drop p.2.1).take p.2.2).length=p.2.2:=by simp;omega
    unfold bG at ha
    unfold cB at hv
    rcases ep i p.2.2 with hl|hl
    . rw[yo (by rw[gM];exact hl)] at ha
      rw[yo (by rw[c];exact hl)] at hv
      rw[eF _ _ _ _ _ ha,(d _ (a8 h1.1)).cell];rw[yp hl,yq] at hv
      exact hv
    . rw[yr (by rw[gM];exact hl),gM] at ha
      rw[yr (by rw[c];exact hl),c] at hv
      exact cl d ps e _ a v ha hv
theorem Own.mo {w w':World}{b:Nat}{t:TypeId}{vs:List Value}{M:List Nat}(h:Own w b t vs)(x:Mo M w w')(a:b ∉ M):Own w' b t vs:=(x.blk b h.lt a).trans h
theorem fU {M:List Nat}{d:List (Nat × Nat × Nat)}(hM:∀ p∈d,(av B p.1).b ∉ M)(e:∀ x∈B,x.b ∉ M->Own w x.b x.t x.vs):∀ (ps:List (Nat × Nat × Nat)),(∀ p∈ps,p∈d)->bT B ps=true->∀ (i:Nat) a v,(bG B ps)[i]?=some a->(cB B ps)[i]?=some v->w.cell? a=some v
  | [],_,_,i,a,v,h,_=>by simp[bG] at h
  | p :: ps,hsub,hok,i,a,v,ha,hv=>by
    unfold bT at hok
    rw[yn,la] at hok
    obtain ⟨h1,j⟩:=hok
    simp only[la,decide_eq_true_eq] at h1
    have c:(((av B p.1).vs.drop p.2.1).take p.2.2).length=p.2.2:=by simp;omega
    unfold bG at ha
    unfold cB at hv
    rcases ep i p.2.2 with hl|hl
    . rw[yo (by rw[gM];exact hl)] at ha
      rw[yo (by rw[c];exact hl)] at hv
      rw[eF _ _ _ _ _ ha,(e _ (a8 h1.1) (hM p (hsub p (by simp)))).cell];rw[yp hl,yq] at hv
      exact hv
    . rw[yr (by rw[gM];exact hl),gM] at ha
      rw[yr (by rw[c];exact hl),c] at hv
      exact fU hM e ps (fun q f=>hsub q (by simp[f])) j _ a v ha hv
end st
section own
variable {M:Ms}{P:Program}{n:Nat}{N R:Po}{X:Nat->Po}{ops:Array Oper}{k0:Nat}{hr:Hp}{AL:List Al}{L:Array Bool}{Γ:bW}{w:World}{h:Hp}{w0:World}{h0:Hp}{B:List Bx}
theorem Rg.own (i t:Nat)(ps:List (Nat × Nat × Nat))(v:Value)(s:St w0 h0 w h B)(o:(dd n ops k0 AL L i t && a6 Γ (ao ops i) && gN ops k0 i)=true)(f:bh ops Γ (ao ops i)=some true)
  (hM:∀ p∈ps,(av B p.1).b ∉ M.l)(d:bT B ps=true)(e:bO P (execOp (ev Γ) (ao ops i)) (cB B ps)=some (.value v,bG B ps))
  (k:EG M P n N R X ops k0 hr AL (L.setIfInBounds i true) ((t,v)::Γ) w h):EG M P n N R X ops k0 hr AL L Γ w h :=
 Rg.load i t v o f (fun w' c=>bM _ _ _ _ e (fU hM (fun x j a=>(s.own x j).mo c a) ps (fun _ h=>h) d)) k
theorem T.put (i j o:Nat)(cs:List Value)(s:St w0 h0 w h B)(l:G w0 h0)(p:(io ops k0 L i && a6 Γ (ao ops i) && ((ao ops i).dst == none))=true)(x:bh ops Γ (ao ops i)=some true)
  (f:(decide (j<B.length) && decide (o+cs.length<=(av B j).vs.length))=true)(u:dr P (execOp (ev Γ) (ao ops i))=some (.skip,nu (av B j).b o cs))
  (k:∀ w',Put (av B j).b w w'->St w0 h0 w' h (fN B j o cs)->AG M P n N R X ops k0 (L.setIfInBounds i true) Γ w')(hz:∀ K bs,M.z=some (K,bs)->K<=(av B j).b\/(av B j).b∈bs:=by intro _ _ e;cases e):AG M P n N R X ops k0 L Γ w:=by
 simp only[la,decide_eq_true_eq] at f
 obtain ⟨w',c,a,d⟩:=fO _ _ _ _ _ w u (s.own _ (a8 f.1)) f.2;exact T.store i w' p x c (a.tl hz) (k w' a (s.put l f.1 a d))
theorem LG.own {k:Nat}(t:Nat)(ps:List (Nat × Nat × Nat))(v:Value)(s:St w0 h0 w h B)(d:(fX ops Γ k && ((ao ops k).dst == some t) && decide (t<n))=true)(c:bh ops Γ (ao ops k)=some true)
  (a:bT B ps=true)(b:bO P (execOp (ev Γ) (ao ops k)) (cB B ps)=some (.value v,bG B ps))
  (H:LG P n N R X ops (k+1) ((t,v)::Γ) w):LG P n N R X ops k Γ w :=
 LG.val t v w d c (bM _ _ _ _ b (cl s.own ps a)) H
theorem LG.put {k:Nat}(j o:Nat)(cs:List Value)(s:St w0 h0 w h B)(f:G w0 h0)(p:(fX ops Γ k && ((ao ops k).dst == none))=true)(l:bh ops Γ (ao ops k)=some true)
  (e:(decide (j<B.length) && decide (o+cs.length<=(av B j).vs.length))=true)(i:dr P (execOp (ev Γ) (ao ops k))=some (.skip,nu (av B j).b o cs))
  (H:∀ w',Put (av B j).b w w'->St w0 h0 w' h (fN B j o cs)->LG P n N R X ops (k+1) Γ w'):LG P n N R X ops k Γ w:=by
 simp only[la,decide_eq_true_eq] at e
 obtain ⟨w',c,a,d⟩:=fO _ _ _ _ _ w i (s.own _ (a8 e.1)) e.2;exact LG.store w' p l c (H w' a (s.put f e.1 a d))
theorem LG.var {k:Nat}(t:Nat)(ty:TypeId)(vs:List Value)(s:St w0 h0 w h B)(a:(fX ops Γ k && ((ao ops k).dst == some t) && decide (t<n))=true)(c:bh ops Γ (ao ops k)=some true)
  (hr:(execOp (ev Γ) (ao ops k)).run P w=.ok (.value (.pointer (some ⟨w.heap.size,0,none⟩))) (w.alloc (.cells vs.toArray ty (0,0))))
  (H:∀ b w' h',h.size<=b->Up w h w' h'->St w0 h0 w' h' (⟨b,ty,vs⟩::B)->LG P n N R X ops (k+1) ((t,.pointer (some ⟨b,0,none⟩))::Γ) w'):LG P n N R X ops k Γ w:=by
 have u:Up w h (w.alloc (.cells vs.toArray ty (0,0))) (h.push aY):=Up.allocAny s.g _ _ (.inr rfl);refine LG.val t _ _ a c hr (H _ _ _ (by rw[s.g.size];exact ey _) u (St.new1 (x:=⟨0,0,.cells vs.toArray ty (0,0)⟩) s (s.step u) ⟨?_,?_,?_⟩ ty vs rfl))
 ·rw[heap_alloc];exact gg
 ·rw[s.g.size];exact gg
 ·show h.size<=w.heap.size;rw[s.g.size];exact ey _
def oC (fn:Func)(Γ:bW):Sem Value:=do
  let vs <-fn.results.mapM fun
    | .tmp t=>Pure.pure (ev Γ (.tmp t))
    | .cell a t=>do loadVar t (<-asAddr (ev Γ (.tmp a)))
  Pure.pure (if h:vs.size=1 then vs[0] else .tuple vs)
def Fq (fn:Func)(Γ:bW):Bool:=fn.results.all fun|.tmp t=>gl Γ (.tmp t)|.cell a _=>gl Γ (.tmp a)
def nk (fn:Func)(Γ:bW):Bool:=(fS Γ).isEmpty && Fq fn Γ
theorem r5 {a:Func}{Γ:bW}(h:nk a Γ=true):fS Γ=[]:=by
 unfold nk at h;rw[la] at h;exact List.isEmpty_iff.1 h.1
theorem pn {α β:Type}(l:List α)(f g:α->Sem β)(h:∀ x∈l,f x=g x):l.mapM f=l.mapM g:=by
 induction l with
 | nil=>rfl
 | cons a l ih=>rw[ys,ys,h a (by simp),ih (fun x b=>h x (by simp[b]))]
theorem nC {b:Func}{a:Act}(c:Kn n a Γ)(hk:Fq b Γ=true):results b a.tmps=oC b Γ:=by
 unfold results oC
 have e:∀ x∈b.results.toList,((match x with|.tmp t=>Pure.pure (a.tmps.getD t undef)|.cell ad t=>(do loadVar t (<-asAddr (a.tmps.getD ad undef)))):Sem Value)=((match x with|.tmp t=>Pure.pure (ev Γ (.tmp t))|.cell ad t=>(do loadVar t (<-asAddr (ev Γ (.tmp ad))))):Sem Value):=by
  intro x d;have h1:=(oi.1 hk) x (by simpa using d);cases x with
  | tmp t=>have:=c.eval h1;simp only[Act.eval] at this;simp only[this]
  | cell ad t=>have:=c.eval h1;simp only[Act.eval] at this;simp only[this]
 rw[yt,yt]
 congr 2
 exact pn _ _ _ e
theorem jG {b:Func}{a:Act}(c:Kn n a Γ)(hk:nk b Γ=true):results b a.tmps=oC b Γ :=
 nC c (by unfold nk at hk;rw[la] at hk;exact hk.2)
def Ret (w0:World)(h0:Hp)(Φ:Value->Hp->Prop):Ending->World->Prop:=fun e w'=>∃ v h',e=.returned v/\Up w0 h0 w' h'/\Φ v h'
theorem GP {c:Func}{Φ:Value->Hp->Prop}(s:St w0 h0 w h B)(ps:List (Nat × Nat × Nat))(v:Value)(hk:(nk c Γ && bT B ps)=true)(e:bO P (oC c Γ) (cB B ps)=some (v,bG B ps))(b:Φ v h) :
  ∀ a,Kn n a Γ->mT P c (Ret w0 h0 Φ) a w:=by
 intro a d;rw[la] at hk
 refine ⟨d.df.trans (r5 hk.1),v,?_,v,h,rfl,s.up,b⟩;rw[jG d hk.1];exact bM _ _ _ _ e (cl s.own ps hk.2)
end own
abbrev CV (f:FuncId)(a:Array Value)(w:World)(h:Hp)(x:Value):Prop:=Calls Tryz.prog f a w (Ret w h fun v _=>v=x)
abbrev CR (f:FuncId)(a:Array Value)(w:World)(h:Hp)(Φ:Value->Hp->Prop):Prop:=Calls Tryz.prog f a w (Ret w h Φ)
def da (h:Hp)(b i:Nat):Option Value :=
  match h[b]? with
  | some (.cells c _ _)=>c[i]?
  | _=>none
structure Gw (h h':Hp):Prop where
  size:h.size<=h'.size
  blk:∀ b:Nat,b<h.size->h'[b]?=h[b]?\/h[b]?=some aY
theorem Gr.gw {h a:Hp}(u:Gr h a):Gw h a:=⟨u.size,fun b c=>.inl (u.blk b c)⟩
theorem uh {h a:Hp}(u:Gw h a){b i:Nat}{v:Value}(e:da h b i=some v):da a b i=some v:=by
  unfold da at *
  cases c:h[b]? with
  | none=>rw[c] at e;cases e
  | some o =>
    rcases u.blk b (aF c) with h1|h1
    . rw[h1];exact e
    . rw[h1] at e;simp[aY] at e
theorem j4 {w:World}{h:Hp}(g:G w h){b i:Nat}{v:Value}(e:da h b i=some v):w.cell? ⟨b,i,none⟩=some v:=by
 unfold da at e
 rcases g.blk b with h1|h1
 ·unfold World.cell?
  rw[<-h1];cases a:h[b]? with
  | none=>rw[a] at e;cases e
  | some o=>rw[a] at e;cases o<;>simp at e ⊢ <;> exact e
 ·rw[h1] at e;simp[aY] at e
def Seg (h:Hp)(b o:Nat)(cs:List Value):Prop:=∀ (i:Nat) (v:Value),cs[i]?=some v->da h b (o+i)=some v
theorem Seg.gw {h a:Hp}{b o:Nat}{cs:List Value}(s:Seg h b o cs)(u:Gw h a):Seg a b o cs:=fun i v hv=>uh u (s i v hv)
theorem xe {M:List Nat}{w w':World}{h:Hp}(g:G w h)(x:Mo M w w')(hM:∀ b∈M,h[b]?=some aY){b i:Nat}{v:Value}(e:da h b i=some v):w'.cell? ⟨b,i,none⟩=some v:=by
 have f:b ∉ M:=fun j=>by
  unfold da at e
  rw[hM b j] at e
  simp[aY] at e
 have d:=j4 g e
 have c:b<w.heap.size:=by
  rcases ep b w.heap.size with c|c
  ·exact c
  ·unfold World.cell? at d;rw[eq c] at d;cases d
 rw[World.cell?_of_block (w:=w) (a:=⟨b,i,none⟩) (x.blk b c f)];exact d
theorem Seg.runM {α:Type}{M:List Nat}{P:Program}{w w':World}{h:Hp}{b o:Nat}{cs:List Value}{s:Sem α}{r:α}(c:Seg h b o cs)(g:G w h)(hM:∀ b∈M,h[b]?=some aY)(x:Mo M w w')(d:bO P s cs=some (r,lM b o cs.length)):s.run P w'=.ok r w' :=
 bM _ _ _ _ d (fun i a v ha hv=>by rw[eF _ _ _ _ _ ha];exact xe g x hM (c i v hv))
theorem Seg.run {α:Type}{P:Program}{w w':World}{h:Hp}{b o:Nat}{cs:List Value}{s:Sem α}{r:α}(c:Seg h b o cs)(g:G w h)(x:Ext w w')(d:bO P s cs=some (r,lM b o cs.length)):s.run P w'=.ok r w' :=
 bM _ _ _ _ d (fun i a v ha hv=>by rw[eF _ _ _ _ _ ha];exact x.some (j4 g (c i v hv)))
theorem Seg.part {h:Hp}{b o:Nat}{cs:List Value}(s:Seg h b o cs)(j n:Nat):Seg h b (o+j) ((cs.drop j).take n):=fun i v hv=>by
 have hi:i<n:=by
  rcases ep i n with hl|hl
  ·exact hl
  ·rw[ya (by simp;omega)] at hv;cases hv
 rw[yp hi,yq] at hv
 rw[yu];exact s (j+i) v hv
def aB (A:Z9):Nat:=match A with|some a=>a.block|none=>0
def aO (A:Z9):Nat:=match A with|some a=>a.off|none=>0
structure SlO {α:Type} (sz:Nat) (f:α->List Value) (d:α) (h:Hp) (A:Z9) (l:List α):Prop where
  ok:0<l.length->A=some ⟨aB A,aO A,none⟩
  el:∀ k,k<l.length->Seg h (aB A) (aO A+k*sz) (f (l.getD k d))
theorem SlO.gw {α:Type}{sz:Nat}{f:α->List Value}{d:α}{h a:Hp}{A:Z9}{l:List α}(s:SlO sz f d h A l)(u:Gw h a):SlO sz f d a A l:=⟨s.ok,fun k hk=>(s.el k hk).gw u⟩
theorem SlO.nil {α:Type}{sz:Nat}{f:α->List Value}{d:α}{h:Hp}{A:Z9}:SlO sz f d h A []:=⟨fun h=>by simp at h,fun k hk=>by simp at hk⟩
def Gl {α:Type}(sz:Nat)(f:α->List Value)(d:α)(h:Hp)(v:Value)(l:List α):Prop :=
  ∃ A cap,v=.slice A l.length cap/\l.length<=cap/\SlO sz f d h A l
theorem SlO.of_flat {α:Type}{sz:Nat}{f:α->List Value}{d:α}{h:Hp}{b o:Nat}{l:List α}(hf:∀ x,(f x).length=sz)(s:Seg h b o (l.flatMap f)):SlO sz f d h (some ⟨b,o,none⟩) l:=by
  refine ⟨fun _=>rfl,?_⟩
  induction l generalizing o with
  | nil=>intro k hk;simp at hk
  | cons x l ih =>
    intro k hk;cases k with
    | zero =>
      have:=s.part 0 sz
      simp only[yv,yw,yx] at this
      rw[yy (by rw[hf];exact ey _),<-hf x,yz] at this
      simpa [aB,aO] using this
    | succ k =>
      have a:Seg h b (o+sz) (l.flatMap f):=fun i v hv=>by
        have:=s (sz+i) v (by rw[yv,yr (by rw[hf];omega),hf];simpa using hv)
        rwa [<-yu] at this
      have:=ih a k (by simpa using hk)
      simp only[aB,aO,yA] at this ⊢
      rw[yB,yC (k*sz) sz,<-yu];exact this
theorem Seg.new {h:Hp}(cs:List Value)(ty:TypeId):Seg (h.push (.cells cs.toArray ty (0,0))) h.size 0 cs:=fun i v hv=>by
 unfold da
 rw[gg]
 simpa using hv
theorem d9 {α:Type}{f:α->List Value}{sz:Nat}(hf:∀ x,(f x).length=sz)(l:List α):(l.flatMap f).length=l.length*sz:=by
 induction l with
 | nil=>simp
 | cons x l ih=>simp only[yv,yD,ih,hf,yf,yB];omega
theorem fM {α:Type}{f:α->List Value}{sz:Nat}(hf:∀ x,(f x).length=sz)(d:α):∀ (l:List α) (k:Nat),k<l.length->((l.flatMap f).drop (k*sz)).take sz=f (l.getD k d)
  | [],k,h=>by simp at h
  | x::l,0,h=>by
    simp only[yv,yE,yx,List.getD_cons_zero]
    rw[yy (by rw[hf];exact ey _),<-hf x,yz]
  | x::l,k+1,h=>by
    simp only[yv,yA]
    rw[yB,List.drop_append,hf,show k*sz+sz-sz=k*sz by omega,List.drop_eq_nil_of_le (by rw[hf];omega),List.nil_append];exact fM hf d l k (by simpa using h)
theorem iM (cs:List Value):∀ (a b:List Value) (o:Nat),fj (a++b) (a.length+o) cs=a++fj b o cs:=by
  induction cs with
  | nil=>intro a b o;rfl
  | cons c cs ih =>
    intro a b o
    show fj ((a++b).set (a.length+o) c) (a.length+o+1) cs=a++fj (b.set o c) (o+1) cs
    rw[List.set_append_right _ _ oM,show a.length+o-a.length=o by omega,yu];exact ih a (b.set o c) (o+1)
theorem jx:∀ (cs a b:List Value),a.length=cs.length->fj (a++b) 0 cs=cs++b:=by
  intro cs
  induction cs with
  | nil=>intro a b h;have:a=[]:=yF (by simpa using h);subst this;rfl
  | cons c cs ih =>
    intro a b h;cases a with
    | nil=>simp at h
    | cons y a =>
      show fj (c::(a++b)) (0+1) cs=c::(cs++b)
      have:=iM cs [c] (a++b) 0
      simp only[List.length_singleton,List.singleton_append] at this
      rw[show 0+1=1+0 by omega,this,ih a b (by simpa using h)]
theorem ip {α:Type}{f:α->List Value}{sz:Nat}(hf:∀ x,(f x).length=sz):∀ (l:List α) (k:Nat) (x:α),k<l.length->fj (l.flatMap f) (k*sz) (f x)=(l.set k x).flatMap f
  | [],k,x,h=>by simp at h
  | y::l,0,x,h=>by
    simp only[yv,yE,List.set_cons_zero]
    exact jx _ _ _ (by rw[hf,hf])
  | y::l,k+1,x,h=>by
    simp only[yv,yG]
    rw[yB,yC,<-hf y,iM,hf y,ip hf l k x (by simpa using h)]
section rows
variable {M:Ms}{P:Program}{n:Nat}{N R:Po}{X:Nat->Po}{ops:Array Oper}{k0:Nat}{hr:Hp}{AL:List Al}{L:Array Bool}{Γ:bW}{w:World}{h:Hp}
theorem LG.row {k:Nat}(t:Nat)(ty:TypeId)(m:Nat)(cs:List Value)(g:G w h)(c:(fX ops Γ k && ((ao ops k).dst == some t) && decide (t<n))=true)(d:bh ops Γ (ao ops k)=some true)
  (a:(execOp (ev Γ) (ao ops k)).run P w=.ok (.value (.slice (some ⟨w.heap.size,0,none⟩) m m)) (w.alloc (.cells cs.toArray ty (0,0))))
  (H:∀ b w' h',Up w h w' h'->Seg h' b 0 cs->LG P n N R X ops (k+1) ((t,.slice (some ⟨b,0,none⟩) m m)::Γ) w'):LG P n N R X ops k Γ w :=
 LG.val t _ _ c d a (H _ _ _ (Up.allocAny g _ _ (.inl rfl)) (by rw[g.size];exact Seg.new cs ty))
theorem Rg.row (i t:Nat)(ty:TypeId)(m:Nat)(cs:List Value)(d:(mr n ops k0 AL L i t && a6 Γ (ao ops i))=true)(e:bh ops Γ (ao ops i)=some true)
  (a:∀ w,(execOp (ev Γ) (ao ops i)).run P w=.ok (.value (.slice (some ⟨w.heap.size,0,none⟩) m m)) (w.alloc (.cells cs.toArray ty (0,0))))
  (H:∀ b w' c,Up w h w' c->Seg c b 0 cs->EG M P n N R X ops k0 hr AL (L.setIfInBounds i true) ((t,.slice (some ⟨b,0,none⟩) m m)::Γ) w' c):EG M P n N R X ops k0 hr AL L Γ w h :=
 Rg.event i t d e (fun w' c u=>.inl ⟨_,_,_,a w',(Up.allocAny u.g _ _ (.inl rfl)).m M.l,H _ _ _ (u.trans (Up.allocAny u.g _ _ (.inl rfl))) (by rw[u.g.size];exact Seg.new cs ty)⟩)
theorem Rg.ownA {w0:World}{h0:Hp}{B:List Bx}{α:Type}(i t j:Nat)(l:List α)(f:α->List Value)(sz:Nat)(d:α)(e:Nat)(v:Value)(s:St w0 h0 w h B)(z:(dd n ops k0 AL L i t && a6 Γ (ao ops i) && gN ops k0 i)=true)(p:bh ops Γ (ao ops i)=some true)
  (o:(av B j).b ∉ M.l)(F:decide (j<B.length)=true)(hB:(av B j).vs=l.flatMap f)(hf:∀ x,(f x).length=sz)(hk:e<l.length)
  (y:bO P (execOp (ev Γ) (ao ops i)) (f (l.getD e d))=some (.value v,lM (av B j).b (0+e*sz) (f (l.getD e d)).length))
  (k:EG M P n N R X ops k0 hr AL (L.setIfInBounds i true) ((t,v)::Γ) w h):EG M P n N R X ops k0 hr AL L Γ w h :=
 Rg.load i t v z p (fun w' C=>bM _ _ _ _ y (fun q a u ha c=>by
  rw[eF _ _ _ _ _ ha,((s.own _ (a8 (oT F))).mo C o).cell,hB];rw[<-fM hf d l e hk] at c
  have D:q<sz:=by
   rcases ep q sz with hl|hl
   ·exact hl
   ·rw[ya (by simp;omega)] at c;cases c
  rw[yp D,yq] at c
  rw[yH];exact c)) k
theorem LG.ownA {w0:World}{h0:Hp}{B:List Bx}{α:Type}{k:Nat}(t j:Nat)(l:List α)(f:α->List Value)(sz:Nat)(d:α)(e:Nat)(v:Value)(s:St w0 h0 w h B)(p:(fX ops Γ k && ((ao ops k).dst == some t) && decide (t<n))=true)(i:bh ops Γ (ao ops k)=some true)
  (z:decide (j<B.length)=true)(hB:(av B j).vs=l.flatMap f)(hf:∀ x,(f x).length=sz)(hk:e<l.length)
  (o:bO P (execOp (ev Γ) (ao ops k)) (f (l.getD e d))=some (.value v,lM (av B j).b (0+e*sz) (f (l.getD e d)).length))
  (H:LG P n N R X ops (k+1) ((t,v)::Γ) w):LG P n N R X ops k Γ w :=
 LG.val t v w p i (bM _ _ _ _ o (fun q a u ha c=>by
  rw[eF _ _ _ _ _ ha,(s.own _ (a8 (oT z))).cell,hB];rw[<-fM hf d l e hk] at c
  have y:q<sz:=by
   rcases ep q sz with hl|hl
   ·exact hl
   ·rw[ya (by simp;omega)] at c;cases c
  rw[yp y,yq] at c
  rw[yH];exact c)) H
theorem LG.arr {w0:World}{h0:Hp}{B:List Bx}{k:Nat}(t:Nat)(ty:TypeId)(m:Nat)(vs:List Value)(s:St w0 h0 w h B)(d:(fX ops Γ k && ((ao ops k).dst == some t) && decide (t<n))=true)(c:bh ops Γ (ao ops k)=some true)
  (a:(execOp (ev Γ) (ao ops k)).run P w=.ok (.value (.slice (some ⟨w.heap.size,0,none⟩) m m)) (w.alloc (.cells vs.toArray ty (0,0))))
  (H:∀ b w' h',h.size<=b->Up w h w' h'->St w0 h0 w' h' (⟨b,ty,vs⟩::B)->LG P n N R X ops (k+1) ((t,.slice (some ⟨b,0,none⟩) m m)::Γ) w'):LG P n N R X ops k Γ w:=by
 have u:Up w h (w.alloc (.cells vs.toArray ty (0,0))) (h.push aY):=Up.allocAny s.g _ _ (.inr rfl);refine LG.val t _ _ d c a (H _ _ _ (by rw[s.g.size];exact ey _) u (St.new1 (x:=⟨0,0,.cells vs.toArray ty (0,0)⟩) s (s.step u) ⟨?_,?_,?_⟩ ty vs rfl))
 ·rw[heap_alloc];exact gg
 ·rw[s.g.size];exact gg
 ·show h.size<=w.heap.size;rw[s.g.size];exact ey _
def gf (B:List Bx)(j:Nat)(vs:List Value):List Bx:=B.set j { av B j with vs:=vs }
theorem LG.putA {w0:World}{h0:Hp}{B:List Bx}{α:Type}{k:Nat}(j:Nat)(l:List α)(f:α->List Value)(sz e:Nat)(x:α)(s:St w0 h0 w h B)(z:G w0 h0)(C:(fX ops Γ k && ((ao ops k).dst == none))=true)(u:bh ops Γ (ao ops k)=some true)
  (D:decide (j<B.length)=true)(hB:(av B j).vs=l.flatMap f)(hf:∀ x,(f x).length=sz)(hk:e<l.length)
  (y:dr P (execOp (ev Γ) (ao ops k))=some (.skip,nu (av B j).b (0+e*sz) (f x)))
  (H:∀ w',Put (av B j).b w w'->St w0 h0 w' h (gf B j ((l.set e x).flatMap f))->LG P n N R X ops (k+1) Γ w'):LG P n N R X ops k Γ w:=by
 have o:=oT D
 have p:(0+e*sz)+(f x).length<=(av B j).vs.length:=by
  rw[hB,d9 hf,hf,yH,<-yB];exact yI _ hk
 obtain ⟨w',i,a,d⟩:=fO _ _ _ _ _ w y (s.own _ (a8 o)) p;have c:=s.put z o a d;refine LG.store w' C u i (H w' a ?_)
 unfold fN at c
 rw[hB,yH,ip hf l e x hk] at c
 exact c
theorem T.putA {w0:World}{h0:Hp}{B:List Bx}{α:Type}(i j:Nat)(l:List α)(f:α->List Value)(sz e:Nat)(x:α)(s:St w0 h0 w h B)(D:G w0 h0)(F:(io ops k0 L i && a6 Γ (ao ops i) && ((ao ops i).dst == none))=true)(y:bh ops Γ (ao ops i)=some true)
  (I:decide (j<B.length)=true)(hB:(av B j).vs=l.flatMap f)(hf:∀ x,(f x).length=sz)(hk:e<l.length)
  (C:dr P (execOp (ev Γ) (ao ops i))=some (.skip,nu (av B j).b (0+e*sz) (f x)))
  (H:∀ w',Put (av B j).b w w'->St w0 h0 w' h (gf B j ((l.set e x).flatMap f))->AG M P n N R X ops k0 (L.setIfInBounds i true) Γ w')(hz:∀ K bs,M.z=some (K,bs)->K<=(av B j).b\/(av B j).b∈bs:=by intro _ _ e;cases e):AG M P n N R X ops k0 L Γ w:=by
 have p:=oT I
 have u:(0+e*sz)+(f x).length<=(av B j).vs.length:=by
  rw[hB,d9 hf,hf,yH,<-yB];exact yI _ hk
 obtain ⟨w',o,a,d⟩:=fO _ _ _ _ _ w C (s.own _ (a8 p)) u;have c:=s.put D p a d;refine T.store i w' F y o (a.tl hz) (H w' a ?_)
 unfold fN at c
 rw[hB,yH,ip hf l e x hk] at c
 exact c
end rows
theorem AE {a b:Int}(h:a=b):(a == b)=true:=by simpa using h
theorem fY {a b:Int}(h:a≠b):(a == b)=false:=by simpa using h
theorem G3 {a b:Int}(h:a≠b):(a != b)=true:=by simpa using h
theorem sP {a b:Int}(h:a=b):(a != b)=false:=by simpa using h
theorem St.drop {w0:World}{h0:Hp}{w:World}{h:Hp}{B:List Bx}(s:St w0 h0 w h B)(k:Nat):St w0 h0 w h (B.drop k) :=
 ⟨s.up,fun x a=>s.own x (yJ a),fun x a=>s.jk x (yJ a),fun x a=>s.lo x (yJ a),s.nd.sublist ((yK k B).map (·.b))⟩
theorem aI {a b:Int}(h:(a != b)=false):a=b:=by simpa using h
theorem aU {a b:Int}(h:(a != b)=true):a≠b:=by simpa using h
theorem aq {a b:Int}(h:(a == b)=false):a≠b:=by simpa using h
theorem o6 {α:Type}{f:α->List Value}{x0:α}{sz:Nat}(hf:(f x0).length=sz)(a:0<sz):∀ (m i:Nat),i<m*sz->((yL m x0).flatMap f)[i]?=(f x0)[i%sz]?
  | 0,i,h=>by simp at h
  | m + 1,i,h=>by
    rw[yM,yv]
    rcases ep i sz with hl|hl
    . rw[yo oM,yN hl]
    . rw[yr oM,hf,o6 hf a m (i-sz) (by rw[yB] at h;omega)]
      congr 1
      rw[Nat.mod_eq_sub_mod hl]
theorem tH {α:Type}{f:α->List Value}{x0:α}{z:Value}{sz m:Nat}(c:z.cells.toList=f x0)(b:z.cells.size=sz)(a:0<sz):madeCells z.cells (m*sz)=((yL m x0).flatMap f).toArray:=by
 have hf:(f x0).length=sz:=by rw[<-c];simpa using b
 apply Array.ext_getElem?
 intro i;rw[show ((yL m x0).flatMap f).toArray[i]?=((yL m x0).flatMap f)[i]? from by simp]
 rcases ep i (m*sz) with hl|hl
 ·rw[o6 hf a m i hl,<-c]
  have d:i%sz<z.cells.size:=by rw[b];exact yO _ a
  simp only[madeCells,Array.getElem?_map,Array.getElem?_range,hl,if_true,ye,b,Array.getElem?_toList]
  rw[fo d,getElem!_pos z.cells (i%sz) d]
 ·rw[eq (by rw[size_madeCells];exact hl),ya]
  have:∀ m,((yL m x0).flatMap f).length=m*sz:=by
   intro m
   induction m with
   | zero=>simp
   | succ m ih=>rw[yM,yv,yD,ih,hf,yB];omega
  rw[this];exact hl
section ops
variable {P:Program}{Γ:bW}{o:Oper}
theorem Dh {t e:TypeId}{x ix:Operand}{A:Z9}{len b sz:Nat}{i:Int}(k:Nat)(j:o.op=.indexAddr t x ix)(p:ev Γ x=.slice A len b)(hi:ev Γ ix=.int .i64 i)
    (f:P.underlying t=some (.slice e))(c:(P.info? e).map (·.size)=some sz)(l:A=some ⟨aB A,aO A,none⟩)(hk:i=k)(y:k<len)(w:World) :
    (execOp (ev Γ) o).run P w=.ok (.value (.pointer (some ⟨aB A,aO A+k*sz,none⟩))) w:=by
  subst hk
  unfold execOp
  simp only[j]
  rw[p,hi];have d:P.elem t=e:=by unfold Program.elem;rw[f]
  have h1:=run_indexAt_slice (P:=P) w t ⟨aB A,aO A,none⟩ len b .i64 (k:Int) (by rw[d];exact f);rw[if_pos ⟨by omega,by omega⟩,d] at h1
  have h:(sizeOf e).run P w=.ok sz w:=by
    cases a:P.info? e with
    | none=>rw[a] at c;cases c
    | some i =>
      rw[a] at c
      simp at c
      simp[sizeOf,typeInfo,a,c]
  rw[h] at h1
  have u:((⟨aB A,aO A,none⟩:Addr).add ((k:Int).toNat*sz))=⟨aB A,aO A+k*sz,none⟩:=by
    unfold Addr.add
    simp only[yP]
    split
    . rename_i h0;rw[h0];rfl
    . rfl
  simp only[Result.andThen] at h1
  rw[u] at h1
  rw[<-l] at h1
  rw[Sem.run_bind,h1]
  rfl
theorem Gu {t e:TypeId}{x y:Operand}{z:Value}{m sz bt:Nat}{α:Type}{f:α->List Value}{x0:α}(p:o.op=.makeSlice t x y)(C:ev Γ x=.int .i64 (m:Int))(h:ev Γ y=.int .i64 (m:Int))
    (l:P.underlying t=some (.slice e))(hi:(P.info? e).map (fun i=>(i.zero,i.size,i.bytes))=some (some z,sz,bt))(c:z.cells.toList=f x0)(d:z.cells.size=sz)(b:0<sz)(F:bt*m<=140737488355328)(D:m<9223372036854775808)(w:World) :
    (execOp (ev Γ) o).run P w=.ok (.value (.slice (some ⟨w.heap.size,0,none⟩) m m)) (w.alloc (.cells ((yL m x0).flatMap f).toArray e (0,0))):=by
  cases a:P.info? e with
  | none=>rw[a] at hi;cases hi
  | some inf =>
    rw[a] at hi
    simp only[ye,Option.some.injEq,Prod.mk.injEq] at hi
    obtain ⟨h1,j,B⟩:=hi
    unfold execOp
    simp only[p]
    have u:(inf.bytes:Int)*(m:Int)<=281474976710656:=by
      rw[B];have:((bt*m:Nat):Int)<=281474976710656:=by omega
      simpa using this
    rw[C,h,Sem.run_bind,run_make (P:=P) w t e inf z l a h1 .i64 .i64 (m:Int) (m:Int) oM oM u oM]
    simp only[Result.andThen,yP,j]
    rw[tH c d b]
    rfl
theorem GR {t e:TypeId}{x hi:Operand}{A:Z9}{len b:Nat}{i:Int}(k:Nat)(u:o.op=.slice t x none (some hi) none)(y:ev Γ x=.slice A len b)(d:ev Γ hi=.int .i64 i)
  (p:P.underlying t=some (.slice e))(l:(P.info? e).isSome=true)(hk:i=k)(f:k<=b)(w:World) :
  (execOp (ev Γ) o).run P w=.ok (.value (.slice A k b)) w:=by
 subst hk;obtain ⟨h,c⟩:=na.1 l
 unfold execOp
 simp only[u,yQ,ye]
 rw[y,d];have j:∀ a:Addr,a.add 0=a:=fun a=>by unfold Addr.add;simp
 have e1:A.map (fun a=>a.add (0*h.size))=A:=by cases A<;>simp[j]
 simp[Instr.sliceAt,Instr.slice,Instr.sliceBounds,Instr.sliceBound,run_underlying p,asIntOf,sizeOf,typeInfo,c,Result.andThen,f]
 intro _;cases A<;>simp[j]
theorem DG {t e:TypeId}{x c:Operand}{A:Z9}{len b sz:Nat}{i:Int}(k:Nat)(l:o.op=.slice t x (some c) none none)(p:ev Γ x=.slice A len b)(f:ev Γ c=.int .i64 i)
    (j:P.underlying t=some (.slice e))(d:(P.info? e).map (·.size)=some sz)(hk:i=k)(h:k<=len)(w:World) :
    (execOp (ev Γ) o).run P w=.ok (.value (.slice (if b=k then A else A.map (·.add (k*sz))) (len-k) (b-k))) w:=by
  subst hk;cases a:P.info? e with
  | none=>rw[a] at d;cases d
  | some inf =>
    rw[a] at d
    simp at d
    unfold execOp
    simp only[l,yQ,ye]
    rw[p,f]
    simp[Instr.sliceAt,Instr.slice,Instr.sliceBounds,Instr.sliceBound,run_underlying j,asIntOf,sizeOf,typeInfo,a,Result.andThen,h,d]
end ops
def BY (z:Int):List Value:=[.int .i64 z]
abbrev Si (A:Z9)(l:List Int):Hp->Prop:=fun h_=>SlO 1 BY 0 h_ A l
structure Gro (h0:Hp) (B:List Nat) (w:World) (h:Hp) (ty:TypeId) (sz:Nat) (v:Value) (n:Nat) (cs:List Value):Prop where
  own:w.ownsRow h0.size ty sz v n cs
  jk:∀ b,v.ownBlock=some b->h[b]?=some aY
  ap:∀ b,v.ownBlock=some b->b ∉ B
section gro
variable {h0:Hp}{B:List Nat}{w:World}{h:Hp}{ty:TypeId}{sz:Nat}{v:Value}{n:Nat}{cs:List Value}
theorem Gro.nil:Gro h0 B w h ty sz (.slice none 0 0) 0 []:=⟨World.ownsRow_nil _ _ _ _,fun b a=>by simp[Value.ownBlock] at a,fun b a=>by simp[Value.ownBlock] at a⟩
theorem dX {base:Nat}(o:w.ownsRow base ty sz v n cs){w':World}(a:∀ b,v.ownBlock=some b->w'.heap[b]?=w.heap[b]?):w'.ownsRow base ty sz v n cs:=by
 rcases o with ⟨h1,h2|⟨g,cap,cur,hv,hb',hg,hn,hm,hs,ht⟩⟩
 ·exact ⟨h1,.inl h2⟩
 ·exact ⟨h1,.inr ⟨g,cap,cur,hv,hb',(a g (by rw[hv];rfl)).trans hg,hn,hm,hs,ht⟩⟩
theorem Gro.lt (r:Gro h0 B w h ty sz v n cs){b:Nat}(a:v.ownBlock=some b):b<h.size:=aF (r.jk b a)
theorem jC {base:Nat}(o:w.ownsRow base ty sz v n cs){b:Nat}(a:v.ownBlock=some b):b<w.heap.size:=by
 rcases o with ⟨_,⟨rfl,_⟩|⟨g,cap,cur,rfl,_,hg,_⟩⟩
 ·simp[Value.ownBlock] at a
 ·simp[Value.ownBlock] at a
  subst a
  rcases ep g w.heap.size with hl|hl
  ·exact hl
  ·rw[eq hl] at hg;cases hg
theorem Gro.up (r:Gro h0 B w h ty sz v n cs){w':World}{c:Hp}(u:Up w h w' c):Gro h0 B w' c ty sz v n cs :=
 ⟨dX r.own (fun b a=>Below.block u.ext b (jC r.own a)),fun b a=>(u.gr.blk b (r.lt a)).trans (r.jk b a),r.ap⟩
theorem Gro.put (r:Gro h0 B w h ty sz v n cs){w':World}{b:Nat}(p:Put b w w')(a:b∈B):Gro h0 B w' h ty sz v n cs :=
 ⟨dX r.own (fun c d=>p.blk c (fun e=>r.ap c d (e▸a))),r.jk,r.ap⟩
theorem Gro.new (r:Gro h0 B w h ty sz v n cs)(b:Nat)(d:∀ c,v.ownBlock=some c->c≠b):Gro h0 (b::B) w h ty sz v n cs :=
 ⟨r.own,r.jk,fun c a f=>by
  rcases g4.1 f with e|e
  ·exact d c a e
  ·exact r.ap c a e⟩
theorem Gro.sub (r:Gro h0 B w h ty sz v n cs)(a:List Nat)(d:∀ b∈a,b∈B):Gro h0 a w h ty sz v n cs:=⟨r.own,r.jk,fun b c e=>r.ap b c (d b e)⟩
theorem Gro.out (r:Gro h0 B w h ty sz v n cs){a:Hp}{b:Nat}(i:b∈B)(f:∀ c,c≠b->a[c]?=h[c]?):Gro h0 B w a ty sz v n cs :=
 ⟨r.own,fun c d=>(f c (fun e=>r.ap c d (e▸i))).trans (r.jk c d),r.ap⟩
theorem Gro.app (r:Gro h0 B w h ty sz v n cs){w':World}{d:Hp}{row:Option Nat}(f:w.grownBy w' row)(i:Gr h d)(c:∀ b,v.ownBlock=some b->row≠some b):Gro h0 B w' d ty sz v n cs :=
 ⟨dX r.own (fun b a=>f.block b (jC r.own a) (fun e=>c b a e.symm)),fun b a=>(i.blk b (r.lt a)).trans (r.jk b a),r.ap⟩
theorem wc {w0:World}{i:List Bx}{w':World}(s:St w0 h0 w h i)(p:G w0 h0)(r:Gro h0 (i.map (·.b)) w h ty sz v n cs)(d:w.grownBy w' v.ownBlock):∃ j,Gr h j/\St w0 h0 w' j i/\∀ b,h.size<=b->b<w'.heap.size->j[b]?=some aY:=by
  have l:∀ b,v.ownBlock=some b->h0.size<=b:=by
    intro b a
    rcases r.own with ⟨_,⟨rfl,_⟩|⟨g,cap,cur,rfl,hbb,_⟩⟩
    . simp[Value.ownBlock] at a
    . simp[Value.ownBlock] at a;omega
  have y:=s.g.size;have o:=d.size;have c:Gr h (h++x2 (w'.heap.size-h.size) aY):=⟨by simp,fun b a=>yb a⟩;refine ⟨h++x2 (w'.heap.size-h.size) aY,c,⟨⟨⟨d.os.trans s.up.ext.os,d.tape.trans s.up.ext.tape,d.output.trans s.up.ext.output,e4 s.up.ext.size o,fun b a=>?_⟩,s.up.gr.trans c,⟨by simp;omega,fun b=>?_⟩⟩,?_,?_,s.lo,s.nd⟩,?_⟩
  . rw[d.block b (e5 a s.up.ext.size) (fun e=>by have:=l b e.symm;rw[p.size] at a;omega)]
    exact Below.block s.up.ext b a
  . rcases ep b h.size with a|a
    . rw[yb a]
      by_cases e:v.ownBlock=some b
      . exact .inr (r.jk b e)
      . rw[d.block b oM (fun u=>e u.symm)];exact s.g.blk b
    . by_cases hl:b<w'.heap.size
      . right
        rw[yR a,yS,if_pos oM]
      . left
        rw[eq (by simp;omega),eq oM]
  . intro x f
    show w'.heap[x.b]?=_
    rw[d.block x.b (s.own x f).lt (fun e=>r.ap x.b e.symm (g2.2 ⟨x,f,rfl⟩))];exact s.own x f
  . intro x f
    rw[c.blk _ (aF (s.jk x f))];exact s.jk x f
  . intro b h1 z
    rw[yR h1,yS,if_pos oM]
def Apart (v u:Value):Prop:=∀ b,v.ownBlock=some b->u.ownBlock≠some b
theorem Apart.symm {v u:Value}(h:Apart v u):Apart u v:=fun b a hv=>h b hv a
theorem Apart.grown {v v' u:Value}(h:Apart v u)(c:v'.ownBlock=v.ownBlock\/v'.ownBlock=some w.heap.size)(d:∀ b,u.ownBlock=some b->b<w.heap.size):Apart v' u:=fun b hv a=>by
 rcases c with e|e
 ·exact h b (e▸hv) a
 ·rw[e] at hv
  injection hv with hv
  have:=d b a
  omega
theorem Apart.nil {u:Value}:Apart (.slice none 0 0) u:=fun b a=>by simp[Value.ownBlock] at a
end gro
section app
variable {P:Program}{n:Nat}{N R:Po}{X:Nat->Po}{ops:Array Oper}{k0:Nat}{hr:Hp}{AL:List Al}{L:Array Bool}{Γ:bW}{w:World}{h:Hp}{w0:World}{h0:Hp}{B:List Bx}
theorem q9 {o:Oper}{x y:Operand}{t e:TypeId}{z:Value}{sz bt m m2 c:Nat}{v:Value}{cs news:List Value}{a:Addr}(K:o.op=.call { callee:=.builtin .append,args:=#[x,y],argTypes:=#[t,t] })
    (Q:ev Γ x=v)(D:ev Γ y=.slice (some a) m2 c)(I:P.underlying t=some (.slice e))(hi:(P.info? e).map (fun i=>(i.zero,i.size,i.bytes))=some (some z,sz,bt))(C:z.cells.size=sz)(l:0<sz)
    (s:St w0 h0 w h B)(r:Gro h0 (B.map (·.b)) w h e sz v m cs)(S:news.length=m2*sz)(f:∀ j u,news[j]?=some u->w.cell? (a.add j)=some u)(h1:∀ u∈news,u.oneCell'=true)
    (U:m+m2<=1099511627776)(L:(m+m2)*bt<=140737488355328) :
    ∃ v' w',(execOp (ev Γ) o).run P w=.ok (.value v') w'/\w'.ownsRow h0.size e sz v' (m+m2) (cs++news)/\w.grownBy w' v.ownBlock/\(v'.ownBlock=v.ownBlock\/v'.ownBlock=some w.heap.size):=by
  cases d:P.info? e with
  | none=>rw[d] at hi;cases hi
  | some inf =>
    rw[d] at hi
    simp only[ye,Option.some.injEq,Prod.mk.injEq] at hi
    obtain ⟨i1,F,H⟩:=hi;obtain ⟨v',w',p,J,M,V,O⟩:=run_append_own_at (P:=P) w h0.size t o.type e inf z sz bt I d i1 F H C l v m cs r.own a m2 c news S f h1 (by unfold maxLen;omega) L (by rw[s.g.size];exact s.sz);refine ⟨v',w',?_,J,M,O⟩
    unfold execOp
    simp only[K,resolve,invoke,builtin,Sem.run_bind,Sem.run_pure,Result.andThen_ok,List.map_toArray,yT,List.map_nil,Q,D,p]
theorem Gro.grown {ty:TypeId}{sz m m2:Nat}{v v':Value}{cs news:List Value}{w':World}{c:Hp}(s:St w0 h0 w h B)(r:Gro h0 (B.map (·.b)) w h ty sz v m cs)(i:w'.ownsRow h0.size ty sz v' (m+m2) (cs++news))(f:v'.ownBlock=v.ownBlock\/v'.ownBlock=some w.heap.size)(u:Gr h c)(y:∀ b,h.size<=b->b<w'.heap.size->c[b]?=some aY) :
  Gro h0 (B.map (·.b)) w' c ty sz v' (m+m2) (cs++news):=by
 have d:∀ b,v'.ownBlock=some b->b<w'.heap.size:=by
  intro b a
  rcases i with ⟨_,⟨rfl,_⟩|⟨g,cap,cur,rfl,_,hg,_⟩⟩
  ·simp[Value.ownBlock] at a
  ·simp[Value.ownBlock] at a
   subst a
   rcases ep g w'.heap.size with hl|hl
   ·exact hl
   ·rw[eq hl] at hg;cases hg
 refine ⟨i,fun b a=>?_,fun b a=>?_⟩
 ·rcases f with e|e
  ·rw[e] at a;rw[u.blk b (r.lt a)];exact r.jk b a
  ·have:b=w.heap.size:=by rw[e] at a;injection a with a;exact a.symm
   exact y b (by rw[this,s.g.size];exact ey _) (d b a)
 ·rcases f with e|e
  ·rw[e] at a;exact r.ap b a
  ·have:b=w.heap.size:=by rw[e] at a;injection a with a;exact a.symm
   intro j;obtain ⟨x,p,l⟩:=g2.1 j;have:=(s.own x p).lt;have o:x.b=b:=l
   omega
theorem kH {b:Nat}{news:List Value}(g:G w h)(a:Seg h b 0 news):∀ j u,news[j]?=some u->w.cell? ((⟨b,0,none⟩:Addr).add j)=some u:=by
 intro j u c;have:=j4 g (a j u c)
 unfold Addr.add
 split
 ·rename_i h0;subst h0;exact this
 ·exact this
end app
theorem UpM.put {M:List Nat}{w0 w w':World}{h0 h:Hp}{b:Nat}(u:UpM M w0 h0 w h)(p:Put b w w')(d:b∈M)(g:G w' h):UpM M w0 h0 w' h :=
 ⟨⟨p.os.trans u.mo.os,p.tape.trans u.mo.tape,p.output.trans u.mo.output,by rw[p.size];exact u.mo.size,fun c f a=>(p.blk c (fun e=>a (e▸d))).trans (u.mo.blk c f a)⟩,u.gr,g⟩
theorem St.at_ {w:World}{h:Hp}{rb:Nat}{t:TypeId}{vs:List Value}(g:G w h)(o:Own w rb t vs)(j:h[rb]?=some aY):∃ w0 h0,G w0 h0/\St w0 h0 w h [⟨rb,t,vs⟩]:=by
 have f:=aF j;have e:=g.size;refine ⟨{ w with heap:=w.heap.extract 0 rb },h.extract 0 rb,⟨by simp;omega,fun b=>?_⟩,⟨⟨⟨rfl,rfl,rfl,by simp;omega,fun b c=>?_⟩,⟨by simp;omega,fun b c=>?_⟩,g⟩,?_,?_,?_,by simp⟩⟩
 ·show (h.extract 0 rb)[b]?=(w.heap.extract 0 rb)[b]?\/_
  rw[yU,yU]
  by_cases c:b<rb
  ·rw[if_pos oM,if_pos oM];simpa using g.blk b
  ·rw[if_neg oM,if_neg oM];exact .inl rfl
 ·have d:b<rb:=by have:b<(w.heap.extract 0 rb).size:=c;simp at this;omega
  show w.heap[b]?=(w.heap.extract 0 rb)[b]?
  rw[yU,if_pos oM];simp
 ·have d:b<rb:=by simp at c;omega
  rw[yU,if_pos oM];simp
 ·intro x a;rw[vl] at a;subst a;exact o
 ·intro x a;rw[vl] at a;subst a;exact j
 ·intro x a;rw[vl] at a;subst a;simp;omega
def dN (rb:Nat)(w0:World)(h0:Hp)(Φ:Value->World->Hp->Prop):Ending->World->Prop:=fun e w'=>∃ v h',e=.returned v/\UpM [rb] w0 h0 w' h'/\Φ v w' h'
section
variable {P:Program}{n:Nat}{Γ:bW}{w:World}{h:Hp}{w0 wz:World}{h0 hz:Hp}{B:List Bx}
theorem retM {c:Func}{rb:Nat}{Φ:Value->World->Hp->Prop}(s:St wz hz w h B)(e:UpM [rb] w0 h0 w h)(ps:List (Nat × Nat × Nat))(v:Value)(hk:(nk c Γ && bT B ps)=true)(f:bO P (oC c Γ) (cB B ps)=some (v,bG B ps))(b:Φ v w h) :
  ∀ a,Kn n a Γ->mT P c (dN rb w0 h0 Φ) a w:=by
 intro a d;rw[la] at hk
 refine ⟨d.df.trans (r5 hk.1),v,?_,v,h,rfl,e,b⟩;rw[jG d hk.1];exact bM _ _ _ _ f (cl s.own ps hk.2)
theorem St.stepM (s:St w0 h0 w h B)(O:G w0 h0){j:Nat}{vs:List Value}{w':World}{K:Hp}(z:j<B.length)(u:UpM [(av B j).b] w h w' K)(M:Own w' (av B j).b (av B j).t vs):St w0 h0 w' K (gf B j vs):=by
  have p:=a8 z;have Q:=s.lo _ p
  have C:(gf B j vs).map (·.b)=B.map (·.b):=by
    unfold gf
    rw[yg]
    apply yh
    intro i
    by_cases e:j=i
    . subst e
      rw[yi (by simpa using z)]
      simp[av,z]
    . rw[yj e]
  have F:Up w0 h0 w' K:=by
    refine ⟨⟨u.mo.os.trans s.up.ext.os,u.mo.tape.trans s.up.ext.tape,u.mo.output.trans s.up.ext.output,e4 s.up.ext.size u.mo.size,fun c J=>?_⟩,s.up.gr.trans u.gr,u.g⟩;rw[u.mo.blk c (e5 J s.up.ext.size) (fun p=>by rw[vl] at p;rw[O.size] at J;omega)];exact Below.block s.up.ext c J
  have d:∀ x∈gf B j vs,∃ y∈B,y.b=x.b:=by
    intro x f;have:x.b∈(gf B j vs).map (·.b):=g2.2 ⟨x,f,rfl⟩;rw[C] at this
    obtain ⟨y,l,a⟩:=g2.1 this;exact ⟨y,l,a⟩
  refine ⟨F,?_,?_,?_,by rw[C];exact s.nd⟩
  . intro x f
    obtain ⟨i,hi,a⟩:=yk.1 f;have o:i<B.length:=by simpa [gf] using hi
    by_cases e:j=i
    . subst e
      have:x={ av B j with vs:=vs }:=by rw[<-a];simp[gf]
      subst this;exact M
    . have I:x=B[i]:=by rw[<-a];simp[gf,e]
      subst I
      have D:B[i].b≠(av B j).b:=by
        intro H
        have h1:(B.map (·.b))[i]'(by simpa using o)=(B.map (·.b))[j]'(by simpa using z):=by
          simp only[yl]
          rw[H]
          simp[av,z]
        exact e ((ym s.nd).1 h1).symm
      have L:=s.own _ (gs o)
      show w'.heap[B[i].b]?=_
      rw[u.mo.blk _ L.lt (fun p=>D (vl.1 p))];exact L
  . intro x f
    obtain ⟨y,l,a⟩:=d x f;rw[<-a,u.gr.blk _ (aF (s.jk y l))];exact s.jk y l
  . intro x f
    obtain ⟨y,l,a⟩:=d x f;rw[<-a];exact s.lo y l
theorem Gro.upM {i:Hp}{d:List Nat}{ty:TypeId}{sz:Nat}{v:Value}{m:Nat}{cs:List Value}(r:Gro i d w h ty sz v m cs){w':World}{f:Hp}{b:Nat}(u:UpM [b] w h w' f)(j:b∈d):Gro i d w' f ty sz v m cs :=
 ⟨dX r.own (fun c a=>u.mo.blk c (jC r.own a) (fun e=>by rw[vl] at e;exact r.ap c a (e▸j))),fun c a=>(u.gr.blk c (r.lt a)).trans (r.jk c a),r.ap⟩
theorem fv (s:St w0 h0 w h B){i j:Nat}(hi:decide (i<B.length)=true)(f:decide (j<B.length)=true)(d:(i == j)=false):(av B i).b≠(av B j).b:=by
 have c:=oT hi;have a:=oT f;intro e
 have h1:(B.map (·.b))[i]'(by simpa using c)=(B.map (·.b))[j]'(by simpa using a):=by
  simp only[yl]
  simpa [av,c,a] using e
 have:=(ym s.nd).1 h1;subst this
 simp at d
end
section pub
variable {h0:Hp}{B:List Nat}{w:World}{h:Hp}{ty:TypeId}{sz:Nat}{v:Value}{n:Nat}{cs:List Value}
theorem Gro.pub3 {w0:World}{o:List Bx}{A:Z9}{j a:Nat}(s:St w0 h0 w h o)(r:Gro h0 (o.map (·.b)) w h ty sz (.slice A j a) n cs):∃ z,St w0 h0 w z o/\Gw h z/\(∀ c,(Value.slice A j a).ownBlock≠some c->z[c]?=h[c]?)/\j=n/\n<=a/\(0<n->A=some ⟨aB A,0,none⟩/\aO A=0)/\Seg z (aB A) 0 cs:=by
  rcases r.own with ⟨h1,⟨e,rfl⟩|⟨b,cap',cur,e,hbb,hg,hn,hm,hs,ht⟩⟩
  . injection e with e1 e2 e3
    subst e1 e2 e3;have:cs=[]:=yF (by simpa using h1);subst this;exact ⟨h,s,⟨ey _,fun _ _=>.inl rfl⟩,fun _ _=>rfl,rfl,ey _,fun h=>by omega,fun i v hv=>by simp at hv⟩
  . injection e with e1 e2 e3
    subst e1 e2 e3;have d:=r.jk b rfl;have l:=aF d;have B:∀ x∈o,x.b≠b:=fun x y e=>r.ap b rfl (g2.2 ⟨x,y,e⟩)
    refine ⟨h.setIfInBounds b (.cells cur ty),⟨⟨s.up.ext,⟨by simp;exact s.up.gr.size,fun c p=>?_⟩,⟨by simp;exact s.up.g.size,fun c=>?_⟩⟩,s.own,?_,s.lo,s.nd⟩,⟨by simp,fun c p=>?_⟩,fun c p=>?_,rfl,hn,fun _=>⟨rfl,rfl⟩,?_⟩
    . rw[i3 oM];exact s.up.gr.blk c p
    . by_cases e:b=c
      . subst e;left;rw[yV l];exact hg.symm
      . rw[i3 e];exact s.up.g.blk c
    . intro x y
      rw[i3 (Ne.symm (B x y))];exact s.jk x y
    . by_cases e:b=c
      . subst e;exact .inr d
      . left;rw[i3 e]
    . rw[i3 (fun e=>p (by rw[<-e];rfl))]
    . intro i u f
      unfold da
      show (match (h.setIfInBounds b (.cells cur ty))[b]? with|some (.cells c _ _)=>c[0+i]?|_=>none)=some u
      rw[yV l];rw[<-ht] at f
      have hi:i<j*sz:=by
        rcases ep i (j*sz) with hl|hl
        . exact hl
        . rw[ya (by simp;omega)] at f;cases f
      rw[yp hi] at f
      simpa using f
theorem Gro.pubo (r:Gro h0 B w h ty sz v n cs){a:Hp}{u:Value}(e:∀ c,u.ownBlock≠some c->a[c]?=h[c]?)(f:Apart v u):Gro h0 B w a ty sz v n cs:=⟨r.own,fun b d=>(e b (f b d)).trans (r.jk b d),r.ap⟩
theorem SlO.of_pub {α:Type}{f:α->List Value}{d:α}{l:List α}{A:Z9}(hf:∀ x,(f x).length=sz)(a:0<l.length->A=some ⟨aB A,0,none⟩/\aO A=0)(b:Seg h (aB A) 0 (l.flatMap f)):SlO sz f d h A l:=by
 rcases yW l.length with h0'|h0'
 ·have:l=[]:=yF h0'
  subst this;exact SlO.nil
 ·obtain ⟨e1,e2⟩:=a h0'
  have:=SlO.of_flat (d:=d) hf b;rw[<-e1] at this
  exact this
end pub
theorem St.pubX {w0:World}{h0:Hp}{w:World}{h:Hp}{B:List Bx}(s:St w0 h0 w h B)(j:Nat)(u:j<B.length):∃ p,St w0 h0 w p (B.eraseIdx j)/\Gw h p/\Seg p (av B j).b 0 (av B j).vs/\p[(av B j).b]?=some (.cells (av B j).vs.toArray (av B j).t (0,0))/\∀ c,c≠(av B j).b->p[c]?=h[c]?:=by
 have D:=a8 u;have H:=s.own _ D;have f:=s.jk _ D;have d:=aF f
 have z:∀ x∈B.eraseIdx j,x.b≠(av B j).b:=by
  intro x a;obtain ⟨i,hi,y⟩:=yk.1 a;rw[yX] at y
  intro o;have l:=s.nd;have F:(av B j)=B[j]:=by unfold av;simp[u]
  split at y
  ·rename_i J
   have:(B.map (·.b))[i]'(by simp;omega)=(B.map (·.b))[j]'(by simpa using u):=by simp only[yl];rw[y,o,F]
   have:=(ym l).1 this
   omega
  ·rename_i J
   have C:i+1<B.length:=by rw[yY u] at hi;omega
   have:(B.map (·.b))[i+1]'(by simpa using C)=(B.map (·.b))[j]'(by simpa using u):=by simp only[yl];rw[y,o,F]
   have:=(ym l).1 this
   omega
 refine ⟨h.setIfInBounds (av B j).b (.cells (av B j).vs.toArray (av B j).t (0,0)),⟨⟨s.up.ext,⟨by simp;exact s.up.gr.size,fun b o=>?_⟩,⟨by simp;exact s.up.g.size,fun b=>?_⟩⟩,?_,?_,?_,?_⟩,⟨by simp,fun b o=>?_⟩,?_,yV d,fun c I=>i3 (Ne.symm I)⟩
 ·have:=s.lo _ D
  rw[i3 oM];exact s.up.gr.blk b o
 ·by_cases e:(av B j).b=b
  ·subst e
   left
   rw[yV d];exact H.symm
  ·rw[i3 e];exact s.up.g.blk b
 ·exact fun x a=>s.own x (yZ a)
 ·intro x a
  rw[i3 (Ne.symm (z x a))];exact s.jk x (yZ a)
 ·exact fun x a=>s.lo x (yZ a)
 ·exact s.nd.sublist ((y2 B j).map (·.b))
 ·by_cases e:(av B j).b=b
  ·subst e;exact .inr f
  ·left;rw[i3 e]
 ·intro i v hv
  unfold da
  rw[yV d]
  simpa using hv
structure Rw where
  ty:TypeId
  sz:Nat
  A:Z9
  c:Nat
  n:Nat
  cs:List Value
  deriving Inhabited
def Rw.v (r:Rw):Value:=.slice r.A r.n r.c
def AllF:List (Hp->Prop)->Hp->Prop
  | [],_=>True
  | p::l,h=>p h/\AllF l h
theorem AllF.q {a b c d:Hp->Prop}{F:List (Hp->Prop)}{h:Hp}(x:AllF (a::b::c::d::F) h):AllF F h:=x.2.2.2.2
theorem AllF.r {a b:Hp->Prop}{F:List (Hp->Prop)}{h:Hp}(x:AllF (a::b::F) h):AllF F h:=x.2.2
theorem AllF.gw:∀ {F:List (Hp->Prop)} {h a:Hp},(∀ p∈F,∀ h a,Gw h a->p h->p a)->Gw h a->AllF F h->AllF F a
 | [],_,_,_,_,_=>trivial
 | p::_,_,_,m,u,x=>⟨m p (by simp) _ _ u x.1,AllF.gw (fun q b=>m q (by simp[b])) u x.2⟩
structure SS (w0:World) (h0:Hp) (w:World) (h:Hp) (B:List Bx) (R:List Rw) (F:List (Hp->Prop)):Prop where
  g0:G w0 h0
  st:St w0 h0 w h B
  ro:∀ r∈R,Gro h0 (B.map (·.b)) w h r.ty r.sz r.v r.n r.cs
  ap:R.Pairwise (fun r s=>Apart r.v s.v)
  mo:∀ p∈F,∀ h h',Gw h h'->p h->p h'
  f:AllF F h
section ss
variable {w0:World}{h0:Hp}{w:World}{h:Hp}{B:List Bx}{R:List Rw}{F:List (Hp->Prop)}
theorem SS.start (g:G w h):SS w h w h [] [] []:=⟨g,St.start g,fun _ a=>(by cases a),.nil,fun _ a=>(by cases a),trivial⟩
theorem SS.g (s:SS w0 h0 w h B R F):G w h:=s.st.g
theorem SS.step (s:SS w0 h0 w h B R F){w':World}{a:Hp}(u:Up w h w' a):SS w0 h0 w' a B R F :=
 ⟨s.g0,s.st.step u,fun r hr=>(s.ro r hr).up u,s.ap,s.mo,s.f.gw s.mo u.gr.gw⟩
theorem SS.add (s:SS w0 h0 w h B R F){K:Hp->Prop}(x:K h)(m:∀ h h',Gw h h'->K h->K h':=by intro _ _ u x;exact x.gw u):SS w0 h0 w h B R (K::F) :=
 ⟨s.g0,s.st,s.ro,s.ap,fun p a=>by
  rcases g4.1 a with rfl|a
  ·exact m
  ·exact s.mo p a,x,s.f⟩
theorem SS.a_SlO {α:Type}{sz:Nat}{f:α->List Value}{d:α}{A:Z9}{l:List α}(s:SS w0 h0 w h B R F)(x:SlO sz f d h A l):SS w0 h0 w h B R ((fun h=>SlO sz f d h A l)::F):=s.add (K:=fun h=>SlO sz f d h A l) x
theorem SS.a_Seg {b o:Nat}{cs:List Value}(s:SS w0 h0 w h B R F)(x:Seg h b o cs):SS w0 h0 w h B R ((fun h=>Seg h b o cs)::F):=s.add (K:=fun h=>Seg h b o cs) x
theorem SS.tl {K:Hp->Prop}(s:SS w0 h0 w h B R (K::F)):SS w0 h0 w h B R F:=⟨s.g0,s.st,s.ro,s.ap,fun p a=>s.mo p (List.mem_cons_of_mem _ a),s.f.2⟩
theorem SS.nil (s:SS w0 h0 w h B R F)(ty:TypeId)(sz:Nat):SS w0 h0 w h B (⟨ty,sz,none,0,0,[]⟩::R) F :=
 ⟨s.g0,s.st,fun r hr=>by
  rcases g4.1 hr with rfl|hr
  ·exact Gro.nil
  ·exact s.ro r hr,List.pairwise_cons.2 ⟨fun _ _=>Apart.nil,s.ap⟩,s.mo,s.f⟩
theorem SS.to (s:SS w0 h0 w h B R F)(a:List Bx)(R':List Rw)(e:B=a:=by kernel_rfl)(e2:R=R':=by kernel_rfl):SS w0 h0 w h a R' F:=e▸e2▸s
theorem kJ {j o:Nat}{cs:List Value}(a:j<B.length):(fN B j o cs).map (·.b)=B.map (·.b):=by
 unfold fN
 rw[yg]
 apply yh
 intro i
 by_cases e:j=i
 ·subst e
  rw[yi (by simpa using a)]
  simp[av,a]
 ·rw[yj e]
theorem jm {j:Nat}{vs:List Value}(a:j<B.length):(gf B j vs).map (·.b)=B.map (·.b):=by
 unfold gf
 rw[yg]
 apply yh
 intro i
 by_cases e:j=i
 ·subst e
  rw[yi (by simpa using a)]
  simp[av,a]
 ·rw[yj e]
theorem SS.put0 (s:SS w0 h0 w h B R F){j:Nat}{a:List Bx}{w':World}(c:j<B.length)(p:Put (av B j).b w w')(d:St w0 h0 w' h a)(e:a.map (·.b)=B.map (·.b)):SS w0 h0 w' h a R F :=
 ⟨s.g0,d,fun r hr=>by rw[e];exact (s.ro r hr).put p (g2.2 ⟨_,a8 c,rfl⟩),s.ap,s.mo,s.f⟩
theorem SS.new (s:SS w0 h0 w h B R F){w':World}{a:Hp}(u:Up w h w' a){b:Nat}{ty:TypeId}{vs:List Value}(j:h.size<=b)(d:St w0 h0 w' a (⟨b,ty,vs⟩::B)):SS w0 h0 w' a (⟨b,ty,vs⟩::B) R F :=
 ⟨s.g0,d,fun r hr=>((s.ro r hr).up u).new b (fun c i e=>by have:=(s.ro r hr).lt i;omega),s.ap,s.mo,s.f.gw s.mo u.gr.gw⟩
theorem SS.stepM (s:SS w0 h0 w h B R F)(j:Nat){rb:Nat}{vs:List Value}{w':World}{c:Hp}(u:UpM [rb] w h w' c)(d:Own w' rb (av B j).t vs)(i:decide (j<B.length)=true:=by kernel_rfl)(e:(av B j).b=rb:=by kernel_rfl):SS w0 h0 w' c (gf B j vs) R F:=by
 subst e;have a:=oT i;exact ⟨s.g0,s.st.stepM s.g0 a u d,fun r hr=>by rw[jm a];exact (s.ro r hr).upM u (g2.2 ⟨_,a8 a,rfl⟩),s.ap,s.mo,s.f.gw s.mo u.gr.gw⟩
theorem SS.drop (s:SS w0 h0 w h B R F)(k m:Nat):SS w0 h0 w h (B.drop k) (R.drop m) F :=
 ⟨s.g0,s.st.drop k,fun r hr=>(s.ro r (yJ hr)).sub _ (fun b c=>by
  obtain ⟨x,a,e⟩:=g2.1 c;exact g2.2 ⟨x,yJ a,e⟩),s.ap.sublist (yK _ _),s.mo,s.f⟩
theorem SS.own (s:SS w0 h0 w h B R F)(j:Nat)(a:decide (j<B.length)=true:=by kernel_rfl):Own w (av B j).b (av B j).t (av B j).vs:=s.st.own _ (a8 (oT a))
theorem SS.jk (s:SS w0 h0 w h B R F)(j:Nat)(a:decide (j<B.length)=true:=by kernel_rfl):h[(av B j).b]?=some aY:=s.st.jk _ (a8 (oT a))
theorem SS.pub (s:SS w0 h0 w h B R F)(j:Nat)(y:decide (j<B.length)=true:=by kernel_rfl):∃ a,SS w0 h0 w a (B.eraseIdx j) R F/\Seg a (av B j).b 0 (av B j).vs/\h0.size<=(av B j).b/\a[(av B j).b]?=some (.cells (av B j).vs.toArray (av B j).t (0,0)):=by
 have c:=oT y;obtain ⟨a,z,gw,u,o,d⟩:=s.st.pubX j c;have i:=a8 c;refine ⟨a,⟨s.g0,z,fun r hr=>((s.ro r hr).out (g2.2 ⟨_,i,rfl⟩) d).sub _ (fun b p=>?_),s.ap,s.mo,s.f.gw s.mo gw⟩,u,s.st.lo _ i,o⟩;obtain ⟨x,l,e⟩:=g2.1 p;exact g2.2 ⟨x,yZ l,e⟩
theorem SS.take (s:SS w0 h0 w h B R F){w':World}{i:Hp}(u:Up w h w' i){b:Nat}{ty:TypeId}{vs:List Value}(C:h.size<=b)(f:i[b]?=some (.cells vs.toArray ty (0,0)))(l:(ty == 0)=false:=by kernel_rfl) :
  ∃ d,SS w0 h0 w' d (⟨b,ty,vs⟩::B) R F/\(∀ c,c≠b->d[c]?=i[c]?)/\Gr h d:=by
 have o:=aF f;have p:Gr h (i.setIfInBounds b aY):=⟨by simp;exact u.gr.size,fun c j=>by rw[i3 oM];exact u.gr.blk c j⟩
 have H:G w' (i.setIfInBounds b aY):=⟨by simp;exact u.g.size,fun c=>by
  by_cases e:b=c
  ·subst e;right;rw[yV o]
  ·rw[i3 e];exact u.g.blk c⟩
 have z:Up w h w' (i.setIfInBounds b aY):=⟨u.ext,p,H⟩
 have J:Own w' b ty vs:=by
  rcases u.g.blk b with e|e
  ·exact e.symm.trans f
  ·rw[e] at f
   injection f with f
   unfold aY at f
   injection f with h1 h2 h3
   rw[<-h2] at l
   cases l
 refine ⟨i.setIfInBounds b aY,s.new z C ⟨s.st.up.trans z,?_,?_,?_,?_⟩,fun c j=>i3 (Ne.symm j),p⟩
 ·intro x a
  rcases g4.1 a with rfl|a
  ·exact J
  ·exact (s.st.own x a).ext u.ext
 ·intro x a
  rcases g4.1 a with rfl|a
  ·exact yV o
  ·rw[p.blk _ (aF (s.st.jk x a))];exact s.st.jk x a
 ·intro x a
  rcases g4.1 a with rfl|a
  ·exact e4 s.st.sz C
  ·exact s.st.lo x a
 ·refine hC.2 ⟨fun I=>?_,s.st.nd⟩
  obtain ⟨y,D,K⟩:=g2.1 I;have:=aF (s.st.jk y D);have L:y.b=b:=K
  omega
theorem SS.pubr (s:SS w0 h0 w h B R F)(j:Nat){ty:TypeId}{sz c:Nat}{A:Z9}{α:Type}{f:α->List Value}{l:List α}(d:α)(hf:∀ x,(f x).length=sz)(hr:R.getD j default=⟨ty,sz,A,c,l.length,l.flatMap f⟩:=by kernel_rfl)(M:decide (j<R.length)=true:=by kernel_rfl) :
  ∃ z,SS w0 h0 w z B (R.eraseIdx j) ((fun h=>SlO sz f d h A l)::F)/\l.length<=c:=by
 have a:=oT M;have D:R[j]=⟨ty,sz,A,c,l.length,l.flatMap f⟩:=by rw[<-hr];simp[a]
 have J:R[j]∈R:=gs a;have C:=s.ro _ J;rw[D] at C
 obtain ⟨z,O,gw,K,_,L,hz,I⟩:=Gro.pub3 s.st C
 have o:∀ r∈R.eraseIdx j,Apart r.v R[j].v:=by
  intro r hr;obtain ⟨i,hi,e⟩:=yk.1 hr;rw[yX] at e
  have b:=y3.1 s.ap
  split at e
  ·rename_i H;rw[<-e];exact b i j oM a H
  ·rename_i H
   rw[<-e];have y:i+1<R.length:=by rw[yY a] at hi;omega
   exact (b j (i+1) a y oM).symm
 refine ⟨z,⟨s.g0,O,fun r hr=>(s.ro r (yZ hr)).pubo K (by have:=o r hr;rw[D] at this;exact this),s.ap.sublist (y2 R j),fun p b=>by
  rcases g4.1 b with rfl|b
  ·exact fun _ _ u x=>x.gw u
  ·exact s.mo p b,SlO.of_pub hf hz I,s.f.gw s.mo gw⟩,L⟩
theorem SS.grown (s:SS w0 h0 w h B R F){j:Nat}(L:j<R.length){w':World}{v':Value}{m2:Nat}{news:List Value}(O:w'.ownsRow h0.size R[j].ty R[j].sz v' (R[j].n+m2) (R[j].cs++news))(Q:w.grownBy w' R[j].v.ownBlock)(M:v'.ownBlock=R[j].v.ownBlock\/v'.ownBlock=some w.heap.size) :
    ∃ z A c,v'=.slice A (R[j].n+m2) c/\Gr h z/\SS w0 h0 w' z B (R.set j ⟨R[j].ty,R[j].sz,A,c,R[j].n+m2,R[j].cs++news⟩) F:=by
  have U:R[j]∈R:=gs L;have r:=s.ro _ U;obtain ⟨z,C,W,D⟩:=wc s.st s.g0 r Q;have S:=r.grown s.st O M C D
  have H:∃ A c,v'=.slice A (R[j].n+m2) c:=by
    rcases O with ⟨_,⟨e,e2⟩|⟨g,cap,cur,e,_⟩⟩
    . exact ⟨none,0,by rw[e,e2]⟩
    . exact ⟨_,_,e⟩
  obtain ⟨A,c,e⟩:=H;subst e;have I:=y3.1 s.ap
  have d:∀ i (hi:i<R.length),i≠j->Apart R[j].v R[i].v:=fun i hi o=>by
    rcases Nat.lt_or_gt_of_ne o with hl|hl
    . exact (I i j hi L hl).symm
    . exact I j i L hi hl
  have l:∀ i (hi:i<R.length),i≠j->Apart (.slice A (R[j].n+m2) c) R[i].v:=fun i hi o =>
    Apart.grown (w:=w) (d i hi o) M (fun b p=>jC (s.ro _ (gs hi)).own p)
  refine ⟨z,A,c,rfl,C,⟨s.g0,W,?_,?_,s.mo,s.f.gw s.mo C.gw⟩⟩
  . intro x V
    obtain ⟨i,hi,y⟩:=yk.1 V;have a:i<R.length:=by simpa using hi
    by_cases e:j=i
    . subst e
      simp at y
      rw[<-y];exact S
    . rw[y4 e] at y
      rw[<-y];exact (s.ro _ (gs a)).app Q C (fun b p J=>d i a (Ne.symm e) b J p)
  . refine y3.2 (fun i k hi hk K=>?_)
    have a:i<R.length:=by simpa using hi
    have u:k<R.length:=by simpa using hk
    by_cases e:j=i
    . subst e
      rw[y5,y4 oM];exact l k u oM
    . by_cases e2:j=k
      . subst e2
        rw[y5,y4 oM];exact (l i a oM).symm
      . rw[y4 e,y4 e2]
        exact I i k a u K
end ss
theorem SS.aS {α:Type}{sz:Nat}{f:α->List Value}{x:α}{A:Z9}{l:List α}{w0 w:World}{h0 h:Hp}{B:List Bx}{R:List Rw}{F:List (Hp->Prop)}(s:SS w0 h0 w h B R F)(p:SlO sz f x h A l):SS w0 h0 w h B R ((fun h=>SlO sz f x h A l)::F):=s.a_SlO p
theorem SS.aP {α β:Type}{sz a:Nat}{f:α->List Value}{x:α}{A:Z9}{l:List α}{g:β->List Value}{y:β}{D:Z9}{m:List β}{w0 w:World}{h0 h:Hp}{B:List Bx}{R:List Rw}{F:List (Hp->Prop)}(s:SS w0 h0 w h B R F)(p:SlO sz f x h A l)(q:SlO a g y h D m):SS w0 h0 w h B R ((fun h=>SlO a g y h D m)::(fun h=>SlO sz f x h A l)::F):=(s.a_SlO p).a_SlO q
section
variable {P:Program}{n:Nat}{N R:Po}{X:Nat->Po}{Γ:bW}{w:World}{h:Hp}
theorem cQ {x y:Code}(H:CG P n (fun a w=>y.wp P (gZ N R X) a w) R X x Γ w):CG P n N R X (.seq x y) Γ w:=CG.seq H
theorem cK {y:Code}{N' R':Po}{X':Nat->Po}(H:CG P n N' R' X' y Γ w):CG P n (fun a w=>y.wp P (gZ N' R' X') a w) R X .skip Γ w:=CG.skipN H
theorem kQ {id:Nat}{ops:Array Oper}(H:LG P n N R X ops 0 Γ w):CG P n N R X (.region id ops false) Γ w:=CG.listed H
theorem kZ {id:Nat}{c:Code}(H:CG P n N R (fun i=>if i=id then N else X i) c Γ w):CG P n N R X (.block id c) Γ w:=CG.block H
theorem kX (H:∀ a,Kn n a Γ->R a w):CG P n N R X .ret Γ w:=CG.ret H
theorem sS (g:G w h):SS w h w h [] [] []:=SS.start g
end
theorem nR (n:Nat):n<=n:=ey n
theorem fW {n:Int}(h0 : -9223372036854775808<=n)(h1:n<=9223372036854775807):IntKind.wrap .i64 n=n:=by rw[IntKind.wrap_i64];omega
def BI (P:Program)(ρ:Operand->Value)(o:Oper):Option (Value × Value × Nat) :=
  match o.op with
  | .indexAddr t x ix=>match P.underlying t with
    | some (.slice e)=>(P.info? e).map fun i=>(ρ x,ρ ix,i.size)
    | _=>none
  | _=>none
theorem f0 {P:Program}{Γ:bW}{o:Oper}{A:Z9}{len a sz:Nat}{i:Int}{k:Nat}(h:BI P (ev Γ) o=some (.slice A len a,.int .i64 i,sz))(d:A=some ⟨aB A,aO A,none⟩)(hk:i=k)(b:k<len)(w:World) :
    (execOp (ev Γ) o).run P w=.ok (.value (.pointer (some ⟨aB A,aO A+k*sz,none⟩))) w:=by
  unfold BI at h
  split at h
  . rename_i t x ix f
    split at h
    . rename_i e c
      cases hi:P.info? e with
      | none=>rw[hi] at h;cases h
      | some inf =>
        rw[hi] at h
        simp only[ye,Option.some.injEq,Prod.mk.injEq] at h
        exact Dh (P:=P) k f h.1 h.2.1 c (by rw[hi];simp[h.2.2]) d hk b w
    . cases h
  . cases h
def CF (P:Program)(ρ:Operand->Value)(o:Oper):Option (Value × Option Value × Option Value × Nat) :=
  match o.op with
  | .slice t x lo' hi' none=>match P.underlying t with
    | some (.slice e)=>(P.info? e).map fun i=>(ρ x,lo'.map ρ,hi'.map ρ,i.size)
    | _=>none
  | _=>none
theorem Eo {P:Program}{Γ:bW}{o:Oper}{A:Z9}{len a sz:Nat}{i:Int}(k:Nat)(h:CF P (ev Γ) o=some (.slice A len a,none,some (.int .i64 i),sz))(hk:i=k)(b:k<=a)(w:World) :
    (execOp (ev Γ) o).run P w=.ok (.value (.slice A k a)) w:=by
  unfold CF at h
  split at h
  . rename_i t x l r d
    split at h
    . rename_i e c
      cases hi:P.info? e with
      | none=>rw[hi] at h;cases h
      | some inf =>
        rw[hi] at h
        simp only[ye,Option.some.injEq,Prod.mk.injEq,y6,yd] at h
        obtain ⟨h1,rfl,⟨y,rfl,f⟩,j⟩:=h;exact GR (P:=P) k d h1 f c (by rw[hi];rfl) hk b w
    . cases h
  . cases h
theorem oI {P:Program}{Γ:bW}{o:Oper}{A:Z9}{len a sz:Nat}{i:Int}(k:Nat)(h:CF P (ev Γ) o=some (.slice A len a,some (.int .i64 i),none,sz))(hk:i=k)(b:k<=len)(w:World) :
    (execOp (ev Γ) o).run P w=.ok (.value (.slice (if a=k then A else A.map (·.add (k*sz))) (len-k) (a-k))) w:=by
  unfold CF at h
  split at h
  . rename_i t x l r d
    split at h
    . rename_i e c
      cases hi:P.info? e with
      | none=>rw[hi] at h;cases h
      | some inf =>
        rw[hi] at h
        simp only[ye,Option.some.injEq,Prod.mk.injEq,y6,yd] at h
        obtain ⟨h1,⟨y,rfl,j⟩,rfl,f⟩:=h;exact DG (P:=P) k d h1 j c (by rw[hi];simp[f]) hk b w
    . cases h
  . cases h
def Gj (P:Program)(ρ:Operand->Value)(o:Oper):Option (Value × Value × TypeId × Value × Nat × Nat) :=
  match o.op with
  | .makeSlice t x y=>match P.underlying t with
    | some (.slice e)=>match P.info? e with
      | some i=>i.zero.map fun z=>(ρ x,ρ y,e,z,i.size,i.bytes)
      | _=>none
    | _=>none
  | _=>none
theorem nH {P:Program}{Γ:bW}{o:Oper}{e:TypeId}{z:Value}{m sz bt:Nat}{α:Type}{f:α->List Value}{x0:α}(h:Gj P (ev Γ) o=some (.int .i64 (m:Int),.int .i64 (m:Int),e,z,sz,bt))(b:z.cells.toList=f x0)(c:z.cells.size=sz)(a:0<sz)(l:bt*m<=140737488355328)(d:m<9223372036854775808)(w:World) :
    (execOp (ev Γ) o).run P w=.ok (.value (.slice (some ⟨w.heap.size,0,none⟩) m m)) (w.alloc (.cells ((yL m x0).flatMap f).toArray e (0,0))):=by
  unfold Gj at h
  split at h
  . rename_i t x y p
    split at h
    . rename_i D i
      split at h
      . rename_i B hi
        simp only[yd,Prod.mk.injEq] at h
        obtain ⟨F,hz,h1,j,rfl,rfl,C,u⟩:=h;exact Gu (P:=P) p h1 j i (by rw[hi];simp[hz,C,u]) b c a l d w
      . cases h
    . cases h
  . cases h
def EL (P:Program)(ρ:Operand->Value)(o:Oper):Option (Value × Value × TypeId × Value × Nat × Nat) :=
  match o.op with
  | .call { callee:=.builtin .append,args:=⟨[x,y]⟩,argTypes:=⟨[t,u]⟩ }=>if t=u then match P.underlying t with
    | some (.slice e)=>match P.info? e with
      | some i=>i.zero.map fun z=>(ρ x,ρ y,e,z,i.size,i.bytes)
      | _=>none
    | _=>none else none
  | _=>none
theorem wL {P:Program}{ρ:Operand->Value}{o:Oper}{r:Value × Value × TypeId × Value × Nat × Nat}(h:EL P ρ o=some r):∃ x y t,o.op=.call { callee:=.builtin .append,args:=#[x,y],argTypes:=#[t,t] }/\ρ x=r.1/\ρ y=r.2.1/\P.underlying t=some (.slice r.2.2.1)/\(P.info? r.2.2.1).map (fun i=>(i.zero,i.size,i.bytes))=some (some r.2.2.2.1,r.2.2.2.2.1,r.2.2.2.2.2):=by
  unfold EL at h
  split at h
  . rename_i x y t u b
    split at h
    . rename_i a
      subst a
      split at h
      . rename_i e c
        split at h
        . rename_i d hi
          simp only[yd] at h
          obtain ⟨z,hz,rfl⟩:=h;exact ⟨x,y,t,b,rfl,rfl,c,by rw[hi];simp[hz]⟩
        . cases h
      . cases h
    . cases h
  . cases h
section listed
variable {P:Program}{n:Nat}{N R:Po}{X:Nat->Po}{ops:Array Oper}{k:Nat}{Γ:bW}{w:World}{h:Hp}{w0:World}{h0:Hp}{B:List Bx}{Rs:List Rw}{F:List (Hp->Prop)}
def cL (ops:Array Oper)(Γ:bW)(k t n:Nat):Bool:=fX ops Γ k && ((ao ops k).dst == some t) && decide (t<n) && (bh ops Γ (ao ops k) == some true)
def cS (ops:Array Oper)(Γ:bW)(k:Nat):Bool:=fX ops Γ k && ((ao ops k).dst == none) && (bh ops Γ (ao ops k) == some true)
theorem bQ {t:Nat}(h:cL ops Γ k t n=true):(fX ops Γ k && ((ao ops k).dst == some t) && decide (t<n))=true/\bh ops Γ (ao ops k)=some true:=by
 unfold cL at h
 rw[la] at h
 exact ⟨h.1,by simpa using h.2⟩
theorem g5 (h:cS ops Γ k=true):(fX ops Γ k && ((ao ops k).dst == none))=true/\bh ops Γ (ao ops k)=some true:=by
 unfold cS at h
 rw[la] at h
 exact ⟨h.1,by simpa using h.2⟩
theorem lV (t:Nat)(v:Value)(H:LG P n N R X ops (k+1) ((t,v)::Γ) w)(a:cL ops Γ k t n=true:=by kernel_rfl)(hr:(execOp (ev Γ) (ao ops k)).run P w=.ok (.value v) w:=by kernel_rfl):LG P n N R X ops k Γ w :=
 LG.val t v w (bQ a).1 (bQ a).2 hr H
theorem lB (t:Nat){e b:Bool}(c:e=b)(H:LG P n N R X ops (k+1) ((t,.bool b)::Γ) w)(a:cL ops Γ k t n=true:=by kernel_rfl)(hr:(execOp (ev Γ) (ao ops k)).run P w=.ok (.value (.bool e)) w:=by kernel_rfl):LG P n N R X ops k Γ w :=
 LG.val t _ w (bQ a).1 (bQ a).2 (c▸hr) H
theorem lI (t:Nat)(m:Int)(H:LG P n N R X ops (k+1) ((t,.int .i64 m)::Γ) w)(a:cL ops Γ k t n=true:=by kernel_rfl)(hr:(execOp (ev Γ) (ao ops k)).run P w=.ok (.value (.int .i64 (IntKind.wrap .i64 m))) w:=by kernel_rfl)(h0 : -9223372036854775808<=m:=by omega)(h1:m<=9223372036854775807:=by omega):LG P n N R X ops k Γ w :=
 LG.val t _ w (bQ a).1 (bQ a).2 (by rw[fW h0 h1] at hr;exact hr) H
theorem bB (t:Nat)(m:Int)(j:Nat)(H:LG P n N R X ops (k+1) ((t,.int .i64 (j:Int))::Γ) w)(a:cL ops Γ k t n=true:=by kernel_rfl)(hr:(execOp (ev Γ) (ao ops k)).run P w=.ok (.value (.int .i64 (IntKind.wrap .i64 m))) w:=by kernel_rfl)(b:m=j:=by omega)(h1:m<=9223372036854775807:=by omega):LG P n N R X ops k Γ w :=
 LG.val t _ w (bQ a).1 (bQ a).2 (by rw[fW oM h1,b] at hr;exact hr) H
theorem lO (t:Nat)(ps:List (Nat × Nat × Nat))(v:Value)(s:SS w0 h0 w h B Rs F)(H:LG P n N R X ops (k+1) ((t,v)::Γ) w)(a:cL ops Γ k t n=true:=by kernel_rfl)(b:bT B ps=true:=by kernel_rfl)(c:bO P (execOp (ev Γ) (ao ops k)) (cB B ps)=some (.value v,bG B ps):=by kernel_rfl):LG P n N R X ops k Γ w :=
 LG.own t ps v s.st (bQ a).1 (bQ a).2 b c H
def Fb (P:Program)(ops:Array Oper)(B:List Bx):bW->Nat->List (Nat × Value × List (Nat × Nat × Nat))->List (Option (Next × List Addr))
  | _,_,[]=>[]
  | Γ,k,x::l=>bO P (execOp (ev Γ) (ao ops k)) (cB B x.2.2)::Fb P ops B ((x.1,x.2.1)::Γ) (k+1) l
def F6 (n:Nat)(ops:Array Oper)(B:List Bx):bW->Nat->List (Nat × Value × List (Nat × Nat × Nat))->Bool
  | _,_,[]=>true
  | Γ,k,x::l=>cL ops Γ k x.1 n && bT B x.2.2 && F6 n ops B ((x.1,x.2.1)::Γ) (k+1) l
def rN (Γ:bW):List (Nat × Value × List (Nat × Nat × Nat))->bW
  | []=>Γ
  | x::l=>rN ((x.1,x.2.1)::Γ) l
theorem lS (s:SS w0 h0 w h B Rs F)(l:List (Nat × Value × List (Nat × Nat × Nat)))(H:LG P n N R X ops (k+l.length) (rN Γ l) w)(a:F6 n ops B Γ k l=true:=by kernel_rfl)(b:Fb P ops B Γ k l=l.map (fun x=>some (.value x.2.1,bG B x.2.2)):=by kernel_rfl):LG P n N R X ops k Γ w:=by
  induction l generalizing Γ k with
  | nil=>exact H
  | cons x l ih =>
    unfold F6 at a
    simp only[la] at a
    unfold Fb at b
    rw[yT] at b
    injection b with e1 e2
    refine lO x.1 x.2.2 x.2.1 s (ih ?_ a.2 e2) a.1.1 a.1.2 e1;have:k+1+l.length=k+(x::l).length:=by simp;omega
    rw[this];exact H
inductive It where
  | c
  | v (x:Value)
  | o (x:Value) (j a n:Nat)
def nT (ops:Array Oper)(k:Nat):Nat:=(ao ops k).dst.getD 0
def nX (ops:Array Oper)(k:Nat)(Γ:bW):Value:=match (ao ops k).op with
  | .move x=>ev Γ x
  | .assign x=>ev Γ x
  | _=>.tuple #[]
def It.to (ops:Array Oper)(k:Nat)(Γ:bW):It->Nat × Value × List (Nat × Nat × Nat)
  | .c=>(nT ops k,nX ops k Γ,[])
  | .v x=>(nT ops k,x,[])
  | .o x j a n=>(nT ops k,x,[(j,a,n)])
def tL (ops:Array Oper):Nat->bW->List It->List (Nat × Value × List (Nat × Nat × Nat))
  | _,_,[]=>[]
  | k,Γ,x::l=>x.to ops k Γ::tL ops (k+1) (((x.to ops k Γ).1,(x.to ops k Γ).2.1)::Γ) l
theorem Ba (ops:Array Oper)(k:Nat)(Γ:bW)(l:List It):(tL ops k Γ l).length=l.length:=by
 induction l generalizing k Γ with
 | nil=>rfl
 | cons x l ih=>show (tL _ _ _ l).length+1=_;rw[ih];rfl
abbrev ae:List It:=[.c]
abbrev aE:List It:=[.c,.c]
abbrev dG:List It:=[.c,.c,.c]
abbrev ll:List It:=[.c,.c,.c,.c]
abbrev Hm:List It:=[.c,.c,.c,.c,.c]
abbrev m6:List It:=[.c,.c,.c,.c,.c,.c]
theorem lL (s:SS w0 h0 w h B Rs F)(l:List It)(H:LG P n N R X ops (k+l.length) (rN Γ (tL ops k Γ l)) w)(b:F6 n ops B Γ k (tL ops k Γ l)=true:=by kernel_rfl)(a:Fb P ops B Γ k (tL ops k Γ l)=(tL ops k Γ l).map (fun x=>some (.value x.2.1,bG B x.2.2)):=by kernel_rfl):LG P n N R X ops k Γ w :=
 lS s (tL ops k Γ l) (by rw[Ba];exact H) b a
theorem lP (j o:Nat)(cs:List Value)(s:SS w0 h0 w h B Rs F)(H:∀ w',SS w0 h0 w' h (fN B j o cs) Rs F->LG P n N R X ops (k+1) Γ w')(c:cS ops Γ k=true:=by kernel_rfl)
  (a:(decide (j<B.length) && decide (o+cs.length<=(av B j).vs.length))=true:=by kernel_rfl)(d:dr P (execOp (ev Γ) (ao ops k))=some (.skip,nu (av B j).b o cs):=by kernel_rfl):LG P n N R X ops k Γ w :=
 LG.put j o cs s.st s.g0 (g5 c).1 (g5 c).2 a d (fun w' p e=>H w' (s.put0 (oT (la _ _▸a).1) p e (kJ (oT (la _ _▸a).1))))
theorem lA (t:Nat)(ty:TypeId)(vs:List Value)(s:SS w0 h0 w h B Rs F)(H:∀ b w' a,SS w0 h0 w' a (⟨b,ty,vs⟩::B) Rs F->LG P n N R X ops (k+1) ((t,.pointer (some ⟨b,0,none⟩))::Γ) w')(c:cL ops Γ k t n=true:=by kernel_rfl)
  (hr:(execOp (ev Γ) (ao ops k)).run P w=.ok (.value (.pointer (some ⟨w.heap.size,0,none⟩))) (w.alloc (.cells vs.toArray ty (0,0))):=by kernel_rfl):LG P n N R X ops k Γ w :=
 LG.var t ty vs s.st (bQ c).1 (bQ c).2 hr (fun b w' a d u e=>H b w' a (s.new u d e))
theorem lC (t:Nat){f:FuncId}{args:Array Value}{Φ:Value->Hp->Prop}(s:SS w0 h0 w h B Rs F)(c:Calls P f args w (Ret w h Φ))(H:∀ v w' a,SS w0 h0 w' a B Rs F->Φ v a->LG P n N R X ops (k+1) ((t,v)::Γ) w')(d:cL ops Γ k t n=true:=by kernel_rfl)(hr:(execOp (ev Γ) (ao ops k)).run P w=.ok (.enter f args) w:=by kernel_rfl):LG P n N R X ops k Γ w :=
 LG.call t f args (bQ d).1 (bQ d).2 hr (c.mono fun e w' ⟨v,a,i,u,b⟩=>⟨v,i,H v w' a (s.step u) b⟩)
theorem jI (t:Nat){f:FuncId}{args:Array Value}{Φ:Value->Hp->Prop}(c:Calls P f args w (Ret w h Φ))(H:∀ v w' a,Up w h w' a->Φ v a->LG P n N R X ops (k+1) ((t,v)::Γ) w')(d:cL ops Γ k t n=true:=by kernel_rfl)(hr:(execOp (ev Γ) (ao ops k)).run P w=.ok (.enter f args) w:=by kernel_rfl):LG P n N R X ops k Γ w :=
 LG.call t f args (bQ d).1 (bQ d).2 hr (c.mono fun e w' ⟨v,a,i,u,b⟩=>⟨v,i,H v w' a u b⟩)
theorem fq (t:Nat){f:FuncId}{args:Array Value}{rb:Nat}{Φ:Value->World->Hp->Prop}(c:Calls P f args w (dN rb w h Φ))(H:∀ v w' a,UpM [rb] w h w' a->Φ v w' a->LG P n N R X ops (k+1) ((t,v)::Γ) w')(d:cL ops Γ k t n=true:=by kernel_rfl)(hr:(execOp (ev Γ) (ao ops k)).run P w=.ok (.enter f args) w:=by kernel_rfl):LG P n N R X ops k Γ w :=
 LG.call t f args (bQ d).1 (bQ d).2 hr (c.mono fun e w' ⟨v,a,i,u,b⟩=>⟨v,i,H v w' a u b⟩)
theorem lH (t:Nat)(v:Value){b o:Nat}{cs:List Value}(s:SS w0 h0 w h B Rs F)(d:Seg h b o cs)(H:LG P n N R X ops (k+1) ((t,v)::Γ) w)(a:cL ops Γ k t n=true:=by kernel_rfl)(c:bO P (execOp (ev Γ) (ao ops k)) cs=some (.value v,lM b o cs.length):=by kernel_rfl):LG P n N R X ops k Γ w :=
 LG.val t v w (bQ a).1 (bQ a).2 (Seg.run d s.g (Ext.refl _) c) H
theorem HH (t:Nat)(v:Value){u:Value}{b o:Nat}{cs:List Value}(s:SS w0 h0 w h B Rs F)(d:Seg h b o cs)(e:v=u)(H:LG P n N R X ops (k+1) ((t,u)::Γ) w)(a:cL ops Γ k t n=true:=by kernel_rfl)(c:bO P (execOp (ev Γ) (ao ops k)) cs=some (.value v,lM b o cs.length):=by kernel_rfl):LG P n N R X ops k Γ w :=
 LG.val t u w (bQ a).1 (bQ a).2 (e▸Seg.run d s.g (Ext.refl _) c) H
theorem lX (t:Nat)(A:Z9)(len a sz:Nat)(i:Int)(j:Nat)(d:A=some ⟨aB A,aO A,none⟩)(H:LG P n N R X ops (k+1) ((t,.pointer (some ⟨aB A,aO A+j*sz,none⟩))::Γ) w)(c:cL ops Γ k t n=true:=by kernel_rfl)(e:BI P (ev Γ) (ao ops k)=some (.slice A len a,.int .i64 i,sz):=by kernel_rfl)(hk:i=j:=by omega)(b:j<len:=by omega):LG P n N R X ops k Γ w :=
 LG.val t _ w (bQ c).1 (bQ c).2 (f0 e d hk b w) H
theorem lT (t:Nat)(A:Z9)(len a sz:Nat)(i:Int)(j:Nat)(H:LG P n N R X ops (k+1) ((t,.slice A j a)::Γ) w)(c:cL ops Γ k t n=true:=by kernel_rfl)(d:CF P (ev Γ) (ao ops k)=some (.slice A len a,none,some (.int .i64 i),sz):=by kernel_rfl)(hk:i=j:=by omega)(b:j<=a:=by omega):LG P n N R X ops k Γ w :=
 LG.val t _ w (bQ c).1 (bQ c).2 (Eo j d hk b w) H
theorem lF (t:Nat)(A:Z9)(len a sz:Nat)(i:Int)(j:Nat)(H:LG P n N R X ops (k+1) ((t,.slice (if a=j then A else A.map (·.add (j*sz))) (len-j) (a-j))::Γ) w)(c:cL ops Γ k t n=true:=by kernel_rfl)(d:CF P (ev Γ) (ao ops k)=some (.slice A len a,some (.int .i64 i),none,sz):=by kernel_rfl)(hk:i=j:=by omega)(b:j<=len:=by omega):LG P n N R X ops k Γ w :=
 LG.val t _ w (bQ c).1 (bQ c).2 (oI j d hk b w) H
theorem lR (t:Nat)(ty:TypeId)(m:Nat)(cs:List Value)(s:SS w0 h0 w h B Rs F)(H:∀ b w' a,SS w0 h0 w' a B Rs ((fun h=>Seg h b 0 cs)::F)->LG P n N R X ops (k+1) ((t,.slice (some ⟨b,0,none⟩) m m)::Γ) w')(c:cL ops Γ k t n=true:=by kernel_rfl)
  (hr:(execOp (ev Γ) (ao ops k)).run P w=.ok (.value (.slice (some ⟨w.heap.size,0,none⟩) m m)) (w.alloc (.cells cs.toArray ty (0,0))):=by kernel_rfl):LG P n N R X ops k Γ w :=
 LG.row t ty m cs s.g (bQ c).1 (bQ c).2 hr (fun b w' a u d=>H b w' a ((s.step u).a_Seg d))
theorem lK {α:Type}(t:Nat)(ty:TypeId)(m sz bt:Nat)(z:Value)(f:α->List Value)(x0:α)(s:SS w0 h0 w h B Rs F)(H:∀ b w' e,SS w0 h0 w' e (⟨b,ty,(yL m x0).flatMap f⟩::B) Rs F->LG P n N R X ops (k+1) ((t,.slice (some ⟨b,0,none⟩) m m)::Γ) w')(j:cL ops Γ k t n=true:=by kernel_rfl)
  (o:Gj P (ev Γ) (ao ops k)=some (.int .i64 (m:Int),.int .i64 (m:Int),ty,z,sz,bt):=by kernel_rfl)(c:z.cells.toList=f x0:=by kernel_rfl)(d:z.cells.size=sz:=by kernel_rfl)(a:0<sz:=by decide)(l:bt*m<=140737488355328:=by omega)(i:m<9223372036854775808:=by omega):LG P n N R X ops k Γ w :=
 LG.arr t ty m _ s.st (bQ j).1 (bQ j).2 (nH o c d a l i w) (fun b w' e p u x=>H b w' e (s.new u p x))
theorem lQ {α:Type}(t j:Nat)(l:List α)(f:α->List Value)(sz:Nat)(d:α)(e:Nat)(v:Value)(s:SS w0 h0 w h B Rs F)(hk:e<l.length)(H:LG P n N R X ops (k+1) ((t,v)::Γ) w)(a:cL ops Γ k t n=true:=by kernel_rfl)
  (i:decide (j<B.length)=true:=by kernel_rfl)(hB:(av B j).vs=l.flatMap f:=by kernel_rfl)(hf:∀ x,(f x).length=sz:=by intro _;rfl)
  (c:bO P (execOp (ev Γ) (ao ops k)) (f (l.getD e d))=some (.value v,lM (av B j).b (0+e*sz) (f (l.getD e d)).length):=by kernel_rfl):LG P n N R X ops k Γ w :=
 LG.ownA t j l f sz d e v s.st (bQ a).1 (bQ a).2 i hB hf hk c H
theorem lW {α:Type}(j:Nat)(l:List α)(f:α->List Value)(sz e:Nat)(x:α)(s:SS w0 h0 w h B Rs F)(hk:e<l.length)(H:∀ w',SS w0 h0 w' h (gf B j ((l.set e x).flatMap f)) Rs F->LG P n N R X ops (k+1) Γ w')(c:cS ops Γ k=true:=by kernel_rfl)
  (a:decide (j<B.length)=true:=by kernel_rfl)(hB:(av B j).vs=l.flatMap f:=by kernel_rfl)(hf:∀ x,(f x).length=sz:=by intro _;rfl)
  (d:dr P (execOp (ev Γ) (ao ops k))=some (.skip,nu (av B j).b (0+e*sz) (f x)):=by kernel_rfl):LG P n N R X ops k Γ w :=
 LG.putA j l f sz e x s.st s.g0 (g5 c).1 (g5 c).2 a hB hf hk d (fun w' p i=>H w' (s.put0 (oT a) p i (jm (oT a))))
theorem k7 {R:List Rw}{j:Nat}{r:Rw}(hr:R.getD j default=r)(a:j<R.length):R[j]=r:=by rw[<-hr];simp[a]
theorem Hl (t j:Nat){ty:TypeId}{sz c m:Nat}{A:Z9}{cs:List Value}{bt m2 c2:Nat}{z:Value}{a:Addr}(news:List Value)(s:SS w0 h0 w h B Rs F)(b:∀ i u,news[i]?=some u->w.cell? (a.add i)=some u)(Z:news.length=m2*sz)(h1:∀ u∈news,u.oneCell'=true)(C:j<Rs.length)(hr:Rs[j]=⟨ty,sz,A,c,m,cs⟩)
  (I:cL ops Γ k t n=true)(Q:EL P (ev Γ) (ao ops k)=some (.slice A m c,.slice (some a) m2 c2,ty,z,sz,bt))(o:z.cells.size=sz)(d:0<sz)(M:m+m2<=1099511627776)(U:(m+m2)*bt<=140737488355328)
  (H:∀ l c' w' p,SS w0 h0 w' p B (Rs.set j ⟨ty,sz,l,c',m+m2,cs++news⟩) F->LG P n N R X ops (k+1) ((t,.slice l (m+m2) c')::Γ) w'):LG P n N R X ops k Γ w:=by
 obtain ⟨x,y,L,O,W,J,K,hi⟩:=wL Q;have r:=s.ro _ (gs C);rw[hr] at r
 obtain ⟨v',w',f,V,Y,e⟩:=q9 (P:=P) O W J K hi o d s.st r Z b h1 M U;have D:=s.grown (j:=j) C (w':=w') (v':=v') (m2:=m2) (news:=news) (by rw[hr];exact V) (by rw[hr];exact Y) (by rw[hr];exact e);rw[hr] at D
 obtain ⟨p,l,c',rfl,_,S⟩:=D;exact LG.val t _ w' (bQ I).1 (bQ I).2 f (H l c' w' p S)
theorem oS {α:Type}{f:α->List Value}{l:List α}{x:α}:l.flatMap f++f x=(l++[x]).flatMap f:=by simp
theorem lY {α:Type}(t j:Nat)(ty:TypeId)(sz c:Nat)(A:Z9)(l:List α)(f:α->List Value)(x:α)(bt b:Nat)(z:Value)(s:SS w0 h0 w h B Rs F)(C:Seg h b 0 (f x))
  (H:∀ e c' w' o,SS w0 h0 w' o B (Rs.set j ⟨ty,sz,e,c',(l++[x]).length,(l++[x]).flatMap f⟩) F->LG P n N R X ops (k+1) ((t,.slice e (l++[x]).length c')::Γ) w')
  (L:cL ops Γ k t n=true:=by kernel_rfl)(J:EL P (ev Γ) (ao ops k)=some (.slice A l.length c,.slice (some ⟨b,0,none⟩) 1 1,ty,z,sz,bt):=by kernel_rfl)(i:z.cells.size=sz:=by kernel_rfl)(a:0<sz:=by decide)
  (hr:Rs.getD j default=⟨ty,sz,A,c,l.length,l.flatMap f⟩:=by kernel_rfl)(I:decide (j<Rs.length)=true:=by kernel_rfl)(h1:(f x).all (·.oneCell')=true:=by kernel_rfl)(M:(f x).length=1*sz:=by kernel_rfl)(D:l.length+1<=1099511627776:=by omega)(K:(l.length+1)*bt<=140737488355328:=by omega):LG P n N R X ops k Γ w:=by
 have d:=oT I;refine Hl t j (f x) s (kH s.g C) M (fun u y=>(ov.1 h1) u y) d (k7 hr d) L J i a D K (fun e c' w' o p=>?_);have e1:l.length+1=(l++[x]).length:=by simp
 rw[oS,e1] at p
 rw[e1];exact H e c' w' o p
end listed
section code
variable {P:Program}{n:Nat}{N R:Po}{X:Nat->Po}{Γ:bW}{w:World}
theorem aD {id:Nat}{ops:Array Oper}{y:Code}(H:LG P n (fun a w=>y.wp P (gZ N R X) a w) R X ops 0 Γ w):CG P n N R X (.seq (.region id ops false) y) Γ w:=CG.seq (CG.listed H)
theorem bZ {c:Operand}{x y:Code}(a:CG P n N R X x Γ w)(b:gl Γ c=true:=by kernel_rfl)(hv:ev Γ c=.bool true:=by kernel_rfl):CG P n N R X (.cond c x y) Γ w:=CG.condT b hv a
theorem cD {c:Operand}{x y:Code}(a:CG P n N R X y Γ w)(b:gl Γ c=true:=by kernel_rfl)(hv:ev Γ c=.bool false:=by kernel_rfl):CG P n N R X (.cond c x y) Γ w:=CG.condF b hv a
theorem bY {c:Code}(Γ':bW)(H:CG P n N R X c Γ' w)(b:iT Γ (Γ'.map (·.1))=Γ':=by kernel_rfl)(a:fS Γ'=fS Γ:=by kernel_rfl):CG P n N R X c Γ w:=CG.to Γ' b a H
theorem lN {ops:Array Oper}{k:Nat}{y:Code}{N' R':Po}{X':Nat->Po}(H:CG P n N' R' X' y Γ w)(b:(k == ops.size)=true:=by kernel_rfl):LG P n (fun a w=>y.wp P (gZ N' R' X') a w) R X ops k Γ w:=LG.next b H
theorem aK {ops:Array Oper}{k:Nat}{id:Nat}{b:Array Oper}{y:Code}{N' R':Po}{X':Nat->Po}(H:LG P n (fun a w=>y.wp P (gZ N' R' X') a w) R' X' b 0 Γ w)(c:(k == ops.size)=true:=by kernel_rfl):LG P n (fun a w=>(Code.seq (.region id b false) y).wp P (gZ N' R' X') a w) R X ops k Γ w:=lN (aD H) c
theorem lD {ops:Array Oper}{k:Nat}(H:∀ a,Kn n a Γ->N a w)(b:(k == ops.size)=true:=by kernel_rfl):LG P n N R X ops k Γ w:=LG.done b H
theorem lG {ops:Array Oper}{k:Nat}(t:Nat)(H:LG P n N R X ops (k+1) ((t,undef)::Γ) w)(b:(decide (k<ops.size) && ((ao ops k).dst == some t) && decide (t<n))=true:=by kernel_rfl)(a:bh ops Γ (ao ops k)=some false:=by kernel_rfl):LG P n N R X ops k Γ w:=LG.out t b a H
theorem SS.ret {c:Func}{Φ:Value->Hp->Prop}{w0:World}{h0:Hp}{h:Hp}{B:List Bx}{Rs:List Rw}{F:List (Hp->Prop)}(s:SS w0 h0 w h B Rs F)(ps:List (Nat × Nat × Nat))(v:Value)(b:Φ v h)(hk:(nk c Γ && bT B ps)=true:=by kernel_rfl)(d:bO P (oC c Γ) (cB B ps)=some (v,bG B ps):=by kernel_rfl):∀ a,Kn n a Γ->mT P c (Ret w0 h0 Φ) a w:=GP s.st ps v hk d b
theorem SS.retM {c:Func}{rb:Nat}{Φ:Value->World->Hp->Prop}{w0 wz:World}{h0 hz:Hp}{h:Hp}{B:List Bx}{Rs:List Rw}{F:List (Hp->Prop)}(s:SS wz hz w h B Rs F)(d:UpM [rb] w0 h0 w h)(ps:List (Nat × Nat × Nat))(v:Value)(b:Φ v w h)(hk:(nk c Γ && bT B ps)=true:=by kernel_rfl)(e:bO P (oC c Γ) (cB B ps)=some (v,bG B ps):=by kernel_rfl):∀ a,Kn n a Γ->mT P c (dN rb w0 h0 Φ) a w:=Go.Proofs.YtcbgbcghmndlmaaGreatDoor.retM s.st d ps v hk e b
theorem go {f:FuncId}{a:Func}{c:Code}{args:Array Value}{b:Ending->World->Prop}(hf:P.funcs[f]?=some a)(Γ0:bW)(h:a.body=some c)(H:CG P a.ntmps (mT P a b) (mT P a b) (fun _ _ _=>False) c Γ0 w)(i:Nat.ble args.size a.ntmps=true:=by kernel_rfl)(d:Γ0=envOf args.toList:=by kernel_rfl)(e:Nat.ble a.ntmps 1000000=true:=by kernel_rfl):Calls P f args w b :=
 enter hf h rfl (y7 i) (y7 e) Γ0 d H
end code
section
variable {P:Program}{n:Nat}{N R N' R' R2:Po}{X X' X2:Nat->Po}{Γ:bW}{w w0:World}{h h0:Hp}{B:List Bx}{Rs:List Rw}{F:List (Hp->Prop)}{ops:Array Oper}{k:Nat}
theorem au (t:Nat){f:FuncId}{args:Array Value}{x:Value}(s:SS w0 h0 w h B Rs F)(c:Calls P f args w (Ret w h fun v _=>v=x))(H:∀ w1 h1,SS w0 h0 w1 h1 B Rs F->LG P n N R X ops (k+1) ((t,x)::Γ) w1)(b:cL ops Γ k t n=true:=by kernel_rfl)(hr:(execOp (ev Γ) (ao ops k)).run P w=.ok (.enter f args) w:=by kernel_rfl):LG P n N R X ops k Γ w:=lC t s c (fun v w1 h1 a e=>by subst e;exact H w1 h1 a) b hr
theorem ab {id:Nat}{y:Code}(s:SS w0 h0 w h B Rs F)(l:List It)(H:LG P n (fun a w=>y.wp P (gZ N R X) a w) R X ops (0+l.length) (rN Γ (tL ops 0 Γ l)) w)(c:F6 n ops B Γ 0 (tL ops 0 Γ l)=true:=by kernel_rfl)(b:Fb P ops B Γ 0 (tL ops 0 Γ l)=(tL ops 0 Γ l).map (fun x=>some (.value x.2.1,bG B x.2.2)):=by kernel_rfl):CG P n N R X (.seq (.region id ops false) y) Γ w:=aD (lL s l H c b)
theorem ag {x y:Code}(H:CG P n (fun a w=>y.wp P (gZ N' R' X') a w) R' X' x Γ w)(b:(k==ops.size)=true:=by kernel_rfl):LG P n (fun a w=>(Code.seq x y).wp P (gZ N' R' X') a w) R X ops k Γ w:=lN (CG.seq H) b
theorem a7 {id:Nat}{c:Code}(H:CG P n N' R' (fun i=>if i=id then N' else X' i) c Γ w)(b:(k==ops.size)=true:=by kernel_rfl):LG P n (fun a w=>(Code.block id c).wp P (gZ N' R' X') a w) R X ops k Γ w:=lN (CG.block H) b
theorem am {c:Operand}{x y:Code}(H:CG P n N' R' X' y Γ w)(b:(k==ops.size)=true:=by kernel_rfl)(hi:gl Γ c=true:=by kernel_rfl)(hv:ev Γ c=.bool false:=by kernel_rfl):LG P n (fun a w=>(Code.cond c x y).wp P (gZ N' R' X') a w) R X ops k Γ w:=lN (cD H hi hv) b
theorem ar {c:Operand}{x y:Code}(H:CG P n N' R' X' x Γ w)(b:(k==ops.size)=true:=by kernel_rfl)(hi:gl Γ c=true:=by kernel_rfl)(hv:ev Γ c=.bool true:=by kernel_rfl):LG P n (fun a w=>(Code.cond c x y).wp P (gZ N' R' X') a w) R X ops k Γ w:=lN (bZ H hi hv) b
theorem ah {c:Func}{Φ:Value->Hp->Prop}(s:SS w0 h0 w h B Rs F)(ps:List (Nat×Nat×Nat))(v:Value)(b:Φ v h)(e:(k==ops.size)=true:=by kernel_rfl)(hk:(nk c Γ&&bT B ps)=true:=by kernel_rfl)(d:bO P (oC c Γ) (cB B ps)=some (v,bG B ps):=by kernel_rfl):LG P n (fun a w=>Code.ret.wp P (gZ N' (mT P c (Ret w0 h0 Φ)) X') a w) R X ops k Γ w:=lN (CG.ret (s.ret ps v b hk d)) e
end
section drawn
variable {M:Ms}{P:Program}{n:Nat}{N R:Po}{X:Nat->Po}{ops:Array Oper}{k0:Nat}{hr:Hp}{AL:List Al}{L:Array Bool}{Γ:bW}{w:World}{h:Hp}{w0:World}{h0:Hp}{B:List Bx}{Rs:List Rw}{F:List (Hp->Prop)}
def cE (n:Nat)(ops:Array Oper)(k0:Nat)(AL:List Al)(L:Array Bool)(Γ:bW)(i t:Nat):Bool:=dd n ops k0 AL L i t && a6 Γ (ao ops i) && (bh ops Γ (ao ops i) == some true)
def AA (n:Nat)(ops:Array Oper)(k0:Nat)(AL:List Al)(L:Array Bool)(Γ:bW)(i t:Nat):Bool:=dd n ops k0 AL L i t && a6 Γ (ao ops i) && gN ops k0 i && (bh ops Γ (ao ops i) == some true)
def B9 (n:Nat)(ops:Array Oper)(k0:Nat)(AL:List Al)(L:Array Bool)(Γ:bW)(i t:Nat):Bool:=mr n ops k0 AL L i t && a6 Γ (ao ops i) && (bh ops Γ (ao ops i) == some true)
theorem jl {i t:Nat}(h:cE n ops k0 AL L Γ i t=true):(dd n ops k0 AL L i t && a6 Γ (ao ops i))=true/\bh ops Γ (ao ops i)=some true:=by
 unfold cE at h;rw[la] at h;exact ⟨h.1,by simpa using h.2⟩
theorem iK {i t:Nat}(h:AA n ops k0 AL L Γ i t=true):(dd n ops k0 AL L i t && a6 Γ (ao ops i) && gN ops k0 i)=true/\bh ops Γ (ao ops i)=some true:=by
 unfold AA at h;rw[la] at h;exact ⟨h.1,by simpa using h.2⟩
theorem ii {i t:Nat}(h:B9 n ops k0 AL L Γ i t=true):(mr n ops k0 AL L i t && a6 Γ (ao ops i))=true/\bh ops Γ (ao ops i)=some true:=by
 unfold B9 at h;rw[la] at h;exact ⟨h.1,by simpa using h.2⟩
theorem eV (i t:Nat)(v:Value)(H:EG M P n N R X ops k0 hr AL (L.setIfInBounds i true) ((t,v)::Γ) w h)(a:cE n ops k0 AL L Γ i t=true:=by kernel_rfl)(hv:∀ w,(execOp (ev Γ) (ao ops i)).run P w=.ok (.value v) w:=by intro _;kernel_rfl):EG M P n N R X ops k0 hr AL L Γ w h :=
 Rg.pure i t v (jl a).1 (jl a).2 hv H
theorem eB (i t:Nat){e b:Bool}(c:e=b)(H:EG M P n N R X ops k0 hr AL (L.setIfInBounds i true) ((t,.bool b)::Γ) w h)(a:cE n ops k0 AL L Γ i t=true:=by kernel_rfl)(hv:∀ w,(execOp (ev Γ) (ao ops i)).run P w=.ok (.value (.bool e)) w:=by intro _;kernel_rfl):EG M P n N R X ops k0 hr AL L Γ w h :=
 Rg.pure i t _ (jl a).1 (jl a).2 (fun w=>c▸hv w) H
theorem eI (i t:Nat)(m:Int)(H:EG M P n N R X ops k0 hr AL (L.setIfInBounds i true) ((t,.int .i64 m)::Γ) w h)(a:cE n ops k0 AL L Γ i t=true:=by kernel_rfl)(hv:∀ w,(execOp (ev Γ) (ao ops i)).run P w=.ok (.value (.int .i64 (IntKind.wrap .i64 m))) w:=by intro _;kernel_rfl)(h0 : -9223372036854775808<=m:=by omega)(h1:m<=9223372036854775807:=by omega):EG M P n N R X ops k0 hr AL L Γ w h :=
 Rg.pure i t _ (jl a).1 (jl a).2 (fun w=>by have:=hv w;rw[fW h0 h1] at this;exact this) H
theorem lr (i t:Nat)(m:Int)(j:Nat)(H:EG M P n N R X ops k0 hr AL (L.setIfInBounds i true) ((t,.int .i64 (j:Int))::Γ) w h)(a:cE n ops k0 AL L Γ i t=true:=by kernel_rfl)(hv:∀ w,(execOp (ev Γ) (ao ops i)).run P w=.ok (.value (.int .i64 (IntKind.wrap .i64 m))) w:=by intro _;kernel_rfl)(b:m=j:=by omega)(h1:m<=9223372036854775807:=by omega):EG M P n N R X ops k0 hr AL L Γ w h :=
 Rg.pure i t _ (jl a).1 (jl a).2 (fun w=>by have:=hv w;rw[fW oM h1,b] at this;exact this) H
theorem eG (i t:Nat)(H:EG M P n N R X ops k0 hr AL (L.setIfInBounds i true) ((t,undef)::Γ) w h)(b:dd n ops k0 AL L i t=true:=by kernel_rfl)(a:bh ops Γ (ao ops i)=some false:=by kernel_rfl):EG M P n N R X ops k0 hr AL L Γ w h:=Rg.skip i t b a H
theorem eO (i t:Nat)(ps:List (Nat × Nat × Nat))(v:Value)(s:SS w0 h0 w h B Rs F)(H:EG M P n N R X ops k0 hr AL (L.setIfInBounds i true) ((t,v)::Γ) w h)(hM:∀ p∈ps,(av B p.1).b ∉ M.l:=by intro _ _;exact List.not_mem_nil)(a:AA n ops k0 AL L Γ i t=true:=by kernel_rfl)(c:bT B ps=true:=by kernel_rfl)(d:bO P (execOp (ev Γ) (ao ops i)) (cB B ps)=some (.value v,bG B ps):=by kernel_rfl):EG M P n N R X ops k0 hr AL L Γ w h :=
 Rg.own i t ps v s.st (iK a).1 (iK a).2 hM c d H
theorem eH (i t:Nat)(v:Value){b o:Nat}{cs:List Value}(s:SS w0 h0 w h B Rs F)(e:Seg h b o cs)(H:EG M P n N R X ops k0 hr AL (L.setIfInBounds i true) ((t,v)::Γ) w h)(hM:∀ b∈M.l,h[b]?=some aY:=by intro _ hb;cases hb)(a:AA n ops k0 AL L Γ i t=true:=by kernel_rfl)(d:bO P (execOp (ev Γ) (ao ops i)) cs=some (.value v,lM b o cs.length):=by kernel_rfl):EG M P n N R X ops k0 hr AL L Γ w h :=
 Rg.load i t v (iK a).1 (iK a).2 (fun _ c=>Seg.runM e s.g hM c d) H
theorem HJ (i t:Nat)(v:Value){u:Value}{b o:Nat}{cs:List Value}(s:SS w0 h0 w h B Rs F)(f:Seg h b o cs)(e:v=u)(H:EG M P n N R X ops k0 hr AL (L.setIfInBounds i true) ((t,u)::Γ) w h)(hM:∀ b∈M.l,h[b]?=some aY:=by intro _ hb;cases hb)(a:AA n ops k0 AL L Γ i t=true:=by kernel_rfl)(d:bO P (execOp (ev Γ) (ao ops i)) cs=some (.value v,lM b o cs.length):=by kernel_rfl):EG M P n N R X ops k0 hr AL L Γ w h :=
 Rg.load i t u (iK a).1 (iK a).2 (fun _ c=>e▸Seg.runM f s.g hM c d) H
theorem eX (i t:Nat)(A:Z9)(len a sz:Nat)(x:Int)(j:Nat)(d:A=some ⟨aB A,aO A,none⟩)(H:EG M P n N R X ops k0 hr AL (L.setIfInBounds i true) ((t,.pointer (some ⟨aB A,aO A+j*sz,none⟩))::Γ) w h)(c:cE n ops k0 AL L Γ i t=true:=by kernel_rfl)(e:BI P (ev Γ) (ao ops i)=some (.slice A len a,.int .i64 x,sz):=by kernel_rfl)(hk:x=j:=by omega)(b:j<len:=by omega):EG M P n N R X ops k0 hr AL L Γ w h :=
 Rg.pure i t _ (jl c).1 (jl c).2 (f0 e d hk b) H
theorem eQ {α:Type}(i t j:Nat)(l:List α)(f:α->List Value)(sz:Nat)(d:α)(e:Nat)(v:Value)(s:SS w0 h0 w h B Rs F)(hk:e<l.length)(H:EG M P n N R X ops k0 hr AL (L.setIfInBounds i true) ((t,v)::Γ) w h)(hM:(av B j).b ∉ M.l:=by exact List.not_mem_nil)(a:AA n ops k0 AL L Γ i t=true:=by kernel_rfl)
  (o:decide (j<B.length)=true:=by kernel_rfl)(hB:(av B j).vs=l.flatMap f:=by kernel_rfl)(hf:∀ x,(f x).length=sz:=by intro _;rfl)
  (c:bO P (execOp (ev Γ) (ao ops i)) (f (l.getD e d))=some (.value v,lM (av B j).b (0+e*sz) (f (l.getD e d)).length):=by kernel_rfl):EG M P n N R X ops k0 hr AL L Γ w h :=
 Rg.ownA i t j l f sz d e v s.st (iK a).1 (iK a).2 hM o hB hf hk c H
theorem eC (i t:Nat){f:FuncId}{args:Array Value}{Φ:World->Hp->Value->Hp->Prop}(s:SS w0 h0 w h B Rs F)(c:∀ w1 h1,SS w0 h0 w1 h1 B Rs F->Calls P f args w1 (Ret w1 h1 (Φ w1 h1)))(H:∀ w1 h1 v w' a,SS w0 h0 w' a B Rs F->Φ w1 h1 v a->EG M P n N R X ops k0 hr AL (L.setIfInBounds i true) ((t,v)::Γ) w' a)(j:B9 n ops k0 AL L Γ i t=true:=by kernel_rfl)(hv:∀ w,(execOp (ev Γ) (ao ops i)).run P w=.ok (.enter f args) w:=by intro _;kernel_rfl):EG M P n N R X ops k0 hr AL L Γ w h :=
 Rg.call i t f args (ii j).1 (ii j).2 hv (fun w1 h1 u=>(c w1 h1 (s.step u)).mono fun e w' ⟨v,a,o,d,b⟩=>⟨v,a,o,d.m M.l,H w1 h1 v w' a ((s.step u).step d) b⟩)
theorem eR (i t:Nat)(ty:TypeId)(m:Nat)(cs:List Value)(s:SS w0 h0 w h B Rs F)(H:∀ b w' a,SS w0 h0 w' a B Rs ((fun h=>Seg h b 0 cs)::F)->EG M P n N R X ops k0 hr AL (L.setIfInBounds i true) ((t,.slice (some ⟨b,0,none⟩) m m)::Γ) w' a)(c:B9 n ops k0 AL L Γ i t=true:=by kernel_rfl)
  (hv:∀ w,(execOp (ev Γ) (ao ops i)).run P w=.ok (.value (.slice (some ⟨w.heap.size,0,none⟩) m m)) (w.alloc (.cells cs.toArray ty (0,0))):=by intro _;kernel_rfl):EG M P n N R X ops k0 hr AL L Γ w h :=
 Rg.row i t ty m cs (ii c).1 (ii c).2 hv (fun b w' a u d=>H b w' a ((s.step u).a_Seg d))
theorem eY {α:Type}(i t j:Nat)(ty:TypeId)(sz c:Nat)(A:Z9)(l:List α)(f:α->List Value)(x:α)(bt b:Nat)(z:Value)(s:SS w0 h0 w h B Rs F)(sg:∀ h,AllF F h->Seg h b 0 (f x))(U:∀ b,(Value.slice A l.length c).ownBlock=some b->b∈M.l)
  (H:∀ K c' w' J,SS w0 h0 w' J B (Rs.set j ⟨ty,sz,K,c',(l++[x]).length,(l++[x]).flatMap f⟩) F->EG M P n N R X ops k0 hr AL (L.setIfInBounds i true) ((t,.slice K (l++[x]).length c')::Γ) w' J)
  (O:B9 n ops k0 AL L Γ i t=true:=by kernel_rfl)(he:EL P (ev Γ) (ao ops i)=some (.slice A l.length c,.slice (some ⟨b,0,none⟩) 1 1,ty,z,sz,bt):=by kernel_rfl)(S:z.cells.size=sz:=by kernel_rfl)(p:0<sz:=by decide)
  (W:Rs.getD j default=⟨ty,sz,A,c,l.length,l.flatMap f⟩:=by kernel_rfl)(hj:decide (j<Rs.length)=true:=by kernel_rfl)(h1:(f x).all (·.oneCell')=true:=by kernel_rfl)(hl:(f x).length=1*sz:=by kernel_rfl)(hm:l.length+1<=1099511627776:=by omega)(hb:(l.length+1)*bt<=140737488355328:=by omega):EG M P n N R X ops k0 hr AL L Γ w h:=by
 have d:=oT hj;refine Rg.event i t (ii O).1 (ii O).2 (fun w1 h1' u=>?_);have D:=s.step u;obtain ⟨x',y,ty',ho,hx,Z,V,hi⟩:=wL he;have r:=D.ro _ (gs d);have I:=k7 W d;rw[I] at r
 obtain ⟨v',w',a,ow,o,C⟩:=q9 (P:=P) ho hx Z V hi S p D.st r hl (kH D.g (sg _ D.f)) (fun u V=>(ov.1 h1) u V) hm hb;have Y:=D.grown (j:=j) d (w':=w') (v':=v') (m2:=1) (news:=f x) (by rw[I];exact ow) (by rw[I];exact o) (by rw[I];exact C);rw[I] at Y
 obtain ⟨J,K,c',rfl,e2,Q⟩:=Y;have e1:l.length+1=(l++[x]).length:=by simp
 simp only[] at Q
 rw[oS,e1] at Q
 rw[e1] at a
 exact .inl ⟨_,w',J,a,⟨⟨o.os,o.tape,o.output,o.size,fun c O hn=>o.block c O (fun e=>hn (U c e.symm))⟩,e2,Q.g⟩,H K c' w' J Q⟩
theorem bA (s:SS w0 h0 w h B Rs F)(H:∀ w' a,SS w0 h0 w' a B Rs F->AG M P n N R X ops k0 L Γ w')(b:fG ops [] L=true:=by kernel_rfl):EG M P n N R X ops k0 hr [] L Γ w h:=Rg.fin0 b (fun w' a u=>H w' a (s.step u))
def cT (n:Nat)(ops:Array Oper)(k0:Nat)(L:Array Bool)(Γ:bW)(i t:Nat):Bool:=io ops k0 L i && a6 Γ (ao ops i) && ((ao ops i).dst == some t) && decide (t<n) && (bh ops Γ (ao ops i) == some true)
def EM (ops:Array Oper)(k0:Nat)(L:Array Bool)(Γ:bW)(i:Nat):Bool:=io ops k0 L i && a6 Γ (ao ops i) && ((ao ops i).dst == none) && (bh ops Γ (ao ops i) == some true)
theorem nz {i t:Nat}(h:cT n ops k0 L Γ i t=true):(io ops k0 L i && a6 Γ (ao ops i) && ((ao ops i).dst == some t) && decide (t<n))=true/\bh ops Γ (ao ops i)=some true:=by
 unfold cT at h;rw[la] at h;exact ⟨h.1,by simpa using h.2⟩
theorem jK {i:Nat}(h:EM ops k0 L Γ i=true):(io ops k0 L i && a6 Γ (ao ops i) && ((ao ops i).dst == none))=true/\bh ops Γ (ao ops i)=some true:=by
 unfold EM at h;rw[la] at h;exact ⟨h.1,by simpa using h.2⟩
theorem tV (i t:Nat)(v:Value)(H:AG M P n N R X ops k0 (L.setIfInBounds i true) ((t,v)::Γ) w)(a:cT n ops k0 L Γ i t=true:=by kernel_rfl)(hv:(execOp (ev Γ) (ao ops i)).run P w=.ok (.value v) w:=by kernel_rfl):AG M P n N R X ops k0 L Γ w:=T.val i t v w (nz a).1 (nz a).2 hv H
theorem tP (i j o:Nat)(cs:List Value)(s:SS w0 h0 w h B Rs F)(H:∀ w',SS w0 h0 w' h (fN B j o cs) Rs F->AG M P n N R X ops k0 (L.setIfInBounds i true) Γ w')(c:EM ops k0 L Γ i=true:=by kernel_rfl)
  (a:(decide (j<B.length) && decide (o+cs.length<=(av B j).vs.length))=true:=by kernel_rfl)(d:dr P (execOp (ev Γ) (ao ops i))=some (.skip,nu (av B j).b o cs):=by kernel_rfl)(hz:∀ K bs,M.z=some (K,bs)->K<=(av B j).b\/(av B j).b∈bs:=by intro _ _ e;cases e):AG M P n N R X ops k0 L Γ w :=
 T.put i j o cs s.st s.g0 (jK c).1 (jK c).2 a d (fun w' p f=>H w' (s.put0 (oT (la _ _▸a).1) p f (kJ (oT (la _ _▸a).1)))) hz
theorem tW {α:Type}(i j:Nat)(l:List α)(f:α->List Value)(sz e:Nat)(x:α)(s:SS w0 h0 w h B Rs F)(hk:e<l.length)(H:∀ w',SS w0 h0 w' h (gf B j ((l.set e x).flatMap f)) Rs F->AG M P n N R X ops k0 (L.setIfInBounds i true) Γ w')(c:EM ops k0 L Γ i=true:=by kernel_rfl)
  (a:decide (j<B.length)=true:=by kernel_rfl)(hB:(av B j).vs=l.flatMap f:=by kernel_rfl)(hf:∀ x,(f x).length=sz:=by intro _;rfl)
  (d:dr P (execOp (ev Γ) (ao ops i))=some (.skip,nu (av B j).b (0+e*sz) (f x)):=by kernel_rfl)(hz:∀ K bs,M.z=some (K,bs)->K<=(av B j).b\/(av B j).b∈bs:=by intro _ _ e;cases e):AG M P n N R X ops k0 L Γ w :=
 T.putA i j l f sz e x s.st s.g0 (jK c).1 (jK c).2 a hB hf hk d (fun w' p o=>H w' (s.put0 (oT a) p o (jm (oT a)))) hz
theorem tN {y:Code}{N' R':Po}{X':Nat->Po}(H:CG P n N' R' X' y Γ w)(b:(Region.ready .any ops L).isEmpty=true:=by kernel_rfl):AG M P n (fun a w=>y.wp P (gZ N' R' X') a w) R X ops k0 L Γ w:=T.next b H
theorem tM {id:Nat}{b:Array Oper}{y:Code}{N' R':Po}{X':Nat->Po}(H:LG P n (fun a w=>y.wp P (gZ N' R' X') a w) R' X' b 0 Γ w)(c:(Region.ready .any ops L).isEmpty=true:=by kernel_rfl):AG M P n (fun a w=>(Code.seq (.region id b false) y).wp P (gZ N' R' X') a w) R X ops k0 L Γ w:=tN (aD H) c
theorem tD (H:∀ a,Kn n a Γ->N a w)(b:(Region.ready .any ops L).isEmpty=true:=by kernel_rfl):AG M P n N R X ops k0 L Γ w:=T.done b H
theorem cR {id:Nat}{d:Bool}(k0:Nat)(AL:List Al)(e:P.follows .mixedOrders=true)(s:SS w0 h0 w h B Rs F)(b:∀ x∈AL,AlOk P ops k0 x)(H:EG ⟨[],none⟩ P n N R X ops k0 h AL (x2 ops.size false) Γ w h)(a:jR ops=true:=by kernel_rfl):CG P n N R X (.region id ops d) Γ w :=
 CG.region ⟨[],none⟩ k0 AL e a s.g b (fun _ c=>by cases c) H
end drawn
theorem af {M:Ms}{P:Program}{n:Nat}{N R:Po}{X:Nat->Po}{ops:Array Oper}{k0:Nat}{hr:Hp}{AL:List Al}{L:Array Bool}{Γ:bW}{w w0:World}{h h0:Hp}{B:List Bx}{Rs:List Rw}{F:List (Hp->Prop)}(i t:Nat){f:FuncId}{args:Array Value}{x:Value}(s:SS w0 h0 w h B Rs F)(c:∀ w1 h1,SS w0 h0 w1 h1 B Rs F->Calls P f args w1 (Ret w1 h1 fun v _=>v=x))(H:∀ w1 h1,SS w0 h0 w1 h1 B Rs F->EG M P n N R X ops k0 hr AL (L.setIfInBounds i true) ((t,x)::Γ) w1 h1)(b:B9 n ops k0 AL L Γ i t=true:=by kernel_rfl)(hv:∀ w,(execOp (ev Γ) (ao ops i)).run P w=.ok (.enter f args) w:=by intro _;kernel_rfl):EG M P n N R X ops k0 hr AL L Γ w h:=eC i t s c (fun _ _ v w1 h1 a e=>by subst e;exact H w1 h1 a) b hv
theorem Bp {w:World}{h:Hp}(g:G w h){b:Nat}{ty:TypeId}{vs:List Value}(f:h[b]?=some aY)(o:Own w b ty vs):∃ d,G w d/\Gw h d/\Seg d b 0 vs/\∀ c,c≠b->d[c]?=h[c]?:=by
 have a:=aF f;refine ⟨h.setIfInBounds b (.cells vs.toArray ty (0,0)),⟨by simp;exact g.size,fun c=>?_⟩,⟨by simp,fun c j=>?_⟩,fun i v hv=>?_,fun c j=>i3 (Ne.symm j)⟩
 ·by_cases e:b=c
  ·subst e;left;rw[yV a];exact o.symm
  ·rw[i3 e];exact g.blk c
 ·by_cases e:b=c
  ·subst e;exact .inr f
  ·left;rw[i3 e]
 ·unfold da
  rw[yV a]
  simpa using hv
theorem py {w w':World}{h f d:Hp}{b:Nat}(l:h[b]?=some aY)(o:∀ c,c≠b->f[c]?=h[c]?)(j:f.size=h.size)(u:Up w f w' d):∃ i,Up w h w' i:=by
 have p:=aF l;have a:b<d.size:=e5 oM u.gr.size;refine ⟨d.setIfInBounds b aY,u.ext,⟨by simp;rw[<-j];exact u.gr.size,fun c x=>?_⟩,⟨by simp;exact u.g.size,fun c=>?_⟩⟩
 ·by_cases e:b=c
  ·subst e;rw[yV a,l]
  ·rw[i3 e,u.gr.blk c oM,o c (Ne.symm e)]
 ·by_cases e:b=c
  ·subst e;right;rw[yV a]
  ·rw[i3 e];exact u.g.blk c
theorem G.sz {w:World}{h a:Hp}(g:G w h)(b:G w a):a.size=h.size:=by rw[<-g.size,<-b.size]
section lent
variable {M:Ms}{P:Program}{n:Nat}{N R:Po}{X:Nat->Po}{ops:Array Oper}{k k0:Nat}{hr:Hp}{AL:List Al}{L:Array Bool}{Γ:bW}{w:World}{h:Hp}{w0:World}{h0:Hp}{B:List Bx}{Rs:List Rw}{F:List (Hp->Prop)}
theorem SS.lends (s:SS w0 h0 w h B Rs F){j:Nat}(z:j<B.length){f:FuncId}{args:Array Value}{Φ:Value->Prop}(c:∀ a,G w a->AllF F a->Seg a (av B j).b 0 (av B j).vs->Calls P f args w (Ret w a (fun v _=>Φ v))):Calls P f args w (Ret w h (fun v _=>Φ v)):=by
 have i:=a8 z;obtain ⟨a,g,gw,p,x⟩:=Bp s.g (s.st.jk _ i) (s.st.own _ i);refine (c a g (s.f.gw s.mo gw) p).mono ?_;rintro e w' ⟨v,C,y,u,l⟩;obtain ⟨d,o⟩:=py (s.st.jk _ i) x (s.g.sz g) u;exact ⟨v,d,y,o,l⟩
theorem GJ (t j:Nat){f:FuncId}{args:Array Value}{Φ:Value->Prop}(s:SS w0 h0 w h B Rs F)(c:∀ hp,G w hp->AllF F hp->Seg hp (av B j).b 0 (av B j).vs->Calls P f args w (Ret w hp (fun v _=>Φ v)))(H:∀ v w' h',SS w0 h0 w' h' B Rs F->Φ v->LG P n N R X ops (k+1) ((t,v)::Γ) w')(a:decide (j<B.length)=true:=by kernel_rfl)(d:cL ops Γ k t n=true:=by kernel_rfl)(hr:(execOp (ev Γ) (ao ops k)).run P w=.ok (.enter f args) w:=by kernel_rfl):LG P n N R X ops k Γ w :=
 lC t s (s.lends (oT a) c) H d hr
end lent
section unroll
variable {P:Program}{n:Nat}{N R:Po}{X:Nat->Po}{Γ:bW}{w:World}
def Hk (P:Program)(N R:Po)(X:Nat->Po)(c:Code)(a:Act)(w:World):Prop:=∀ (b:Frame) (k:List Item) (cs:List Frame),∃ e a' w',gZ N R X e a' w'/\Arrives P (lone (b.at a (.code c::.inLoop c::k)) cs w) b k cs e a' w'
def CL (P:Program)(n:Nat)(N R:Po)(X:Nat->Po)(c:Code)(Γ:bW)(w:World):Prop:=∀ a,Kn n a Γ->Hk P N R X c a w
theorem cU {c:Code}(H:CL P n N R X c Γ w):CG P n N R X (.loop c) Γ w:=fun a h b k cs=>by
 obtain ⟨e,f,w',i,d⟩:=H a h b k cs;exact ⟨e,f,w',i,.of_steps (.one step_loop) d⟩
theorem cN {c:Code}(H:CG P n (Hk P N R X c) R X c Γ w):CL P n N R X c Γ w:=fun a z b k cs=>by
  obtain ⟨e,i,h,o,f⟩:=H a z b (.inLoop c::k) cs;cases e with
  | normal =>
    obtain ⟨y,u,p,j,d⟩:=o b k cs;exact ⟨y,u,p,j,.of_steps (Steps.trans f (.one step_inLoop)) d⟩
  | exit id=>exact ⟨.exit id,i,h,o,.pass (x:=.inLoop c) rfl (fun _ _=>.inl (by simp)) f⟩
  | goto l=>exact o.elim
  | ret=>exact ⟨.ret,i,h,o,.pass (x:=.inLoop c) rfl (fun _ _=>.inl (by simp)) f⟩
  | panic ch=>exact o.elim
  | outgrown=>exact o.elim
theorem CL.to {c:Code}(Γ':bW)(H:CL P n N R X c Γ' w)(e:iT Γ (Γ'.map (·.1))=Γ':=by kernel_rfl)(d:fS Γ'=fS Γ:=by kernel_rfl):CL P n N R X c Γ w:=fun a b=>H a (b.to Γ' e d)
end unroll
theorem mixed:Tryz.prog.follows .mixedOrders=true:=by kernel_rfl
theorem rb {s:Result Next}{e b:Bool}{w:World}(h:s=.ok (.value (.bool e)) w)(a:e=b):s=.ok (.value (.bool b)) w:=a▸h
theorem ay {s:Result Next}{k:IntKind}{n m:Int}{w:World}(h:s=.ok (.value (.int k n)) w)(e:n=m):s=.ok (.value (.int k m)) w:=e▸h
theorem rU {s:Result Next}{m:Int}{w:World}(x:Int)(h:s=.ok (.value (.int .u64 (IntKind.wrap .u64 x))) w)(e:IntKind.wrap .u64 x=m):s=.ok (.value (.int .u64 m)) w:=ay (n:=IntKind.wrap .u64 x) h e
theorem rS {s:Result Next}{m:Int}{w:World}(x:Int)(h:s=.ok (.value (.int .i64 (IntKind.wrap .i64 x))) w)(e:IntKind.wrap .i64 x=m):s=.ok (.value (.int .i64 m)) w:=ay (n:=IntKind.wrap .i64 x) h e
theorem rT {s:Result Next}{m:Int}{w:World}(x:Int)(h:s=.ok (.value (.int .u32 (IntKind.wrap .u32 x))) w)(e:IntKind.wrap .u32 x=m):s=.ok (.value (.int .u32 m)) w:=ay (n:=IntKind.wrap .u32 x) h e
theorem xG (n:Nat):IntKind.wrap .u8 (n:Int)=((n%256:Nat):Int):=by rw[IntKind.wrap_u8];omega
theorem wT (n:Nat):IntKind.wrap .u32 (n:Int)=((n%4294967296:Nat):Int):=by rw[IntKind.wrap_u32];omega
theorem v8 (n:Nat):IntKind.wrap .u64 (n:Int)=((n%18446744073709551616:Nat):Int):=by rw[IntKind.wrap_u64];omega
theorem qo {n:Int}(h0:0<=n)(h:n<4294967296):IntKind.wrap .u32 n=n:=by rw[IntKind.wrap_u32];omega
theorem bF {n:Int}(h0:0<=n)(h:n<18446744073709551616):IntKind.wrap .u64 n=n:=by rw[IntKind.wrap_u64];omega
theorem mP {n:Int}(h0 : -9223372036854775808<=n)(h:n<9223372036854775808):IntKind.wrap .i64 n=n:=by rw[IntKind.wrap_i64];omega
theorem EO {n:Nat}(h:n<4294967296):IntKind.wrap .u32 (n:Int)=(n:Int):=by rw[IntKind.wrap_u32];omega
theorem Fx {n:Nat}(h:n<18446744073709551616):IntKind.wrap .u64 (n:Int)=(n:Int):=by rw[IntKind.wrap_u64];omega
theorem Fv {n:Nat}(h:n<9223372036854775808):IntKind.wrap .i64 (n:Int)=(n:Int):=by rw[IntKind.wrap_i64];omega
theorem j6 (a b:Nat):Int.fdiv (a:Int) (b:Int)=((a/b:Nat):Int):=by rw[y8 _ oM];simp
theorem sd (a b:Nat):y9 (a:Int) (b:Int)=((a/b:Nat):Int):=rfl
theorem dg (a b:Nat):Int.tmod (a:Int) (b:Int)=((a%b:Nat):Int):=rfl
theorem kU (a b:Nat)(h:a<18446744073709551616):IntKind.wrap .u64 (y9 (a:Int) (b:Int))=((a/b:Nat):Int):=by rw[sd];exact Fx (zh (zy _ _) h)
theorem db (a b:Nat)(h:a<9223372036854775808):IntKind.wrap .i64 (y9 (a:Int) (b:Int))=((a/b:Nat):Int):=by rw[sd];exact Fv (zh (zy _ _) h)
section div
variable {P:Program}{Γ:bW}{o:Oper}
theorem dl {t u:TypeId}{x y:Operand}{k:IntKind}{a b:Int}(e:o.op=.binOp .quo t x y u)(c:ev Γ x=.int k a)(d:ev Γ y=.int k b)(f:b≠0)(w:World) :
  (execOp (ev Γ) o).run P w=.ok (.value (.int k (k.wrap (a.tdiv b)))) w:=by
 unfold execOp;simp only[e];rw[c,d]
 simp[binOp,eqGuard,Op.intDiv,f,Result.andThen]
theorem fC {t u:TypeId}{x y:Operand}{k:IntKind}{a b:Int}(e:o.op=.binOp .rem t x y u)(c:ev Γ x=.int k a)(d:ev Γ y=.int k b)(f:b≠0)(w:World) :
  (execOp (ev Γ) o).run P w=.ok (.value (.int k (a.tmod b))) w:=by
 unfold execOp;simp only[e];rw[c,d]
 simp[binOp,eqGuard,Op.intDiv,f,Result.andThen]
theorem Fg {t u:TypeId}{x y:Operand}{k ky:IntKind}{a:Int}{n:Nat}(d:o.op=.binOp .shl t x y u)(b:ev Γ x=.int k a)(c:ev Γ y=.int ky (n:Int))(f:n<=k.bits)(w:World) :
  (execOp (ev Γ) o).run P w=.ok (.value (.int k (k.wrap (a*2^n)))) w:=by
 unfold execOp;simp only[d];rw[b,c]
 have e:min n k.bits=n:=by omega
 have hz:¬((n:Int)<0):=by omega
 simp[binOp,eqGuard,Op.shift,Result.andThen,e,hz]
theorem FW {t u:TypeId}{x y:Operand}{k ky:IntKind}{a:Int}{n:Nat}(d:o.op=.binOp .shr t x y u)(b:ev Γ x=.int k a)(c:ev Γ y=.int ky (n:Int))(h:n<=k.bits)(w:World) :
  (execOp (ev Γ) o).run P w=.ok (.value (.int k (a/2^n))) w:=by
 unfold execOp;simp only[d];rw[b,c]
 have f:min n k.bits=n:=by omega
 have hz:¬((n:Int)<0):=by omega
 have e:(0:Int)<=2^n:=zF kD
 simp[binOp,eqGuard,Op.shift,Result.andThen,f,hz,y8 _ e]
theorem i9 {t u:TypeId}{x y:Operand}{a b:Nat}(f:o.op=.binOp .or t x y u)(c:ev Γ x=.int .u64 (a:Int))(d:ev Γ y=.int .u64 (b:Int))(ha:a<18446744073709551616)(h:b<18446744073709551616)(w:World) :
  (execOp (ev Γ) o).run P w=.ok (.value (.int .u64 ((a ||| b:Nat):Int))) w:=by
 unfold execOp;simp only[f];rw[c,d]
 have e:bits .or .u64 (a:Int) (b:Int)=((a ||| b:Nat):Int):=by
  unfold bits
  have h1:(BitVec.ofInt 64 (a:Int) ||| BitVec.ofInt 64 (b:Int)).toNat=a ||| b:=by
   rw[BitVec.toNat_or]
   congr 1<;>(simp[BitVec.toNat_ofInt];omega)
  show IntKind.wrap .u64 (((BitVec.ofInt 64 (a:Int) ||| BitVec.ofInt 64 (b:Int)).toNat:Nat):Int)=_
  rw[h1];have:=zT (n:=64) ha h;exact bF oM oM
 simp[binOp,eqGuard,Result.andThen,intBits_or,e]
theorem Dl {t u:TypeId}{x y:Operand}{a b:Nat}(f:o.op=.binOp .or t x y u)(c:ev Γ x=.int .u32 (a:Int))(d:ev Γ y=.int .u32 (b:Int))(ha:a<4294967296)(h:b<4294967296)(w:World) :
  (execOp (ev Γ) o).run P w=.ok (.value (.int .u32 ((a ||| b:Nat):Int))) w:=by
 unfold execOp;simp only[f];rw[c,d]
 have e:bits .or .u32 (a:Int) (b:Int)=((a ||| b:Nat):Int):=by
  unfold bits
  have h1:(BitVec.ofInt 32 (a:Int) ||| BitVec.ofInt 32 (b:Int)).toNat=a ||| b:=by
   rw[BitVec.toNat_or]
   congr 1<;>(simp[BitVec.toNat_ofInt];omega)
  show IntKind.wrap .u32 (((BitVec.ofInt 32 (a:Int) ||| BitVec.ofInt 32 (b:Int)).toNat:Nat):Int)=_
  rw[h1];have:=zT (n:=32) ha h;exact qo oM oM
 simp[binOp,eqGuard,Result.andThen,intBits_or,e]
end div
def lo (n:Nat):Int:=((n%18446744073709551616:Nat):Int)
def wb:Nat->Nat->List UInt8
  | 0,_=>[]
  | f+1,m=>if m=0 then [] else (o0 8).map (fun k=>UInt8.ofNat (m/256^k))++wb f (m/18446744073709551616)
def hi (n:Nat):ByteArray:=⟨(wb n (n/18446744073709551616)).toArray⟩
abbrev uX (r k:Rat)(s b t:Int)(d:Nat):Value:=.agg #[.bool (ax r.num),uV (lo (ac r.num)),.string (hi (ac r.num)),uV (lo (qd r)),.string (hi (qd r)),.bool (ax k.num),uV (lo (ac k.num)),.string (hi (ac k.num)),uV (lo (qd k)),.string (hi (qd k)),iV s,iV b,iV t,mV d]
abbrev uC (r k:Rat)(s b t:Int)(d:Nat):List Value:=[.bool (ax r.num),uV (lo (ac r.num)),.string (hi (ac r.num)),uV (lo (qd r)),.string (hi (qd r)),.bool (ax k.num),uV (lo (ac k.num)),.string (hi (ac k.num)),uV (lo (qd k)),.string (hi (qd k)),iV s,iV b,iV t,mV d]
abbrev qX (q:Rat):Value:=.agg #[.bool (ax q.num),uV (lo (ac q.num)),.string (hi (ac q.num)),uV (lo (qd q)),.string (hi (qd q))]
abbrev qC (q:Rat):List Value:=[.bool (ax q.num),uV (lo (ac q.num)),.string (hi (ac q.num)),uV (lo (qd q)),.string (hi (qd q))]
abbrev qY (q:Rat)(A:Z9)(m c:Nat):Value:=.agg #[.bool (ax q.num),uV (lo (ac q.num)),.string (hi (ac q.num)),uV (lo (qd q)),.string (hi (qd q)),.slice A m c]
abbrev qZ (q:Rat)(A:Z9)(m c:Nat):List Value:=[.bool (ax q.num),uV (lo (ac q.num)),.string (hi (ac q.num)),uV (lo (qd q)),.string (hi (qd q)),.slice A m c]
abbrev wX (b:Value)(m:Nat):Value:=.agg #[b,uV (lo m),.string (hi m)]
abbrev wC (b:Value)(m:Nat):List Value:=[b,uV (lo m),.string (hi m)]
def nc (n:Nat):List Value:=[.int .u64 (lo n),.string (hi n)]
def nv (n:Nat):Value:=.agg #[.int .u64 (lo n),.string (hi n)]
def ic (z:Int):List Value:=[.bool (ax z),.int .u64 (lo (ac z)),.string (hi (ac z))]
def iv (z:Int):Value:=.agg #[.bool (ax z),.int .u64 (lo (ac z)),.string (hi (ac z))]
def qc (q:Rat):List Value:=[.bool (ax q.num),.int .u64 (lo (ac q.num)),.string (hi (ac q.num)),.int .u64 (lo (qd q)),.string (hi (qd q))]
abbrev Sq (A:Z9)(l:List Rat):Hp->Prop:=fun h_=>SlO 5 qc 0 h_ A l
def qv (q:Rat):Value:=.agg #[.bool (ax q.num),.int .u64 (lo (ac q.num)),.string (hi (ac q.num)),.int .u64 (lo (qd q)),.string (hi (qd q))]
theorem kA {n:Nat}(h:n<18446744073709551616):lo n=(n:Int):=by unfold lo;rw[yN h]
theorem kj {n:Nat}(h:n<18446744073709551616):hi n=⟨#[]⟩:=by
 unfold hi;rw[zY h];cases n<;>rfl
def cZ:List Nat->Nat
  | []=>0
  | x::l=>x+4294967296*cZ l
def oL:Nat->Nat->List Nat
  | 0,_=>[]
  | f+1,n=>if n=0 then [] else n%4294967296::oL f (n/4294967296)
def lim (n:Nat):List Nat:=oL n n
abbrev Cc (q:Rat)(A:Z9)(c:Nat)(D:Z9)(d:Nat):List Value:=[.bool (ax q.num),.slice A (lim (ac q.num)).length c,.slice D (lim q.den).length d]
abbrev rG (q:Rat)(A:Z9)(c:Nat)(D:Z9)(d:Nat):Value:=.agg #[.bool (ax q.num),.slice A (lim (ac q.num)).length c,.slice D (lim q.den).length d]
theorem ru:∀ (f g n:Nat),n<=f->n<=g->oL f n=oL g n
  | 0,g,n,hf,hg=>by
    have:n=0:=by omega
    subst this;cases g<;>rfl
  | f+1,0,n,hf,hg=>by
    have:n=0:=by omega
    subst this
    rfl
  | f+1,g+1,n,hf,hg=>by
    unfold oL
    split
    . rfl
    . rw[ru f g (n/4294967296) oM oM]
theorem fR:lim 0=[]:=rfl
theorem eg {n:Nat}(h:0<n):lim n=n%4294967296::lim (n/4294967296):=by
 unfold lim
 obtain ⟨m,rfl⟩:∃ m,n=m+1:=⟨n-1,by omega⟩;rw[oL,if_neg oM];rw[ru m _ _ oM (ey _)]
theorem A3 {n:Nat}(h0:0<n)(h:n<4294967296):lim n=[n]:=by
 rw[eg h0,yN h,zY h,fR]
theorem fh (n:Nat):cZ (lim n)=n:=by
  induction n using hO with
  | _ n ih =>
    rcases yW n with h|h
    . subst h;rfl
    . rw[eg h,cZ,ih (n/4294967296) oM]
      omega
theorem jg (n:Nat):∀ x∈lim n,x<4294967296:=by
  induction n using hO with
  | _ n ih =>
    rcases yW n with h|h
    . subst h;intro x a;cases a
    . rw[eg h]
      intro x a
      rcases g4.1 a with rfl|a
      . omega
      . exact ih _ oM x a
theorem dv {n:Nat}:0<(lim n).length↔0<n:=by
 rcases yW n with h|h
 ·subst h;simp[fR]
 ·rw[eg h];simp[h]
theorem pS {n:Nat}:lim n=[]↔n=0:=by
 constructor
 ·intro h;rcases yW n with h0|h0;exact h0;rw[eg h0] at h;cases h
 ·rintro rfl;rfl
theorem f4 {n k:Nat}(h:n<4294967296^k):(lim n).length<=k:=by
  induction k generalizing n with
  | zero => have:n=0:=by simpa using h
            subst this;simp[fR]
  | succ k ih =>
    rcases yW n with h0|h0
    . subst h0;simp[fR]
    . rw[eg h0]
      have:n/4294967296<4294967296^k:=zZ (by rw[z1,z2] at h;exact h);have:=ih this
      simp
      omega
def tl (l:List Nat):Nat->Nat
  | 0=>0
  | n+1=>if l.getD n 0=0 then tl l n else n+1
theorem ia (l:List Nat):∀ n,tl l n<=n
 | 0=>ey _
 | n+1=>by unfold tl;split;exact Nat.le_succ_of_le (ia l n);exact ey _
theorem ma {l:List Nat}{n:Nat}(h:n=0\/l.getD (n-1) 0≠0):tl l n=n:=by
 cases n with
 | zero=>rfl
 | succ n=>unfold tl;rw[if_neg];rcases h with h|h;omega;exact h
theorem jL (a b:List Nat):cZ (a++b)=cZ a+4294967296^a.length*cZ b:=by
  induction a with
  | nil=>simp[cZ]
  | cons x a ih =>
    simp only[z6,cZ,ih,yf,z1,z7]
    rw[<-z8,z2 (4294967296^a.length) 4294967296]
    omega
theorem jZ {l:List Nat}(h:∀ x∈l,x<4294967296):cZ l<4294967296^l.length:=by
  induction l with
  | nil=>simp[cZ]
  | cons x l ih =>
    have h1:=h x (by simp);have b:=ih (fun y a=>h y (by simp[a]))
    simp only[cZ,yf,z1]
    omega
theorem iy (x:Nat)(l:List Nat):∀ n,tl l n=0->tl (x::l) (n+1)=if x=0 then 0 else 1
  | 0,_=>by simp[tl]
  | n + 1,h=>by
    unfold tl at h
    split at h
    . rename_i h0
      show tl (x::l) (n+2)=_
      unfold tl
      rw[if_pos (by simpa using h0)];exact iy x l n h
    . omega
theorem jW (l:List Nat)(n:Nat):tl l (n+1)=if l.getD n 0=0 then tl l n else n+1:=rfl
theorem jE (x:Nat)(l:List Nat):∀ n,0<tl l n->tl (x::l) (n+1)=tl l n+1
  | 0,h=>by simp[tl] at h
  | n + 1,h=>by
    rw[jW l n] at h ⊢
    rw[jW (x::l) (n+1),yA]
    by_cases h0:l.getD n 0=0
    . rw[if_pos h0] at h ⊢
      rw[if_pos h0];exact jE x l n h
    . rw[if_neg h0,if_neg h0]
theorem mZ (l:List Nat):cZ l=0->tl l l.length=0:=by
  intro h
  have key:∀ n,n<=l.length->tl l n=0:=by
    have hz:∀ k,l.getD k 0=0:=by
      induction l with
      | nil=>intro k;simp
      | cons x l ih =>
        simp only[cZ] at h
        intro k;cases k with
        | zero=>simp;omega
        | succ k=>simpa using ih oM k
    intro n
    induction n with
    | zero=>intro _;rfl
    | succ n ih=>intro a;unfold tl;rw[if_pos (hz n)];exact ih oM
  exact key _ (ey _)
theorem uR {l:List Nat}(h:∀ x∈l,x<4294967296):lim (cZ l)=l.take (tl l l.length):=by
  induction l with
  | nil=>rfl
  | cons x l ih =>
    have h1:=h x (by simp);have a:=ih (fun y c=>h y (by simp[c]))
    rcases yW (cZ (x::l)) with h0|h0
    . rw[h0,fR,mZ _ h0];rfl
    . rw[eg h0]
      have e1:cZ (x::l)%4294967296=x:=by simp only[cZ];omega
      have e2:cZ (x::l)/4294967296=cZ l:=by simp only[cZ];omega
      rw[e1,e2,a]
      rcases yW (tl l l.length) with ht|ht
      . have b:x≠0:=by
          intro b;have:lim (cZ l)=[]:=by rw[a,ht];rfl
          have:=pS.1 this
          simp only[cZ] at h0
          omega
        rw[yf,iy x l _ ht,if_neg b,ht];rfl
      . rw[yf,jE x l _ ht];rfl
theorem vz (n:Nat)(h:0<n):(lim n).getD ((lim n).length-1) 0≠0:=by
  induction n using hO with
  | _ n ih =>
    rw[eg h]
    rcases yW (n/4294967296) with h0|h0
    . rw[h0,fR];simp;omega
    . have:=ih (n/4294967296) oM h0
      have a:=dv.2 h0;rw[yf,show (lim (n/4294967296)).length+1-1=((lim (n/4294967296)).length-1)+1 by omega,yA];exact this
theorem kL {l:List Nat}{k:Nat}(h:k<l.length):cZ (l.take (k+1))=cZ (l.take k)+4294967296^k*l.getD k 0:=by
 have e:l.take (k+1)=l.take k++[l.getD k 0]:=by
  rw[Ab];simp[h]
 rw[e,jL,Af,Ag oM]
 show cZ (l.take k)+4294967296^k*(l.getD k 0+4294967296*0)=_
 rw[Ah,yw]
theorem sL {l:List Nat}{k:Nat}(h:k<l.length):cZ (l.drop k)=l.getD k 0+4294967296*cZ (l.drop (k+1)):=by
 rw[Am h]
 simp[cZ,h]
def nb (n:Nat):Nat:=if n=0 then 0 else Nat.log2 n+1
theorem BE:nb 0=0:=rfl
theorem cj {n:Nat}(h:0<n):2^(nb n-1)<=n/\n<2^nb n/\0<nb n:=by
 unfold nb
 rw[if_neg oM];have:=(As (n:=n) (k:=n.log2) oM).1 rfl;exact ⟨this.1,this.2,by omega⟩
theorem mJ {n k:Nat}(h1:2^k<=n)(a:n<2^(k+1)):nb n=k+1:=by
 have b:0<2^k:=Aw k
 unfold nb
 rw[if_neg oM,(As oM).2 ⟨h1,a⟩]
theorem FQ (n:Nat):n<2^nb n:=by
 rcases yW n with h|h
 ·subst h;simp[nb]
 ·exact (cj h).2.1
theorem kP {n k:Nat}(h:n<2^k):nb n<=k:=by
 rcases yW n with h0|h0
 ·subst h0;simp[nb]
 ·have:=cj h0
  rcases ep k (nb n) with hl|hl
  ·have:2^k<=2^(nb n-1):=Ay oM oM
   omega
  ·exact hl
theorem x7 {n:Nat}(h:0<n):nb n=nb (n/2)+1:=by
 rcases ep n 2 with h2|h2
 ·have:n=1:=by omega
  subst this;decide
 ·obtain ⟨a,c,b⟩:=cj (n:=n/2) oM
  apply mJ
  ·have:2^nb (n/2)=2*2^(nb (n/2)-1):=by rw[<-Az,show (nb (n/2)-1).succ=nb (n/2) by omega]
   omega
  ·rw[z1];omega
theorem xg {lo tK k:Nat}(c:lo<2^k)(b:0<tK):nb (lo+2^k*tK)=k+nb tK:=by
 obtain ⟨a,d,e⟩:=cj b;rw[show k+nb tK=(k+(nb tK-1))+1 by omega]
 apply mJ
 ·rw[A4]
  have:=A5 (2^k) a
  omega
 ·rw[show k+(nb tK-1)+1=k+nb tK by omega,A4]
  have:=A5 (2^k) (show tK+1<=2^nb tK from d);rw[Nat.mul_succ] at this
  omega
theorem CQ {a:Nat}(h:0<a):nb a=32*((lim a).length-1)+nb ((lim a).getD ((lim a).length-1) 0):=by
 have f:=dv.2 h;have e:=kL (l:=lim a) (k:=(lim a).length-1) oM;rw[show (lim a).length-1+1=(lim a).length by omega,yz,fh] at e
 have b:=jZ (l:=(lim a).take ((lim a).length-1)) (fun x c=>jg a x (A6 c));rw[Af,Ag oM] at b
 have e2:(4294967296:Nat)^((lim a).length-1)=2^(32*((lim a).length-1)):=by rw[A7]
 rw[e2] at e b
 have d:=vz a h;have:=xg b (Nat.pos_of_ne_zero d);rw[<-e] at this
 exact this
def e9 (n:Nat):Nat->List Nat
  | 0=>[]
  | m+1=>n/256^m%256::e9 n m
theorem i4 (n m:Nat):(e9 n m).length=m:=by induction m with|zero=>rfl|succ m ih=>simp[e9,ih]
theorem gQ (n:Nat):∀ (m k:Nat),k<m->(e9 n m).getD k 0=n/256^(m-1-k)%256
  | 0,k,h=>by omega
  | m+1,0,h=>by simp[e9]
  | m+1,k+1,h=>by
    rw[e9,yA,gQ n m k oM]
    congr 3
    omega
theorem jH (n m k:Nat):(e9 n m).getD k 0<256:=by
 rcases ep k m with h|h
 ·rw[gQ n m k h];exact yO _ oM
 ·simp[ya (show (e9 n m).length<=k by rw[i4];exact h)]
theorem uL (n i:Nat):n%256^(i+1)=n%256^i+256^i*(n/256^i%256):=by
 rw[z1,Nat.mod_mul]
theorem pH (a:Nat):nb a<=32*(lim a).length:=by
 apply kP
 have:=jZ (jg a);rw[fh] at this
 rw[A7];exact this
theorem xj (a k:Nat):(lim a).getD (k/4) 0/2^(8*(k%4))%256=a/256^k%256:=by
  have f:(lim a).getD (k/4) 0=a/4294967296^(k/4)%4294967296:=by
    rcases ep (k/4) (lim a).length with h|h
    . have e:=jL ((lim a).take (k/4)) ((lim a).drop (k/4))
      rw[A8,fh,Af,Ag oM] at e
      have b:=jZ (l:=(lim a).take (k/4)) (fun x c=>jg a x (A6 c));rw[Af,Ag oM] at b
      have d:=sL h
      have c:(lim a).getD (k/4) 0<4294967296:=by
        have:=jg a ((lim a)[k/4]) (gs h);simpa [h] using this
      have h1:(cZ ((lim a).take (k/4))+4294967296^(k/4)*cZ ((lim a).drop (k/4)))/4294967296^(k/4)=cZ ((lim a).drop (k/4)):=by
        rw[A9 _ _ (Bs oM),zY b,yH]
      rw[<-e] at h1
      rw[h1,d]
      omega
    . have:a<4294967296^(k/4):=by
        have h1:=jZ (jg a);rw[fh] at h1
        exact e5 h1 (Ay oM h)
      rw[zY this]
      simp[ya h]
  rw[f]
  have e1:(256:Nat)^k=4294967296^(k/4)*2^(8*(k%4)):=by
    have:k=4*(k/4)+k%4:=by omega
    conv=>lhs;rw[this,A4,A7]
    rw[A7 2 8]
  rw[e1,<-B2]
  generalize a/4294967296^(k/4)=y
  have:k%4=0\/k%4=1\/k%4=2\/k%4=3:=by omega
  rcases this with h|h|h|h<;>rw[h]<;>omega
theorem fT {l:List Nat}{m k x:Nat}{f:Nat->Nat}(c:l.length=m)(hk:k<m)(hv:∀ j,j<k->l.getD (m-1-j) 0=f j)(b:x=f k:=by rfl):∀ j,j<k+1->(l.set (m-1-k) x).getD (m-1-j) 0=f j:=by
 intro j d
 by_cases e:j=k
 ·subst e
  have:m-1-j<l.length:=by omega
  simp[this,b]
 ·have a:m-1-k≠m-1-j:=by omega
  have:=hv j oM
  simp only[D0] at this ⊢
  rw[yj a];exact this
theorem pV {l:List Nat}{n m:Nat}(a:l.length=m)(hv:∀ j,j<m->l.getD (m-1-j) 0=n/256^j%256):l=e9 n m:=by
 apply List.ext_getElem
 ·rw[i4,a]
 ·intro i h1 c
  have b:=gQ n m i oM;have:=hv (m-1-i) oM;rw[show m-1-(m-1-i)=i by omega,<-b] at this
  simpa [h1,c] using this
def eL (n k j:Nat):Nat:=n/256^k*256^k/4294967296^j%4294967296
theorem sV (n j:Nat):eL n 0 j=n/4294967296^j%4294967296:=by unfold eL;simp
theorem uM {n k:Nat}(h:n<256^k)(j:Nat):eL n k j=0:=by unfold eL;rw[zY h];simp
theorem nP (n k j:Nat):eL n k j<4294967296:=yO _ oM
theorem sJ (k:Nat):(256:Nat)^k=4294967296^(k/4)*2^(8*(k%4)):=by
 have:k=4*(k/4)+k%4:=by omega
 conv=>lhs;rw[this,A4,A7]
 rw[A7 2 8]
theorem rV (y q j:Nat):y*4294967296^q/4294967296^j%4294967296=if j<q then 0 else y/4294967296^(j-q)%4294967296:=by
 split
 ·rename_i h
  have e:(4294967296:Nat)^q=4294967296^j*(4294967296^(q-j-1)*4294967296):=by
   rw[<-z1,<-A4];congr 1;omega
  rw[e,<-z8,z2 y,z8,Nat.mul_div_cancel_left _ (Bs oM),<-z8];exact D1 _ _
 ·rename_i h
  have e:(4294967296:Nat)^j=4294967296^q*4294967296^(j-q):=by rw[<-A4];congr 1;omega
  rw[e,<-B2,Nat.mul_div_cancel _ (Bs oM)]
theorem AY (x b:Nat)(a:b<256):∀ r,r<4->(256*x+b)*2^(8*r)%4294967296=256*x*2^(8*r)%4294967296+b*2^(8*r)/\(256*x+b)*2^(8*r)/4294967296=256*x*2^(8*r)/4294967296/\256*x*2^(8*r)%4294967296%2^(8*r+8)=0/\b*2^(8*r)<4294967296:=by
 intro r hr;have:r=0\/r=1\/r=2\/r=3:=by omega
 rcases this with rfl|rfl|rfl|rfl<;>omega
theorem mq (n k j:Nat):eL n k j=if j=k/4 then eL n (k+1) j ||| (n/256^k%256)*2^(8*(k%4)) else eL n (k+1) j:=by
  have l:n/256^k=256*(n/256^(k+1))+n/256^k%256:=by
    rw[z1,<-B2];omega
  have h:n/256^k%256<256:=yO _ oM;have f:=sJ k;have a:(256:Nat)^(k+1)=4294967296^(k/4)*2^(8*(k%4))*256:=by rw[z1,f]
  obtain ⟨o,l2,l3,p⟩:=AY (n/256^(k+1)) _ h (k%4) oM
  unfold eL
  generalize n/256^(k+1)=x at *
  generalize hb2:n/256^k%256=b at *
  rw[l,f,a];have e1:(256*x+b)*(4294967296^(k/4)*2^(8*(k%4)))=(256*x+b)*2^(8*(k%4))*4294967296^(k/4):=by ac_rfl
  have e2:x*(4294967296^(k/4)*2^(8*(k%4))*256)=256*x*2^(8*(k%4))*4294967296^(k/4):=by ac_rfl
  rw[e1,e2,rV,rV]
  by_cases h1:j<k/4
  . rw[if_pos h1,if_pos h1,if_neg oM]
  . rw[if_neg h1,if_neg h1]
    by_cases h2:j=k/4
    . rw[if_pos h2,h2,yc,Nat.pow_zero,Nat.div_one,Nat.div_one,o]
      obtain ⟨c,hc⟩:∃ c,256*x*2^(8*(k%4))%4294967296=2^(8*(k%4)+8)*c:=⟨_,(Nat.mul_div_cancel' (Nat.dvd_of_mod_eq_zero l3)).symm⟩;rw[hc]
      have e:b*2^(8*(k%4))<2^(8*(k%4)+8):=by
        rw[A4,z2];exact Ft h (Aw _)
      exact Nat.two_pow_add_eq_or_of_lt e c
    . rw[if_neg h2]
      obtain ⟨d,hd⟩:∃ d,j-k/4=d+1:=⟨j-k/4-1,by omega⟩;have i:∀ y:Nat,y/4294967296^(d+1)=y/4294967296/4294967296^d:=fun y=>by rw[Az,B2]
      rw[hd,i,i,l2]
theorem gJ:∀ (l:List Nat) (n:Nat),(∀ j,j<l.length->l.getD j 0=n/4294967296^j%4294967296)->n<4294967296^l.length->cZ l=n
  | [],n,_,h=>by simp at h;simp[cZ,h]
  | x :: l,n,hd,h=>by
    have h0:=hd 0 (by simp)
    simp at h0
    have a:=gJ l (n/4294967296) (fun j b=>by
      have:=hd (j+1) (by simpa using b);rw[yA,Az,<-B2] at this
      exact this) (zZ (by rw[yf,Az] at h;exact h))
    rw[cZ,a,h0]
    omega
def ak (b:Nat):List Nat->Nat
  | []=>0
  | x::l=>x+b*ak b l
def Dg (b:Nat)(l:List Nat):Prop:=∀ x∈l,x<b
theorem ju (l:List Nat):cZ l=ak 4294967296 l:=by
 induction l with
 | nil=>rfl
 | cons x l ih=>simp only[cZ,ak,ih]
theorem Dg.nil {b:Nat}:Dg b []:=fun _ h=>by cases h
theorem Dg.getD {b:Nat}{l:List Nat}(h:Dg b l)(a:0<b)(k:Nat):l.getD k 0<b:=by
 rcases ep k l.length with hk|hk
 ·have:=h (l[k]) (gs hk);simpa [hk] using this
 ·simpa [ya hk] using a
theorem Dg.set {b:Nat}{l:List Nat}(h:Dg b l)(k:Nat){x:Nat}(a:x<b):Dg b (l.set k x):=fun y c=>by
 rcases List.mem_or_eq_of_mem_set c with h1|h1
 ·exact h y h1
 ·rw[h1];exact a
theorem Dg.take {b:Nat}{l:List Nat}(h:Dg b l)(k:Nat):Dg b (l.take k):=fun x a=>h x (A6 a)
theorem Dg.drop {b:Nat}{l:List Nat}(h:Dg b l)(k:Nat):Dg b (l.drop k):=fun x a=>h x (yJ a)
theorem Dg.append {b:Nat}{l m:List Nat}(h:Dg b l)(k:Dg b m):Dg b (l++m):=fun x a=>by
 rcases g1.1 a with h1|h1
 ·exact h x h1
 ·exact k x h1
theorem Dg.one {b x:Nat}(h:x<b):Dg b [x]:=fun y a=>by rw[vl.1 a];exact h
theorem Dg.cons {b x:Nat}{l:List Nat}(h:x<b)(k:Dg b l):Dg b (x::l):=fun y a=>by
 rcases g4.1 a with rfl|h1
 ·exact h
 ·exact k y h1
theorem Dg.rep {b n:Nat}(c:0<b):Dg b (yL n 0):=fun y a=>by rw[(List.mem_replicate.1 a).2];exact c
theorem dH (b:Nat)(x y:List Nat):ak b (x++y)=ak b x+b^x.length*ak b y:=by
  induction x with
  | nil=>simp[ak]
  | cons a x ih =>
    simp only[z6,ak,ih,yf,z1,z7]
    rw[<-z8,z2 (b^x.length) b]
    omega
theorem bS {b:Nat}{l:List Nat}(h:Dg b l):ak b l<b^l.length:=by
  induction l with
  | nil=>simp[ak]
  | cons x l ih =>
    have h1:=h x (by simp);have d:=ih (fun y a=>h y (by simp[a]))
    simp only[ak,yf,z1]
    have c:b*(ak b l+1)<=b*b^l.length:=A5 _ d;rw[z7,Ga,z2 b (b^l.length)] at c
    omega
theorem bL (b:Nat){l:List Nat}{k:Nat}(h:k<=l.length):ak b l=ak b (l.take k)+b^k*ak b (l.drop k):=by
 have e:=dH b (l.take k) (l.drop k);rw[A8,Af,Ag h] at e
 exact e
theorem gF {l:List Nat}{k:Nat}(h:k<l.length):l.take (k+1)=l.take k++[l.getD k 0]:=by
 rw[Ab];simp[h]
theorem aR (b:Nat){l:List Nat}{k:Nat}(h:k<l.length):ak b (l.take (k+1))=ak b (l.take k)+b^k*l.getD k 0:=by
 rw[gF h,dH,Af,Ag oM]
 show ak b (l.take k)+b^k*(l.getD k 0+b*0)=_
 rw[Ah,yw]
theorem eT (b:Nat){l:List Nat}{k:Nat}(h:k<l.length):ak b (l.drop k)=l.getD k 0+b*ak b (l.drop (k+1)):=by
 rw[Am h]
 simp[ak,h]
theorem cG (b:Nat){l:List Nat}{k:Nat}(x:Nat)(h:k<l.length):ak b (l.set k x)+b^k*l.getD k 0=ak b l+b^k*x:=by
  induction l generalizing k with
  | nil=>simp at h
  | cons y l ih =>
    cases k with
    | zero=>simp[ak];omega
    | succ k =>
      have:=ih (k:=k) (by simpa using h);rw[yG,yA,ak,ak,z1,z2 (b^k) b,z8,z8];have e:b*(ak b (l.set k x)+b^k*l.getD k 0)=b*(ak b l+b^k*x):=by rw[this]
      rw[z7,z7] at e
      omega
theorem fa (b n:Nat):ak b (yL n 0)=0:=by
 induction n with
 | zero=>rfl
 | succ n ih=>simp[yM,ak,ih]
theorem mi {b:Nat}(c:0<b){l:List Nat}(h:ak b l=0)(k:Nat):l.getD k 0=0:=by
  induction l generalizing k with
  | nil=>simp
  | cons x l ih =>
    simp only[ak] at h
    have h1:b*ak b l=0:=by omega
    have a:ak b l=0:=by
      rcases Nat.mul_eq_zero.1 h1 with a|a
      . omega
      . exact a
    cases k with
    | zero=>simp;omega
    | succ k=>simpa using ih a k
theorem gc (b:Nat){l:List Nat}(h:∀ k,l.getD k 0=0):ak b l=0:=by
  induction l with
  | nil=>rfl
  | cons x l ih =>
    have h0:=h 0
    simp at h0
    rw[ak,ih (fun k=>by have:=h (k+1);simpa using this),h0];simp
theorem ir {l:List Nat}{k n:Nat}(h:k<n):(l.take n).getD k 0=l.getD k 0:=by
 simp only[D0,List.getElem?_take,if_pos h]
theorem br {l:List Nat}{k n:Nat}:(l.drop n).getD k 0=l.getD (n+k) 0:=by
 simp only[D0,yq]
theorem bv {l:List Nat}{k j x:Nat}(h:k<l.length):(l.set k x).getD j 0=if k=j then x else l.getD j 0:=by
 simp only[D0,List.getElem?_set,h,if_true]
 split<;>simp
theorem fP {n k:Nat}:(yL n 0).getD k 0=0:=by
 simp only[D0,List.getElem?_replicate]
 split<;>rfl
theorem ci {l:List Nat}{k:Nat}(h:l.length<=k):l.getD k 0=0:=by simp[ya h]
theorem iJ (b:Nat)(l:List Nat):∀ n,n<=l.length->ak b (l.take (tl l n))=ak b (l.take n)
  | 0,_=>rfl
  | n + 1,h=>by
    unfold tl
    split
    . rename_i h0
      rw[aR b oM,h0,iJ b l n oM];simp
    . rfl
theorem rD {l:List Nat}:∀ n,tl l n=0\/l.getD (tl l n-1) 0≠0
  | 0=>.inl rfl
  | n+1=>by
    unfold tl
    split
    . exact rD n
    . rename_i h;exact .inr h
def oK (b:Nat):Nat->Nat->List Nat
  | 0,_=>[]
  | f+1,n=>if n=0 then [] else n%b::oK b f (n/b)
def iA (b n:Nat):List Nat:=oK b n n
theorem qQ {b:Nat}(a:2<=b):∀ (f g n:Nat),n<=f->n<=g->oK b f n=oK b g n
  | 0,g,n,hf,hg=>by
    have:n=0:=by omega
    subst this;cases g<;>rfl
  | f+1,0,n,hf,hg=>by
    have:n=0:=by omega
    subst this
    rfl
  | f + 1,g+1,n,hf,hg=>by
    unfold oK
    split
    . rfl
    . rename_i h0
      have:=Gb (n:=n) (k:=b) oM oM;rw[qQ a f g (n/b) oM oM]
theorem jd (b:Nat):iA b 0=[]:=rfl
theorem dL {b n:Nat}(a:2<=b)(h:0<n):iA b n=n%b::iA b (n/b):=by
 unfold iA
 obtain ⟨m,rfl⟩:∃ m,n=m+1:=⟨n-1,by omega⟩;have:=Gb (n:=m+1) (k:=b) oM oM;rw[oK,if_neg oM];rw[qQ a m _ _ oM (ey _)]
theorem kp {b:Nat}(a:2<=b)(n:Nat):ak b (iA b n)=n:=by
  induction n using hO with
  | _ n ih =>
    rcases yW n with h|h
    . subst h;rfl
    . rw[dL a h,ak,ih (n/b) (Gb h oM)]
      exact Nat.mod_add_div n b
theorem wi {b:Nat}(a:2<=b)(n:Nat):Dg b (iA b n):=by
  induction n using hO with
  | _ n ih =>
    rcases yW n with h|h
    . subst h;exact Dg.nil
    . rw[dL a h]
      exact Dg.cons (yO _ oM) (ih _ (Gb h oM))
theorem rM {b n:Nat}(a:2<=b):0<(iA b n).length↔0<n:=by
 rcases yW n with h|h
 ·subst h;simp[jd]
 ·rw[dL a h];simp[h]
theorem p7 {b:Nat}(i:2<=b){l:List Nat}(e:Dg b l)(a:l=[]\/l.getD (l.length-1) 0≠0):iA b (ak b l)=l:=by
  induction l with
  | nil=>rfl
  | cons x l ih =>
    have d:=e x (by simp);have e1:(x+b*ak b l)%b=x:=by rw[Nat.add_mul_mod_self_left,yN d]
    have e2:(x+b*ak b l)/b=ak b l:=by rw[A9 _ _ oM,zY d,yH]
    have c:l=[]\/l.getD (l.length-1) 0≠0:=by
      rcases List.eq_nil_or_concat l with h0|⟨m,y,rfl⟩
      . exact .inl h0
      . right
        rcases a with a|a
        . cases a
        . rw[show (x::m.concat y).length-1=((m.concat y).length-1)+1 by simp,yA] at a
          exact a
    have h:0<ak b (x::l):=by
      rcases yW (ak b (x::l)) with h0|h0
      . rcases a with a|a
        . cases a
        . exact absurd (mi oM h0 _) a
      . exact h0
    rw[dL i h]
    simp only[ak]
    rw[e1,e2,ih (fun y f=>e y (by simp[f])) c]
theorem CM {b:Nat}(d:2<=b){l:List Nat}(c:Dg b l):iA b (ak b l)=l.take (tl l l.length):=by
 have e:=iJ b l l.length (ey _);rw[yz] at e
 have a:=ia l l.length
 have:=p7 d (c.take (tl l l.length)) (by
  by_cases h0:tl l l.length=0
  ·left;rw[h0];rfl
  ·right
   rw[Af,Ag a,ir oM]
   rcases rD (l:=l) l.length with h|h
   ·exact absurd h h0
   ·exact h)
 rw[e] at this
 exact this
theorem o9 {b:Nat}(a:2<=b)(n:Nat)(h:0<n):(iA b n).getD ((iA b n).length-1) 0≠0:=by
  induction n using hO with
  | _ n ih =>
    rw[dL a h]
    rcases yW (n/b) with h0|h0
    . rw[h0,jd]
      have:n<b:=by
        rcases ep n b with h1|h1
        . exact h1
        . have:=Nat.div_pos h1 oM;omega
      simp[yN this];omega
    . have:=ih (n/b) (Gb h oM) h0
      have c:=(rM a).2 h0;rw[yf,show (iA b (n/b)).length+1-1=((iA b (n/b)).length-1)+1 by omega,yA];exact this
theorem dW {b n k:Nat}(a:2<=b)(h:n<b^k):(iA b n).length<=k:=by
 rcases yW n with h0|h0
 ·subst h0;simp[jd]
 ·rcases ep k (iA b n).length with hk|hk
  ·exfalso
   have h1:=aR b (l:=iA b n) (k:=(iA b n).length-1) oM;rw[show (iA b n).length-1+1=(iA b n).length by omega,yz,kp a] at h1
   have d:=o9 a n h0;have c:b^((iA b n).length-1)*1<=b^((iA b n).length-1)*(iA b n).getD ((iA b n).length-1) 0:=A5 _ oM;have e:b^k<=b^((iA b n).length-1):=Ay oM oM
   omega
  ·exact hk
theorem im {b:Nat}(a:2<=b)(n:Nat):n<b^(iA b n).length:=by
 have:=bS (wi a n)
 rwa [kp a] at this
theorem gn (b:Nat){l:List Nat}{k m:Nat}(hk:k+m<=l.length)(a:0<b)(c:Dg b l)(h:ak b l<b^(k+m)):ak b l/b^k=ak b ((l.drop k).take m)/\∀ i,k+m<=i->l.getD i 0=0:=by
 have e1:=bL b (l:=l) (k:=k) oM;have e2:=bL b (l:=l.drop k) (k:=m) (by rw[List.length_drop];omega);have h1:=bS (c.take k);rw[Af,Ag oM] at h1
 have d:0<b^k:=Bs a
 have hz:ak b ((l.drop k).drop m)=0:=by
  rcases yW (ak b ((l.drop k).drop m)) with h0|h0
  ·exact h0
  ·exfalso
   have f:b^m*1<=b^m*ak b ((l.drop k).drop m):=A5 _ h0;have e:b^k*b^m<=b^k*ak b (l.drop k):=A5 _ oM;rw[<-A4] at e
   omega
 rw[hz,Ah,yw] at e2
 refine ⟨?_,fun i hi=>?_⟩
 ·rw[e1,A9 _ _ d,zY h1,yH,e2]
 ·have:=mi a hz (i-k-m)
  rw[br,br,show k+(m+(i-k-m))=i by omega] at this
  exact this
theorem wG {b P u v U V G:Nat}(l:0<P)(x:U*P<=u)(j:u<(U+1)*P)(e:V*P<=v)(p:v<(V+1)*P)(d:b*P<=v)(a:u<b*v)(o:G*V<=U)(c:G+1=b\/U<(G+1)*V)(i:G<b) :
    u/v<=G/\G<=u/v+1:=by
  have hv:0<v:=e5 (Nat.mul_pos oM l) d
  constructor
  . have y:u/v<G+1:=by
      rw[Nat.div_lt_iff_lt_mul hv]
      rcases c with h|h
      . rw[h];exact a
      . have h1:(U+1)*P<=(G+1)*V*P:=yI _ h
        have f:(G+1)*(V*P)<=(G+1)*v:=A5 _ e;rw[z8] at h1
        omega
    omega
  . have h1:G*v<=u+v:=by
      have z:G*v<=G*((V+1)*P):=A5 _ oM;have B:G*((V+1)*P)=G*V*P+G*P:=by rw[<-z8,z7,Ga,Gx]
      have D:G*V*P<=U*P:=yI _ o;have C:G*P<=b*P:=yI _ oM
      omega
    have f:G<=(u+v)/v:=(Nat.le_div_iff_mul_le hv).2 h1;rw[Nat.add_div_right _ hv] at f
    omega
theorem aW (b:Nat)(l:List Nat)(k:Nat):ak b (l.take (k+1))=ak b (l.take k)+b^k*l.getD k 0:=by
 rcases ep k l.length with h|h
 ·exact aR b h
 ·rw[G1 oM,G1 h]
  simp[ya h]
theorem fJ {b:Nat}{l y:List Nat}{i c c' s X:Nat}(hi:i<l.length)(inv:ak b l+b^i*c=X+ak b (y.take i))(e:s+b*c'=l.getD i 0+y.getD i 0+c) :
  ak b (l.set i s)+b^(i+1)*c'=X+ak b (y.take (i+1)):=by
 have h1:=cG b s hi;rw[aW,z1]
 generalize b^i=P at *
 generalize ak b (l.set i s)=S at *
 have e2:P*(s+b*c')=P*(l.getD i 0+y.getD i 0+c):=by rw[e]
 simp only[z7,<-z8] at e2 ⊢
 omega
theorem gq {b:Nat}{l y:List Nat}{i c c' s X:Nat}(hi:i<l.length)(inv:ak b l+ak b (y.take i)=X+b^i*c)(e:s+y.getD i 0+c=l.getD i 0+b*c') :
  ak b (l.set i s)+ak b (y.take (i+1))=X+b^(i+1)*c':=by
 have h1:=cG b s hi;rw[aW,z1]
 generalize b^i=P at *
 generalize ak b (l.set i s)=S at *
 have e2:P*(s+y.getD i 0+c)=P*(l.getD i 0+b*c'):=by rw[e]
 simp only[z7,<-z8] at e2 ⊢
 omega
theorem om {b:Nat}{l y:List Nat}{k j m c c' s X:Nat}(hi:k+j<l.length)(inv:ak b l+b^(k+j)*c=X+b^k*(m*ak b (y.take j)))(e:s+b*c'=l.getD (k+j) 0+m*y.getD j 0+c) :
  ak b (l.set (k+j) s)+b^(k+(j+1))*c'=X+b^k*(m*ak b (y.take (j+1))):=by
 have h1:=cG b s hi;rw[aW,<-yu,z1];have a:b^(k+j)=b^k*b^j:=A4 _ _ _;have e2:b^(k+j)*(s+b*c')=b^(k+j)*(l.getD (k+j) 0+m*y.getD j 0+c):=by rw[e]
 have d:b^k*(m*(ak b (y.take j)+b^j*y.getD j 0))=b^k*(m*ak b (y.take j))+b^(k+j)*(m*y.getD j 0):=by
  rw[a,z7,z7,<-z8 m,z2 m (b^j),z8 (b^j),<-z8 (b^k) (b^j)]
 rw[d]
 generalize b^(k+j)=P at *
 generalize ak b (l.set (k+j) s)=S at *
 generalize b^k*(m*ak b (y.take j))=Y at *
 simp only[z7,<-z8] at e2 ⊢
 omega
theorem AO {b:Nat}{l y:List Nat}{k m c X:Nat}(hi:k+y.length<l.length)(inv:ak b l+b^(k+y.length)*c=X+b^k*(m*ak b (y.take y.length)))(h0:l.getD (k+y.length) 0=0) :
  ak b (l.set (k+y.length) c)=X+b^k*(m*ak b y):=by
 have h1:=cG b c hi;rw[yz] at inv
 rw[h0] at h1
 omega
theorem xR {b:Nat}{x:List Nat}{i X Y:Nat}(h:X=ak b (x.take i)*Y):X+b^i*(x.getD i 0*Y)=ak b (x.take (i+1))*Y:=by
 rw[aW,Gx,h,z8]
theorem xW {b:Nat}{l:List Nat}{i d r a q X:Nat}(hi:i<l.length)(inv:X=d*(b^(i+1)*ak b (l.drop (i+1)))+(b^(i+1)*r+ak b (l.take (i+1))))(e:r*b+l.getD i 0=d*q+a) :
  X=d*(b^i*ak b ((l.set i q).drop i))+(b^i*a+ak b ((l.set i q).take i)):=by
 have e1:(l.set i q).take i=l.take i:=by rw[List.take_set_of_le (ey _)]
 have e2:ak b ((l.set i q).drop i)=q+b*ak b (l.drop (i+1)):=by
  rw[eT b (by simpa using hi),bv hi,if_pos rfl,List.drop_set_of_lt oM]
 rw[e1,e2,inv,aR b hi,z1];have c:b^i*(r*b+l.getD i 0)=b^i*(d*q+a):=by rw[e]
 have f:d*(b^i*(q+b*ak b (l.drop (i+1))))=b^i*(d*q)+d*(b^i*b*ak b (l.drop (i+1))):=by
  rw[z7,z7,<-z8 (b^i) b,Nat.mul_left_comm d (b^i) q]
 have h:b^i*b*r=b^i*(r*b):=by rw[z8,z2 b r]
 rw[f,h]
 simp only[z7] at c
 omega
theorem AN {b:Nat}{u v:List Nat}{j i G c c' a bo' t s X:Nat}(hi:j+i<u.length)(inv:ak b u+b^j*(G*ak b (v.take i))=X+b^(j+i)*(c+a))(e1:t+b*c'=G*v.getD i 0+c)(e2:s+t+a=u.getD (j+i) 0+b*bo') :
  ak b (u.set (j+i) s)+b^j*(G*ak b (v.take (i+1)))=X+b^(j+(i+1))*(c'+bo'):=by
 have h1:=cG b s hi;rw[aW,<-yu,z1];have f:b^(j+i)=b^j*b^i:=A4 _ _ _
 have h:b^j*(G*(ak b (v.take i)+b^i*v.getD i 0))=b^j*(G*ak b (v.take i))+b^(j+i)*(G*v.getD i 0):=by
  rw[f,z7,z7,<-z8 G,z2 G (b^i),z8 (b^i),<-z8 (b^j) (b^i)]
 rw[h];have d:b^(j+i)*(t+b*c')=b^(j+i)*(G*v.getD i 0+c):=by rw[e1]
 have e:b^(j+i)*(s+t+a)=b^(j+i)*(u.getD (j+i) 0+b*bo'):=by rw[e2]
 generalize b^(j+i)=P at *
 generalize ak b (u.set (j+i) s)=S at *
 generalize b^j*(G*ak b (v.take i))=Y at *
 simp only[z7,<-z8] at d e inv ⊢
 omega
theorem D9 {b:Nat}{u v:List Nat}{j G c a bo' s X:Nat}(hi:j+v.length<u.length)(inv:ak b u+b^j*(G*ak b (v.take v.length))=X+b^(j+v.length)*(c+a))(e2:s+c+a=u.getD (j+v.length) 0+b*bo') :
  ak b (u.set (j+v.length) s)+b^j*(G*ak b v)=X+b^(j+v.length+1)*bo':=by
 have h1:=cG b s hi;rw[yz] at inv
 rw[z1];have d:b^(j+v.length)*(s+c+a)=b^(j+v.length)*(u.getD (j+v.length) 0+b*bo'):=by rw[e2]
 generalize b^(j+v.length)=P at *
 generalize ak b (u.set (j+v.length) s)=S at *
 generalize b^j*(G*ak b v)=Y at *
 simp only[z7,<-z8] at d inv ⊢
 omega
theorem BC {b:Nat}{u v:List Nat}{j i c c' s X:Nat}(hi:j+i<u.length)(inv:ak b u+b^(j+i)*c=X+b^j*ak b (v.take i))(e:s+b*c'=u.getD (j+i) 0+v.getD i 0+c) :
  ak b (u.set (j+i) s)+b^(j+(i+1))*c'=X+b^j*ak b (v.take (i+1)):=by
 have:=om (b:=b) (l:=u) (y:=v) (k:=j) (j:=i) (m:=1) (c:=c) (c':=c') (s:=s) (X:=X) hi (by rw[Hy];exact inv) (by rw[Hy];exact e);rw[Hy] at this
 exact this
theorem De {b:Nat}{u v:List Nat}{j c c' s X:Nat}(hi:j+v.length<u.length)(inv:ak b u+b^(j+v.length)*c=X+b^j*ak b (v.take v.length))(e:s+b*c'=u.getD (j+v.length) 0+c) :
  ak b (u.set (j+v.length) s)+b^(j+v.length+1)*c'=X+b^j*ak b v:=by
 have h1:=cG b s hi;rw[yz] at inv
 rw[z1];have a:b^(j+v.length)*(s+b*c')=b^(j+v.length)*(u.getD (j+v.length) 0+c):=by rw[e]
 generalize b^(j+v.length)=P at *
 generalize ak b (u.set (j+v.length) s)=S at *
 generalize b^j*ak b v=Y at *
 simp only[z7,<-z8] at a inv ⊢
 omega
def Above (u u0:List Nat)(k:Nat):Prop:=u.length=u0.length/\∀ i,k<=i->u.getD i 0=u0.getD i 0
theorem Above.refl (u:List Nat)(k:Nat):Above u u k:=⟨rfl,fun _ _=>rfl⟩
theorem Above.set {u a:List Nat}{k i x:Nat}(h:Above u a k)(hi:i<k)(b:i<u.length):Above (u.set i x) a k:=⟨by rw[List.length_set];exact h.1,fun j c=>by rw[bv b,if_neg oM];exact h.2 j c⟩
theorem i7 {b:Nat}(f:0<b){u a:List Nat}{k:Nat}(h:Above u a k)(d:Dg b u)(c:Dg b a)(hk:k<=u.length)(h0:ak b a<b^k):ak b u<b^k:=by
 have e:=bL b hk;have h1:=bS (d.take k);rw[Af,Ag hk] at h1
 have hz:ak b (u.drop k)=0:=gc b (fun i=>by
  rw[br,h.2 _ oM];exact (gn b (l:=a) (k:=k) (m:=0) (by rw[<-h.1];exact hk) f c h0).2 _ oM)
 rw[hz] at e
 omega
theorem jB {b n j R v c G f:Nat}(I:2<=b)(J:2<=n)(p:b^(n-1)<=v)(d:v<b^n)(hR:R<b^(j+1)*v)(D:c<b^(j+n+1))(e:c+b^j*(G*v)=R+b^(j+n+1)*f)(C:f<=1)
    (F:R/(b^j*v)<=G/\G<=R/(b^j*v)+1) :
    (f=0->G=R/(b^j*v)/\c=R-b^j*(G*v)/\c<b^j*v/\b^j*(G*v)<=R)/\(f=1->G=R/(b^j*v)+1/\c+b^j*v=(R-b^j*((G-1)*v))+b^(j+n+1)/\R-b^j*((G-1)*v)<b^j*v/\b^j*((G-1)*v)<=R):=by
  have u:0<b^j:=Bs oM;have l:0<v:=e5 (Bs oM) p;have z:0<b^j*v:=Nat.mul_pos u l;have o:∀ g,b^j*(g*v)=g*(b^j*v):=fun g=>by rw[<-z8,z2 (b^j) g,z8]
  have i:=Hz R (b^j*v);have B:=yO R z;rw[z2] at i
  rw[o] at e
  have x:b^j*v<b^(j+n+1):=by
    have h1:b^j*v<b^j*b^n:=Ft d u;rw[<-A4] at h1
    have H:b^(j+n)<=b^(j+n+1):=Ay oM oM
    omega
  have y:R<b^(j+n+1):=by
    have h1:b^(j+1)*v<b^(j+1)*b^n:=Ft d (Bs oM);rw[<-A4,show j+1+n=j+n+1 by omega] at h1
    omega
  generalize b^(j+n+1)=T at *
  generalize hWe:b^j*v=W at *
  generalize hQ:R/W=Q at *
  refine ⟨fun h=>?_,fun h=>?_⟩
  . subst h
    rw[o]
    have a:G=Q:=by
      rcases ep Q G with h1|h1
      . exfalso
        have:G=Q+1:=by omega
        subst this;rw[Gx] at e
        omega
      . omega
    subst a
    omega
  . subst h
    have a:G=Q+1:=by
      rcases ep Q G with h1|h1
      . omega
      . exfalso
        have:G=Q:=by omega
        subst this
        omega
    subst a;rw[o,Nat.add_sub_cancel];rw[Gx] at e
    omega
theorem sU {b n j G:Nat}{u v:List Nat}(M:2<=b)(Q:2<=n)(K:v.length=n)(f:Dg b v)(z:Dg b u)(L:j+n<u.length)(D:v.getD (n-1) 0≠0)(hR:ak b u<b^(j+1)*ak b v)
  (J:G*(v.getD (n-1) 0*b+v.getD (n-2) 0)<=u.getD (j+n) 0*b*b+u.getD (j+n-1) 0*b+u.getD (j+n-2) 0)
  (x:G+1=b\/u.getD (j+n) 0*b*b+u.getD (j+n-1) 0*b+u.getD (j+n-2) 0<(G+1)*(v.getD (n-1) 0*b+v.getD (n-2) 0))(o:G<b) :
  ak b u/(b^j*ak b v)<=G/\G<=ak b u/(b^j*ak b v)+1:=by
 have d:=bS f;rw[K] at d
 have B:0<b^(j+n-2):=Bs oM
 have p:ak b u<b^(j+n-2+3):=by
  have h1:b^(j+1)*ak b v<b^(j+1)*b^n:=Ft d (Bs oM);rw[<-A4,show j+1+n=j+n-2+3 by omega] at h1
  omega
 have c:∀ {l:List Nat} {k:Nat},k+3<=l.length->ak b ((l.drop k).take 3)=l.getD (k+2) 0*b*b+l.getD (k+1) 0*b+l.getD k 0:=fun {l k} hk=>by
  rw[aW,aW,aW,br,br,br]
  simp[ak,z1]
  rw[z2 b (l[k+1]?.getD 0),z2 (b*b) (l[k+2]?.getD 0),z8]
  omega
 have two:∀ {l:List Nat} {k:Nat},k+2<=l.length->ak b ((l.drop k).take 2)=l.getD (k+1) 0*b+l.getD k 0:=fun {l k} hk=>by
  rw[aW,aW,br,br]
  simp[ak]
  rw[z2 b (l[k+1]?.getD 0)]
  omega
 have C:=(gn b (l:=u) (k:=j+n-2) (m:=3) oM oM z p).1;have H:=(gn b (l:=v) (k:=n-2) (m:=2) oM oM f (by rw[show n-2+2=n by omega];exact d)).1;rw[c oM,show j+n-2+2=j+n by omega,show j+n-2+1=j+n-1 by omega] at C
 rw[two oM,show n-2+1=n-1 by omega] at H
 have a:b^(j+n-2)=b^j*b^(n-2):=by rw[<-A4];congr 1;omega
 have y:0<b^(n-2):=Bs oM;have h:=Hz (ak b u) (b^(j+n-2));have F:=yO (ak b u) B;have i:=Hz (ak b v) (b^(n-2));have I:=yO (ak b v) y;rw[C] at h
 rw[H] at i
 have e:b^(n-1)<=ak b v:=by
  have:=aR b (l:=v) (k:=n-1) oM;rw[show n-1+1=v.length by omega,yz] at this
  have O:b^(n-1)*1<=b^(n-1)*v.getD (n-1) 0:=A5 _ oM
  omega
 generalize hU:u.getD (j+n) 0*b*b+u.getD (j+n-1) 0*b+u.getD (j+n-2) 0=U at *
 generalize hV:v.getD (n-1) 0*b+v.getD (n-2) 0=V at *
 generalize ak b u%b^(j+n-2)=mu at *
 generalize ak b v%b^(n-2)=mv at *
 refine wG (b:=b) (P:=b^(j+n-2)) (U:=U) (V:=V) B ?_ ?_ ?_ ?_ ?_ ?_ J x o
 ·rw[z2];omega
 ·rw[Gx,Hy,z2 U];omega
 ·rw[a,z2 V,z8]
  exact A5 _ oM
 ·rw[a,z2 (V+1),z8,z7,Ga]
  exact Ft oM (Bs oM)
 ·rw[a,z2 b (b^j*b^(n-2)),z8]
  refine A5 _ ?_;rw[<-z1,show (n-2).succ=n-1 by omega];exact e
 ·rw[z1] at hR
  rw[<-z8,z2 b (b^j)];exact hR
def aG (s:ByteArray)(i:Nat):Nat:=(s.data.toList.getD i 0).toNat
theorem cA (s:ByteArray)(i:Nat):aG s i<256:=UInt8.toNat_lt _
def wv (s:ByteArray):Nat:=aG s 0+aG s 1*256+aG s 2*65536+aG s 3*16777216+aG s 4*4294967296+aG s 5*1099511627776+aG s 6*281474976710656+aG s 7*72057594037927936
theorem Cj (s:ByteArray):wv s<18446744073709551616:=by
 have h0:=cA s 0;have h1:=cA s 1;have d:=cA s 2;have c:=cA s 3;have e:=cA s 4;have f:=cA s 5;have a:=cA s 6;have b:=cA s 7
 unfold wv;omega
section ops
variable {P:Program}{Γ:bW}{o:Oper}
theorem dZ {tx:TypeId}{x i:Operand}{k:IntKind}{s:ByteArray}{n:Nat}{j:Int}(d:o.op=.index tx x i)(c:ev Γ x=.string s)(hi:ev Γ i=.int k j)(f:P.underlying tx=some .string)(e:j=(n:Int))(b:n<s.size)(w:World) :
  (execOp (ev Γ) o).run P w=.ok (.value (.int .u8 (aG s n:Nat))) w:=by
 unfold execOp;simp only[d];rw[c,hi,e]
 have h0:(0:Int)<=(n:Int):=Int.natCast_nonneg n;have a:n<s.data.size:=b
 have h1:s[n]?=some (s.data.toList.getD n 0):=by
  simp[b,a,ByteArray.getElem_eq_getElem_data]
 simp[Instr.index,asIntOf,run_underlying f,h1,aG,Result.andThen]
theorem n5 {tx:TypeId}{x i:Operand}{k:IntKind}{s:ByteArray}{n:Nat}{j:Int}(b:o.op=.slice tx x (some i) none none)(a:ev Γ x=.string s)(hi:ev Γ i=.int k j)(c:P.underlying tx=some .string)(e:j=(n:Int))(d:n<=s.size)(w:World) :
  (execOp (ev Γ) o).run P w=.ok (.value (.string (s.extract n s.size))) w:=by
 unfold execOp;simp only[b]
 subst e;have h0:(n:Int)<=(s.size:Int):=by omega
 simp[Instr.sliceAt,a,hi,Instr.slice,run_underlying c,Instr.sliceBounds,Instr.sliceBound,asIntOf,Result.andThen,h0,d]
theorem gE {t u:TypeId}{x y:Operand}{ky:IntKind}{a n:Nat}(d:o.op=.binOp .shl t x y u)(b:ev Γ x=.int .u64 (a:Int))(c:ev Γ y=.int ky (n:Int))(w:World) :
    (execOp (ev Γ) o).run P w=.ok (.value (.int .u64 ((a*2^n%18446744073709551616:Nat):Int))) w:=by
  unfold execOp;simp only[d];rw[b,c]
  have hz:¬((n:Int)<0):=by omega
  have e:IntKind.wrap .u64 ((a:Int)*2^(min n IntKind.u64.bits))=((a*2^n%18446744073709551616:Nat):Int):=by
    have e1:(a:Int)*2^(min n IntKind.u64.bits)=((a*2^(min n 64):Nat):Int):=by
      rw[show IntKind.u64.bits=64 from rfl];push_cast;rfl
    rw[e1,v8]
    rcases ep n 64 with h|h
    . rw[Ag oM]
    . rw[HA h]
      have e2:(2:Nat)^n=18446744073709551616*2^(n-64):=by
        rw[show (18446744073709551616:Nat)=2^64 from rfl,<-A4];congr 1;omega
      have f:a*2^n%18446744073709551616=0:=by rw[e2,<-z8,z2 a,z8,Nat.mul_mod_right]
      rw[f,show (2:Nat)^64=18446744073709551616 from rfl,D1]
  simp[binOp,eqGuard,Op.shift,Result.andThen,hz,e]
theorem fZ {t u:TypeId}{x y:Operand}{ky:IntKind}{a n:Nat}(d:o.op=.binOp .shr t x y u)(b:ev Γ x=.int .u64 (a:Int))(c:ev Γ y=.int ky (n:Int))(ha:a<18446744073709551616)(w:World) :
  (execOp (ev Γ) o).run P w=.ok (.value (.int .u64 ((a/2^n:Nat):Int))) w:=by
 unfold execOp;simp only[d];rw[b,c]
 have hz:¬((n:Int)<0):=by omega
 have f:(0:Int)<=2^(min n IntKind.u64.bits):=zF kD
 have e:(a:Int)/2^(min n IntKind.u64.bits)=((a/2^n:Nat):Int):=by
  have e1:(a:Int)/2^(min n IntKind.u64.bits)=((a/2^(min n 64):Nat):Int):=by
   rw[show IntKind.u64.bits=64 from rfl];push_cast;rfl
  rw[e1]
  rcases ep n 64 with h|h
  ·rw[Ag oM]
  ·have h1:(2:Nat)^64<=2^n:=Ay oM h
   rw[HA h,zY oM,zY oM]
 simp[binOp,eqGuard,Op.shift,Result.andThen,hz,y8 _ f,e]
theorem ur {t u:TypeId}{x y:Operand}{a:Nat}{m:Int}(p:Nat)(f:o.op=.binOp .and t x y u)(c:ev Γ x=.int .u64 (a:Int))(d:ev Γ y=.int .u64 m)(ha:a<18446744073709551616)(b:p<=64/\m=((2^p-1:Nat):Int))(w:World) :
  (execOp (ev Γ) o).run P w=.ok (.value (.int .u64 ((a%2^p:Nat):Int))) w:=by
 unfold execOp;simp only[f];rw[c,d,b.2]
 have h:(2^p-1:Nat)<2^64:=by
  have:(2:Nat)^p<=2^64:=Ay oM b.1;have:=Aw p
  omega
 have e:bits .and .u64 (a:Int) ((2^p-1:Nat):Int)=((a%2^p:Nat):Int):=by
  unfold bits
  have h1:(BitVec.ofInt 64 (a:Int) &&& BitVec.ofInt 64 ((2^p-1:Nat):Int)).toNat=a%2^p:=by
   rw[BitVec.toNat_and,<-Nat.and_two_pow_sub_one_eq_mod]
   congr 1
   ·simp[BitVec.toNat_ofInt];omega
   ·rw[BitVec.toNat_ofInt,<-Int.natCast_emod,yP,yN h]
  show IntKind.wrap .u64 (((BitVec.ofInt 64 (a:Int) &&& BitVec.ofInt 64 ((2^p-1:Nat):Int)).toNat:Nat):Int)=_
  rw[h1,v8];have:a%2^p<=a:=Nat.mod_le _ _;rw[yN oM]
 simp[binOp,eqGuard,Result.andThen,intBits_and,e]
end ops
theorem xa (a b:Nat):IntKind.wrap .u64 ((a:Int)+(b:Int))=(((a+b)%18446744073709551616:Nat):Int):=by rw[IntKind.wrap_u64];omega
theorem Ca (a b:Nat)(h:b<=18446744073709551616):IntKind.wrap .u64 ((a:Int)-(b:Int))=(((a+(18446744073709551616-b))%18446744073709551616:Nat):Int):=by rw[IntKind.wrap_u64];omega
theorem kh (a b:Nat):IntKind.wrap .u64 ((a:Int)*(b:Int))=((a*b%18446744073709551616:Nat):Int):=by
 rw[<-Int.natCast_mul,v8]
theorem kV (a b:Nat)(h:a*b<18446744073709551616):IntKind.wrap .u64 ((a:Int)*(b:Int))=((a*b:Nat):Int):=by rw[kh,yN h]
theorem fQ (a b:Nat)(h:b<=a)(ha:a<18446744073709551616):IntKind.wrap .u64 ((a:Int)-(b:Int))=((a-b:Nat):Int):=by rw[IntKind.wrap_u64];omega
theorem hJ (a b:Nat)(h:a+b<18446744073709551616):IntKind.wrap .u64 ((a:Int)+(b:Int))=((a+b:Nat):Int):=by rw[IntKind.wrap_u64];omega
theorem iR {s:ByteArray}(h:s=⟨#[]⟩):(s.toList == (⟨#[]⟩:ByteArray).toList)=true:=by rw[h,Lib.toList_data];rfl
theorem lw {s:ByteArray}(h:s.size≠0):s.data.toList≠[]:=fun e=>h (by
 have:s.data.size=s.data.toList.length:=by simp
 show s.data.size=0
 rw[this,e];rfl)
theorem g8 {s:ByteArray}(h:s.size≠0):(s.toList == (⟨#[]⟩:ByteArray).toList)=false:=by
 rw[Lib.toList_data,Lib.toList_data];have:=lw h;cases e:s.data.toList with
 | nil=>exact absurd e this
 | cons a l=>rfl
theorem Fi {s:ByteArray}(h:s=⟨#[]⟩):(!(s.toList == (⟨#[]⟩:ByteArray).toList))=false:=by rw[iR h];rfl
theorem FJ {s:ByteArray}(h:s.size≠0):(!(s.toList == (⟨#[]⟩:ByteArray).toList))=true:=by rw[g8 h];rfl
theorem oN (s:ByteArray)(k i:Nat):aG (s.extract k s.size) i=aG s (k+i):=by
 unfold aG
 rw[Lib.extract_to_end]
 simp only[D0,yq]
def tf (s t:ByteArray):Bool:=s.toList == t.toList
def oU (s t:ByteArray):Bool:=!(s.toList == t.toList)
theorem xh {s t:ByteArray}(h:tf s t=true):s=t:=by
 have e:=eq_of_beq (show (s.toList == t.toList)=true from h);rw[Lib.toList_data,Lib.toList_data] at e
 cases s;cases t;congr 1;exact Array.toList_inj.1 e
theorem tS {s t:ByteArray}(h:tf s t=false):¬s=t:=fun e=>by
 subst e;have:tf s s=true:=beq_self_eq_true _;rw[this] at h;cases h
theorem BB {s t:ByteArray}(h:oU s t=true):¬s=t:=tS (by unfold oU at h;unfold tf;cases e:(s.toList == t.toList)<;>rw[e] at h<;>first|rfl|cases h)
theorem Bi {s t:ByteArray}(h:oU s t=false):s=t:=xh (by unfold oU at h;unfold tf;cases e:(s.toList == t.toList)<;>rw[e] at h<;>first|rfl|cases h)
def wds (n:Nat):List Nat:=iA 18446744073709551616 n
def aA (l:List Nat):Nat:=ak 18446744073709551616 l
def Wd (l:List Nat):Prop:=Dg 18446744073709551616 l
theorem aJ (n:Nat):aA (wds n)=n:=kp kD n
theorem Wd.wds (n:Nat):Wd (wds n):=wi kD n
theorem Wd.get {l:List Nat}(h:Wd l)(k:Nat):l.getD k 0<18446744073709551616:=Dg.getD h kD k
theorem wM {p : Prop} (h : p := by first | omega | exact Wd.get (by assumption) _ | exact Cj _) : p := h
end Go.Proofs.YtcbgbcghmndlmaaGreatDoor
