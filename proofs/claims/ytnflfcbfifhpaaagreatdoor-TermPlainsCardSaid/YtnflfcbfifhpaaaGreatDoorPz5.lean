/- Laws and contracts that the card of this claim stands on, part 6. No condition of ours. -/
import Derived.Test.YtnflfcbfifhpaaaGreatDoorPz0
import Derived.Test.YtnflfcbfifhpaaaGreatDoorPz1
import Derived.Test.YtnflfcbfifhpaaaGreatDoorPz2
import Derived.Test.YtnflfcbfifhpaaaGreatDoorPz3
import Derived.Test.YtnflfcbfifhpaaaGreatDoorPz4
set_option maxRecDepth 100000
set_option maxHeartbeats 4000000
open Array renaming getElem?_append_right → A9, getElem?_eq_none → et, getElem?_extract → B2, getElem?_replicate → Bs
open Bool renaming and_eq_true → i1, not_not → MA
open ByteArray renaming size_extract → MB
open Decidable renaming byContradiction → Mx
open Go.IntKind renaming wrap → JJ
open Go.Region renaming noSelect → g9, noSelect_spec → hO
open Go.Result renaming andThen → A6
open Go.Value renaming bool → Mg, int → Lp, string → MF
open List renaming append_assoc → MG, getD_eq_getElem?_getD → Kl, getElem?_set → ME, length_append → zY, length_set → KP, length_singleton → Mf, mem_cons → g7, mem_map → g5, mem_singleton → pa, replicate → Am, toArray → Lu
open Nat renaming le_refl → ey, le_trans → ez, lt_or_ge → ep, lt_succ_iff_lt_or_eq → Mm, not_lt_zero → Mk, one_pos → My, pow_le_pow_right → Kb, pow_succ → JY, zero_le → K7
open Rat renaming den_natCast → MD, num_natCast → MC
namespace Go.Proofs.YtnflfcbfifhpaaaGreatDoor
open Go.RowKit
open Go.RowKit Go.Shelf
open Go.RowKit Go.WideMaps
theorem AI  (isb:ByteArray→Bool)(sm:ByteArray→Prop)(p:∀ s,sm s→∀ (w:World) (h:Hp),G w h→Calls Tryz.prog 92 #[.string s] w (Ret w h (fun v _=>∃ b,v=.bool b∧b=isb s)))(d:Nat)(r:RTm)(t:Tm)(F:d≤24)(w:World)(h:Hp)(g:G w h)(hR:RmH d h r t)(k:iF sm d t):CR 24 #[bE r] w h (fun v _=>∃ e:Int,v=iV e∧((WfT (fun s=>isb s=true) d t∧e=(if 1000<bp d t then 18 else 0))∨(¬WfT (fun s=>isb s=true) d t∧e=2))):=by
 have a:=((sS g).add (K:=fun l=>RmH d l r t) hR);refine go Tryz.func24 [(0,bE r)] rfl (av (lA 1 31 (bU r) a (fun C w2 D a=>lL a [.v 2 (iV 0)] (ah (kZ (aa a [.o 4 (bE r) 0 0 7] (ag 5 a (uS sm d r t _ _ a.g a.f.1 k oM) (fun y z a=>?_))))))));have u:=n6 d t;cases c:(decide ((24:Int)<((nA d t:Nat):Int)))
 ·
  have j:=oF c;refine lB 6 c (lL a [.m 3 6] (af (aa a [.o 8 (bE r) 0 0 7] (lC 9 a (pe isb sm p d r t _ _ a.g a.f.1 k) ?_))));rintro _ B H a ⟨bf,rfl,i⟩;cases x:(bf)
  ·
   exact lL a [.v 10 qT,.m 7 10] (ak (aa a [.v 2 (iV 2)] (ac a [] (iV 2) (⟨_,rfl,.inr ⟨fun l=>Bool.noConfusion ((i.2 l).symm.trans aM),rfl⟩⟩))))
  refine lL a [.v 10 qF,.m 7 10] (af (aa a [.o 12 (bE r) 0 0 7] (ag 13 a (rM sm d r t _ _ a.g a.f.1 k) (fun _ _ a=>?_))));cases za:(decide ((1000:Int)<(((min (bp d t) 1073741824:Nat):Int):Int)))
  ·
   have zb:=oF za;exact lB 14 za (lL a [.m 11 14] (af (cK (aa a [.v 2 (iV 0)] (ac a [] (iV 0) (⟨_,rfl,.inl ⟨i.1 aM,(MM oM).symm⟩⟩))))))
  have zb:=oT za;exact lB 14 za (lL a [.m 11 14] (ak (aa a [.v 2 (iV 18)] (ac a [] (iV 18) (⟨_,rfl,.inl ⟨i.1 aM,(MN oM).symm⟩⟩)))))
 have j:=oT c;refine lB 6 c (lL a [.m 3 6] (ak (aa a [.v 2 (iV 19)] (lN (kX ?_)))))
 exfalso;omega
def gE (c:Nat):Prop:=(97≤c∧c≤122)∨(65≤c∧c≤90)
def oc (c:Nat):Prop:=((97≤c∧c≤122)∨(65≤c∧c≤90))∨(48≤c∧c≤57)∨c=95
instance (c:Nat):Decidable (gE c):=by unfold gE;infer_instance
instance (c:Nat):Decidable (oc c):=by unfold oc;infer_instance
def dG (s:ByteArray):Int:=if s=⟨#[97,98,115]⟩ then 9 else if s=⟨#[114,97,109,112]⟩ then 10 else if s=⟨#[98,101,110,100]⟩ then 11 else if s=⟨#[109,97,120]⟩ then 12 else if s=⟨#[109,105,110]⟩ then 13 else 0
def uM (s:ByteArray):Int:=if dG s=0 then 0 else if dG s≤11 then 1 else 2
def cM (s:ByteArray):Bool:=decide (dG s≠0)
def bI (s:ByteArray):Bool:=decide (1≤s.size∧s.size≤20∧gE (aG s 0)∧(∀ i,i<s.size→oc (aG s i))∧cM s=false)
theorem m8 {s:ByteArray}(h:¬(1≤s.size∧s.size≤20∧gE (aG s 0))):Mg false=.bool (bI s):=congrArg Mg (decide_eq_false fun x=>h ⟨x.1,x.2.1,x.2.2.1⟩).symm
theorem Da {s:ByteArray}{i:Nat}(h:i<s.size)(a:¬oc (aG s i)):Mg false=.bool (bI s):=congrArg Mg (decide_eq_false fun x=>a (x.2.2.2.1 i h)).symm
theorem CH {s:ByteArray}(h1:1≤s.size∧s.size≤20)(b:gE (aG s 0))(a:∀ i,i<s.size→oc (aG s i)):bI s = !cM s:=by
 unfold bI
 cases h:cM s
 ·exact decide_eq_true ⟨h1.1,h1.2,b,a,rfl⟩
 ·exact decide_eq_false fun x=>by cases x.2.2.2.2
def iZ:List MapEntry:=[⟨.string ⟨#[97,98,115]⟩,.int .i64 9,0⟩,⟨.string ⟨#[114,97,109,112]⟩,.int .i64 10,1⟩,⟨.string ⟨#[98,101,110,100]⟩,.int .i64 11,2⟩,⟨.string ⟨#[109,97,120]⟩,.int .i64 12,3⟩,⟨.string ⟨#[109,105,110]⟩,.int .i64 13,4⟩]
theorem qZ (s:ByteArray):(∃ i,Instr.findNow .string (.string s) iZ 0=some (some (i,.int .i64 (dG s)))∧cM s=true)∨(Instr.findNow .string (.string s) iZ 0=some none∧cM s=false∧dG s=0):=by
 by_cases h1:s=⟨#[97,98,115]⟩
 ·subst h1;exact .inl ⟨0,by kernel_rfl,by decide⟩
 by_cases h2:s=⟨#[114,97,109,112]⟩
 ·subst h2;exact .inl ⟨1,by kernel_rfl,by decide⟩
 by_cases h3:s=⟨#[98,101,110,100]⟩
 ·subst h3;exact .inl ⟨2,by kernel_rfl,by decide⟩
 by_cases h4:s=⟨#[109,97,120]⟩
 ·subst h4;exact .inl ⟨3,by kernel_rfl,by decide⟩
 by_cases h5:s=⟨#[109,105,110]⟩
 ·subst h5;exact .inl ⟨4,by kernel_rfl,by decide⟩
 have h:dG s=0:=by unfold dG;rw[MM h1,MM h2,MM h3,MM h4,MM h5]
 refine .inr ⟨?_,by unfold cM;rw[h];rfl,h⟩
 rcases MapKept.findNow_spec (d:=.string) (k:=.string s) (by simp[MapKept.IsKey]) iZ 0 (fun x f=>by
  simp only[iZ,g7,List.not_mem_nil,or_false] at f
  rcases f with rfl|rfl|rfl|rfl|rfl<;>simp[MapKept.IsKey]) with ⟨a,_⟩|⟨j,e,a,b,c⟩
 ·exact a
 ·exfalso
  match j,b with
  | 0,b=>injection b with b;subst b;injection c with c;exact h1 c.symm
  | 1,b=>injection b with b;subst b;injection c with c;exact h2 c.symm
  | 2,b=>injection b with b;subst b;injection c with c;exact h3 c.symm
  | 3,b=>injection b with b;subst b;injection c with c;exact h4 c.symm
  | 4,b=>injection b with b;subst b;injection c with c;exact h5 c.symm
  | n+5,b=>cases b
def uo (p:Nat→Bool)(s:ByteArray):Nat→Nat→Nat
  | 0,a=>a
  | f+1,a=>if a<s.size∧p (aG s a)=true then uo p s f (a+1) else a
def rn (p:Nat→Bool)(s:ByteArray)(a:Nat):Nat:=uo p s (s.size-a) a
theorem vZ (p:Nat→Bool)(s:ByteArray):∀ f a,a≤uo p s f a
  | 0,a=>ey a
  | f+1,a=>by
    unfold uo;split
    · exact ez (Nat.le_succ a) (vZ p s f (a+1))
    · exact ey a
theorem xS (p:Nat→Bool)(s:ByteArray):∀ f a,a≤s.size→uo p s f a≤s.size
  | 0,a,h=>h
  | f+1,a,h=>by
    unfold uo;split
    · rename_i c;exact xS p s f (a+1) c.1
    · exact h
theorem Dd (p:Nat→Bool)(s:ByteArray)(a:Nat):a≤rn p s a:=vZ p s _ a
theorem pq {p:Nat→Bool}{s:ByteArray}{a:Nat}(h:a≤s.size):rn p s a≤s.size:=xS p s _ a h
theorem wS {p:Nat→Bool}{s:ByteArray}{j:Nat}:∀ f a,s.size-a≤f→a≤j→j≤s.size→(∀ i,a≤i→i<j→p (aG s i)=true)→(j=s.size∨p (aG s j)=false)→uo p s f a=j
  | 0,a,h1,h2,h3,_,_=>by show a=j;omega
  | f + 1,a,h1,h2,h3,h4,h5=>by
    unfold uo
    by_cases e:a=j
    · subst e
      rw[MM];rintro ⟨d,b⟩
      rcases h5 with h5|h5
      · omega
      · rw[h5] at b;cases b
    · rw[MN ⟨by omega,h4 a (ey a) oM⟩]
      exact wS f (a+1) oM oM h3 (fun i hi c=>h4 i oM c) h5
theorem pj {p:Nat→Bool}{s:ByteArray}{a j:Nat}(c:a≤j)(b:j≤s.size)(e:∀ i,a≤i→i<j→p (aG s i)=true)(d:j=s.size∨p (aG s j)=false):rn p s a=j:=wS _ a (ey _) c b e d
theorem pp (p:Nat→Bool)(s:ByteArray):∀ f a,s.size-a≤f→uo p s f a<s.size→p (aG s (uo p s f a))=false
  | 0,a,h1,b=>by
    have b:a<s.size:=b
    omega
  | f + 1,a,h1,b=>by
    unfold uo at b ⊢
    split
    · rename_i c;rw[MN c] at b;exact pp p s f (a+1) oM b
    · rename_i c;rw[MM c] at b
      cases h:p (aG s a) with
      | true=>exact MO ⟨b,h⟩ c
      | false=>rfl
def BM (c:Nat):Bool:=decide (c=32)
def kj (c:Nat):Bool:=decide (48≤c∧c≤57)
def mg (c:Nat):Bool:=decide ((48≤c∧c≤57)∨c=46)
def dR (c:Nat):Bool:=decide (oc c)
def sN (c:Nat):Bool:=decide (c≠93)
def sk (s:ByteArray)(a:Nat):Nat:=rn BM s a
theorem iE {s:ByteArray}{a:Nat}(h:a≤s.size):sk s a≤s.size:=pq h
theorem G1 (s:ByteArray)(a:Nat):sk s (sk s a)=sk s a:=by
 rcases ep (sk s a) s.size with h1|h1
 ·exact pj (ey _) (Nat.le_of_lt h1) (fun i b c=>MO b oM) (.inr (pp BM s (s.size-a) a (ey _) h1))
 ·show uo BM s (s.size-sk s a) (sk s a)=sk s a
  rw[show s.size-sk s a=0 by omega];rfl
theorem sa {s:ByteArray}{a:Nat}(h:s.size≤a):aG s a=0:=by
 unfold aG
 rw[Kl,List.getElem?_eq_none (by simpa using h)];rfl
theorem wu {s:ByteArray}{a:Nat}(h:aG s a≠0):a<s.size:=by
 rcases ep a s.size with h1|h1
 ·exact h1
 ·exact MO (sa h1) h
inductive PR where
  | ok (t:Tm) (a:Nat)
  | err (b:Nat)
inductive PKd where
  | sum|prod|sign|pow|atom
  | call (op:Int)
  | more (lv:Bool) (t:Tm)
def nT (op:Int)(t:Tm):Tm:=.mk op 0 0 ⟨#[]⟩ [t]
def dH (op:Int)(t u:Tm):Tm:=.mk op 0 0 ⟨#[]⟩ [t,u]
def fx (q:Rat):Tm:=.mk 1 0 q ⟨#[]⟩ []
def dV (s:ByteArray):Tm:=.mk 2 0 0 s []
def mC (x:Option PR)(f:Tm→Nat→Option PR):Option PR:=match x with
  | none=>none
  | some (.ok t a)=>f t a
  | some (.err b)=>some (.err b)
def dv (s:ByteArray):Nat→Nat
  | 0=>0
  | n+1=>dv s n*10+(aG s n-48)
def kl (s:ByteArray):Option Nat:=if s.size=0∨(1<s.size∧aG s 0=48)∨¬(∀ i,i<s.size→kj (aG s i)=true) then none else some (dv s s.size)
theorem iw {x:ByteArray}{k:Nat}(h:kl x=some k):1≤x.size∧(1<x.size→aG x 0≠48)∧(∀ i,i<x.size→48≤aG x i∧aG x i≤57)∧k=dv x x.size:=by
 unfold kl at h
 by_cases c:x.size=0∨(1<x.size∧aG x 0=48)∨¬(∀ i,i<x.size→kj (aG x i)=true)
 ·rw[MN c] at h;cases h
 ·rw[MM c] at h;injection h with h
  refine ⟨by omega,fun h1 a=>c (.inr (.inl ⟨h1,a⟩)),fun i hi=>?_,h.symm⟩;exact oT (Mx fun a=>c (.inr (.inr (fun b=>a (b i hi)))))
theorem rd {x:ByteArray}:∀ n,(∀ i,i<n→48≤aG x i∧aG x i≤57)→dv x n<10^n
  | 0,_=>My
  | n+1,h=>by
    have h1:=rd n (fun i hi=>h i oM);have a:=h n oM
    show dv x n*10+(aG x n-48)<10^(n+1)
    rw[JY];omega
theorem rj {x:ByteArray}{k:Nat}(h:kl x=some k)(a:x.size≤3):k≤999:=by
 obtain ⟨h1,_,b,rfl⟩:=iw h;have d:=rd x.size b;have c:10^x.size≤10^3:=Kb kD a
 omega
def c1 (lv:Bool):Nat:=if lv then 42 else 43
def c2 (lv:Bool):Nat:=if lv then 47 else 45
def x3 (lv:Bool):Int:=if lv then 5 else 3
def sl (lv:Bool):Int:=if lv then 6 else 4
def part (lv:Bool):PKd:=if lv then .sign else .prod
def BZ (s:ByteArray)(t:Tm)(a:Nat):PR :=
  let m:Bool:=decide (aG s (sk s a)=45)
  let b:=sk s (if m then sk s a+1 else sk s a)
  let e:=rn kj s b
  if 3<e-b then .err b else match kl (s.extract b e) with
    | none=>.err b
    | some k=>.ok (.mk 8 (if m then -(k:Int) else k) 0 ⟨#[]⟩ [t]) e
section
variable (nf bf:ByteArray→Option Rat) (s:ByteArray)
def dO : Nat→PKd→Nat→Option PR
  | 0,_,_=>none
  | n+1,.sum,a=>mC (dO n .prod a) fun t b=>dO n (.more false t) b
  | n+1,.prod,a=>mC (dO n .sign a) fun t b=>dO n (.more true t) b
  | n+1,.more lv t,a =>
    if aG s (sk s a)=c1 lv then mC (dO n (part lv) (sk s a+1)) fun u b=>dO n (.more lv (dH (x3 lv) t u)) b
    else if aG s (sk s a)=c2 lv then mC (dO n (part lv) (sk s a+1)) fun u b=>dO n (.more lv (dH (sl lv) t u)) b
    else some (.ok t (sk s a))
  | n+1,.sign,a=>if aG s (sk s a)=45 then mC (dO n .sign (sk s a+1)) fun t b=>some (.ok (nT 7 t) b) else dO n .pow (sk s a)
  | n+1,.pow,a=>mC (dO n .atom a) fun t b=>if aG s (sk s b)=94 then some (BZ s t (sk s b+1)) else some (.ok t (sk s b))
  | n + 1,.atom,a =>
    if mg (aG s (sk s a))=true then match nf (s.extract (sk s a) (rn mg s (sk s a))) with
      | some q=>some (.ok (fx q) (rn mg s (sk s a)))
      | none=>some (.err (sk s a))
    else if gE (aG s (sk s a))∨aG s (sk s a)=95 then
      if cM (s.extract (sk s a) (rn dR s (sk s a)))=true then dO n (.call (dG (s.extract (sk s a) (rn dR s (sk s a))))) (rn dR s (sk s a))
      else if bI (s.extract (sk s a) (rn dR s (sk s a)))=true then some (.ok (dV (s.extract (sk s a) (rn dR s (sk s a)))) (rn dR s (sk s a)))
      else some (.err (sk s a))
    else if aG s (sk s a)=91 then
      if rn sN s (sk s a+1)=s.size then some (.err (sk s a)) else match bf (s.extract (sk s a+1) (rn sN s (sk s a+1))) with
      | some q=>some (.ok (fx q) (rn sN s (sk s a+1)+1))
      | none=>some (.err (sk s a))
    else if aG s (sk s a)=40 then mC (dO n .sum (sk s a+1)) fun t b=>if aG s (sk s b)=41 then some (.ok t (sk s b+1)) else some (.err (sk s b))
    else some (.err (sk s a))
  | n + 1,.call op,a =>
    if aG s (sk s a)=40 then mC (dO n .sum (sk s a+1)) fun t b =>
      if op=12∨op=13 then
        if aG s (sk s b)=44 then mC (dO n .sum (sk s b+1)) fun u c=>if aG s (sk s c)=41 then some (.ok (dH op t u) (sk s c+1)) else some (.err (sk s c))
        else some (.err (sk s b))
      else if aG s (sk s b)=41 then some (.ok (nT op t) (sk s b+1)) else some (.err (sk s b))
    else some (.err (sk s a))
variable {nf bf s}
theorem fP {x:Option PR}{f:Tm→Nat→Option PR}{t:Tm}{b:Nat}(h:mC x f=some (.ok t b)):∃ u a,x=some (.ok u a)∧f u a=some (.ok t b):=by
 match x,h with
 | some (.ok u a),h=>exact ⟨u,a,rfl,h⟩
def uv (lv:Bool):PKd:=if lv then .prod else .sum
section
variable {n a b:Nat} {t u:Tm} {lv:Bool} {op:Int}
theorem B7 {k:PKd}{r:PR}(h:dO nf bf s n k a=some r):∃ m,n=m+1:=by
 cases n with
 | zero=>cases h
 | succ m=>exact ⟨m,rfl⟩
theorem BV (h:dO nf bf s (n+1) (uv lv) a=some (.ok t b)):∃ u c,dO nf bf s n (part lv) a=some (.ok u c)∧dO nf bf s n (.more lv u) c=some (.ok t b):=by
 cases lv<;>exact fP h
theorem tw (h:dO nf bf s (n+1) (.more lv u) a=some (.ok t b))(c:aG s (sk s a)=c1 lv):∃ v e,dO nf bf s n (part lv) (sk s a+1)=some (.ok v e)∧dO nf bf s n (.more lv (dH (x3 lv) u v)) e=some (.ok t b):=by
 unfold dO at h;rw[MN c] at h;exact fP h
theorem sO (h:dO nf bf s (n+1) (.more lv u) a=some (.ok t b))(d:aG s (sk s a)≠c1 lv)(c:aG s (sk s a)=c2 lv):∃ v e,dO nf bf s n (part lv) (sk s a+1)=some (.ok v e)∧dO nf bf s n (.more lv (dH (sl lv) u v)) e=some (.ok t b):=by
 unfold dO at h;rw[MM d,MN c] at h;exact fP h
theorem tz (h:dO nf bf s (n+1) (.more lv u) a=some (.ok t b))(d:aG s (sk s a)≠c1 lv)(c:aG s (sk s a)≠c2 lv):t=u∧b=sk s a:=by
 unfold dO at h;rw[MM d,MM c] at h;injection h with h;injection h with h1 h2;exact ⟨h1.symm,h2.symm⟩
theorem Cl (h:dO nf bf s (n+1) .sign a=some (.ok t b))(c:aG s (sk s a)=45):∃ v,dO nf bf s n .sign (sk s a+1)=some (.ok v b)∧t=nT 7 v:=by
 unfold dO at h;rw[MN c] at h
 obtain ⟨v,e,h1,d⟩:=fP h
 injection d with d;injection d with d h3;subst h3;exact ⟨v,h1,d.symm⟩
theorem tp (h:dO nf bf s (n+1) .sign a=some (.ok t b))(c:aG s (sk s a)≠45):dO nf bf s n .pow (sk s a)=some (.ok t b):=by
 unfold dO at h;rw[MM c] at h;exact h
theorem By (h:dO nf bf s (n+1) .pow a=some (.ok t b)):∃ v e,dO nf bf s n .atom a=some (.ok v e)∧(aG s (sk s e)≠94→t=v∧b=sk s e)∧(aG s (sk s e)=94→BZ s v (sk s e+1)=.ok t b):=by
 unfold dO at h
 obtain ⟨v,e,h1,d⟩:=fP h;refine ⟨v,e,h1,fun c=>?_,fun c=>?_⟩
 ·rw[MM c] at d;injection d with d;injection d with d h3;exact ⟨d.symm,h3.symm⟩
 ·rw[MN c] at d;injection d
theorem Bj {v:Tm}(h:BZ s v a=.ok t b):∃ k,kl (s.extract (sk s (if aG s (sk s a)=45 then sk s a+1 else sk s a)) b)=some k∧b=rn kj s (sk s (if aG s (sk s a)=45 then sk s a+1 else sk s a))∧b-sk s (if aG s (sk s a)=45 then sk s a+1 else sk s a)≤3∧t=.mk 8 (if aG s (sk s a)=45 then -(k:Int) else k) 0 ⟨#[]⟩ [v]:=by
  have e1:∀ x y:Nat,(if decide (aG s (sk s a)=45)=true then x else y)=if aG s (sk s a)=45 then x else y:=fun x y=>by by_cases c:aG s (sk s a)=45<;>simp[c]
  have e2:∀ x y:Int,(if decide (aG s (sk s a)=45)=true then x else y)=if aG s (sk s a)=45 then x else y:=fun x y=>by by_cases c:aG s (sk s a)=45<;>simp[c]
  unfold BZ at h
  dsimp only at h
  rw[e1] at h
  generalize sk s (if aG s (sk s a)=45 then sk s a+1 else sk s a)=B at h ⊢
  by_cases c:3<rn kj s B-B
  · rw[MN c] at h;cases h
  · rw[MM c] at h
    revert h
    cases d:kl (s.extract B (rn kj s B)) with
    | none=>intro h;cases h
    | some k =>
      intro h
      injection h with h1 h2
      subst h2;rw[e2] at h1
      exact ⟨k,d,rfl,by omega,h1.symm⟩
section
variable (h:dO nf bf s (n+1) .atom a=some (.ok t b))
include h
theorem AA (c:mg (aG s (sk s a))=true):∃ q,nf (s.extract (sk s a) (rn mg s (sk s a)))=some q∧t=fx q∧b=rn mg s (sk s a):=by
 unfold dO at h;rw[MN c] at h
 split at h
 ·rename_i q d;injection h with h;injection h with h1 h2;exact ⟨q,d,h1.symm,h2.symm⟩
 ·cases h
variable (c0:mg (aG s (sk s a))=false)
include c0
theorem Fg (c:gE (aG s (sk s a))∨aG s (sk s a)=95)(d:cM (s.extract (sk s a) (rn dR s (sk s a)))=true):dO nf bf s n (.call (dG (s.extract (sk s a) (rn dR s (sk s a))))) (rn dR s (sk s a))=some (.ok t b):=by
 unfold dO at h;rw[MM (by rw[c0];decide),MN c,MN d] at h;exact h
theorem CA (c:gE (aG s (sk s a))∨aG s (sk s a)=95)(d:cM (s.extract (sk s a) (rn dR s (sk s a)))=false):bI (s.extract (sk s a) (rn dR s (sk s a)))=true∧t=dV (s.extract (sk s a) (rn dR s (sk s a)))∧b=rn dR s (sk s a):=by
 unfold dO at h;rw[MM (by rw[c0];decide),MN c,MM (by rw[d];decide)] at h
 split at h
 ·rename_i e;injection h with h;injection h with h1 h2;exact ⟨e,h1.symm,h2.symm⟩
 ·cases h
variable (cL:¬(gE (aG s (sk s a))∨aG s (sk s a)=95))
include cL
theorem Ft (c:aG s (sk s a)=91):rn sN s (sk s a+1)≠s.size∧∃ q,bf (s.extract (sk s a+1) (rn sN s (sk s a+1)))=some q∧t=fx q∧b=rn sN s (sk s a+1)+1:=by
 unfold dO at h;rw[MM (by rw[c0];decide),MM cL,MN c] at h
 split at h
 ·cases h
 ·rename_i d
  split at h
  ·rename_i q e;injection h with h;injection h with h1 h2;exact ⟨d,q,e,h1.symm,h2.symm⟩
  ·cases h
variable (c9:aG s (sk s a)≠91)
include c9
theorem CP (c:aG s (sk s a)=40):∃ e,dO nf bf s n .sum (sk s a+1)=some (.ok t e)∧aG s (sk s e)=41∧b=sk s e+1:=by
 unfold dO at h;rw[MM (by rw[c0];decide),MM cL,MM c9,MN c] at h
 obtain ⟨v,e,h1,f⟩:=fP h
 split at f
 ·rename_i d;injection f with f;injection f with f h3;subst f;exact ⟨e,h1,d,h3.symm⟩
 ·cases f
theorem Fq (c:aG s (sk s a)≠40):False:=by
 unfold dO at h;rw[MM (by rw[c0];decide),MM cL,MM c9,MM c] at h;cases h
end
theorem vQ (h:dO nf bf s (n+1) (.call op) a=some (.ok t b)):aG s (sk s a)=40∧∃ u e,dO nf bf s n .sum (sk s a+1)=some (.ok u e)∧((op=12∨op=13)→aG s (sk s e)=44∧∃ v f,dO nf bf s n .sum (sk s e+1)=some (.ok v f)∧aG s (sk s f)=41∧t=dH op u v∧b=sk s f+1)∧(¬(op=12∨op=13)→aG s (sk s e)=41∧t=nT op u∧b=sk s e+1):=by
  unfold dO at h
  split at h
  · rename_i c
    obtain ⟨u,e,h1,i⟩:=fP h;refine ⟨c,u,e,h1,fun k=>?_,fun k=>?_⟩
    · rw[MN k] at i
      split at i
      · rename_i d
        obtain ⟨v,f,l,j⟩:=fP i
        split at j
        · rename_i g;injection j with j;injection j with j h5;exact ⟨d,v,f,l,g,j.symm,h5.symm⟩
        · cases j
      · cases i
    · rw[MM k] at i
      split at i
      · rename_i d;injection i with i;injection i with i l;exact ⟨d,i.symm,l.symm⟩
      · cases i
  · cases h
end
end
def PtH (h:Hp)(p:PTm)(t:Tm):Prop:=∃ d,TmH d h p t
theorem PtH.gw {h h':Hp}{p:PTm}{t:Tm}(x:PtH h p t)(u:Gw h h'):PtH h' p t:=by obtain ⟨d,x⟩:=x;exact ⟨d,x.gw u⟩
theorem PtH.one {h:Hp}{op n:Int}{p:PTm}{t:Tm}{b:Nat}(x:PtH h p t)(a:SlO 9 bg au h (some ⟨b,0,none⟩) [p]):PtH h ⟨op,n,0,⟨#[]⟩,some ⟨b,0,none⟩,1,1⟩ (.mk op n 0 ⟨#[]⟩ [t]):=by
 obtain ⟨d,x⟩:=x
 exact ⟨d+1,TmH.mk (ps:=[p]) (ks:=[t]) ⟨rfl,fun i hi=>by
  have:i=0:=by have:i<1:=hi;omega
  subst this;exact x⟩ (ey _) a⟩
theorem PtH.two {h:Hp}{op:Int}{p q:PTm}{t u:Tm}{b:Nat}(x:PtH h p t)(y:PtH h q u)(a:SlO 9 bg au h (some ⟨b,0,none⟩) [p,q]):PtH h ⟨op,0,0,⟨#[]⟩,some ⟨b,0,none⟩,2,2⟩ (dH op t u):=by
 obtain ⟨d,x⟩:=x;obtain ⟨e,y⟩:=y
 exact ⟨max d e+1,TmH.mk (ps:=[p,q]) (ks:=[t,u]) ⟨rfl,fun i hi=>by
  have:i=0∨i=1:=by have:i<2:=hi;omega
  rcases this with rfl|rfl
  ·exact x.mono (Nat.le_max_left _ _)
  ·exact y.mono (Nat.le_max_right _ _)⟩ (ey _) a⟩
theorem PtH.num {h:Hp}{q:Rat}:PtH h ⟨1,0,q,⟨#[]⟩,none,0,0⟩ (fx q):=⟨1,TmH.mk (ps:=[]) (ks:=[]) Tms.nil (ey _) SlO.nil⟩
theorem PtH.nam {h:Hp}{s:ByteArray}:PtH h ⟨2,0,0,s,none,0,0⟩ (dV s):=⟨1,TmH.mk (ps:=[]) (ks:=[]) Tms.nil (ey _) SlO.nil⟩
section ops
variable {P:Program} {Γ:bz} {o:Oper}
theorem vD {tx:TypeId}{x i e:Operand}{k k2:IntKind}{s:ByteArray}{n m:Nat}{j j2:Int}(d:o.op=.slice tx x (some i) (some e) none)(l:ev Γ x=.string s)(hi:ev Γ i=.int k j)(f:ev Γ e=.int k2 j2)(p:P.underlying tx=some .string)(c:j=(n:Int))(a:j2=(m:Int))(b:n≤m)(h:m≤s.size)(w:World) :
  (execOp (ev Γ) o).run P w=.ok (.value (.string (s.extract n m))) w:=by
 unfold execOp;simp only[d]
 subst c;subst a;have h0:(m:Int)≤(s.size:Int):=by omega
 simp[Instr.sliceAt,l,hi,f,Instr.slice,run_underlying p,Instr.sliceBounds,Instr.sliceBound,asIntOf,A6,h0,b,h]
end ops
structure Whole (lo:Nat) (h:Hp) (b:Nat) (ty:TypeId) (vs:List Value):Prop where
  lo:lo≤b
  ty0:(ty == 0)=false
  at_:h[b]?=some (.cells vs.toArray ty (0,0))
section ss
variable {w0:World} {h0:Hp} {w:World} {h:Hp} {B:List Bx} {R:List Rw} {F:List (Hp→Prop)}
end ss
structure Poked (h h':Hp) (b:Nat):Prop where
  oth:∀ c,c≠b→c<h.size→h'[c]?=h[c]?
section ss
variable {w0:World} {h0:Hp} {w:World} {h:Hp} {B:List Bx} {R:List Rw} {F:List (Hp→Prop)}
end ss
section laws
variable {M:Ms} {P:Program} {n:Nat} {N R:Po} {X:Nat→Po} {ops:Array Oper} {k k0:Nat} {hr:Hp} {AL:List Al} {L:Array Bool} {Γ:bz} {w:World} {h:Hp} {w0:World} {h0:Hp} {B:List Bx} {Rs:List Rw} {F:List (Hp→Prop)}
theorem tC (i t:Nat){f:FuncId}{args:Array Value}(c:Calls P f args w fun e w'=>∃ v,e=.returned v∧Tl M w w'∧AG M P n N R X ops k0 (L.setIfInBounds i true) ((t,v)::Γ) w')(j:(gm ops k0 L i && bj Γ (ao ops i) && ((ao ops i).dst == some t) && decide (t<n))=true:=by kernel_rfl)(k:bA ops Γ (ao ops i)=some true:=by kernel_rfl)
  (hr:(execOp (ev Γ) (ao ops i)).run P w=.ok (.enter f args) w:=by kernel_rfl):AG M P n N R X ops k0 L Γ w:=by
 simp only[i1,decide_eq_true_eq,beq_iff_eq] at j
 obtain ⟨⟨⟨h1,l⟩,p⟩,o⟩:=j;obtain ⟨h,u⟩:=jf h1;intro a d;refine A.one h1 h (R':=fun v w'=>Tl M w w'∧AG M P n N R X ops k0 (L.setIfInBounds i true) ((t,v)::Γ) w') ⟨d.want k,.inr (.inr ⟨f,args,?_,c⟩)⟩ (fun v w' b=>b.1) (fun v w' b=>?_)
 ·rw[d.exec (hO u i _ · · h) l];exact hr
 ·rw[p];exact b.2 _ (d.put o v)
theorem x4 (t:Nat)(ty:TypeId)(vs:List Value)(s:SS w0 h0 w h B Rs F)(H:∀ b w' h',Up w h w' h'→h.size≤b→SS w0 h0 w' h' (⟨b,ty,vs⟩::B) Rs F→LG P n N R X ops (k+1) ((t,.pointer (some ⟨b,0,none⟩))::Γ) w')(c:cL ops Γ k t n=true:=by kernel_rfl)
  (hr:(execOp (ev Γ) (ao ops k)).run P w=.ok (.value (.pointer (some ⟨w.heap.size,0,none⟩))) (w.alloc (.cells vs.toArray ty (0,0))):=by kernel_rfl):LG P n N R X ops k Γ w :=
 LG.var t ty vs s.st (bK c).1 (bK c).2 hr (fun b w' h' a u d=>H b w' h' u a (s.new u a d))
theorem UpM.put2 {M2:List Nat}{wa w':World}{ha:Hp}{b:Nat}(u:UpM M2 wa ha w h)(p:Put b w w')(i:ha.size≤b)(d:G wa ha)(g:G w' h):UpM M2 wa ha w' h :=
 ⟨⟨p.os.trans u.mo.os,p.tape.trans u.mo.tape,p.output.trans u.mo.output,by rw[p.size];exact u.mo.size,fun c a f=>(p.blk c (fun e=>by subst e;have:=d.size;omega)).trans (u.mo.blk c a f)⟩,u.gr,g⟩
end laws
section
variable {M:Ms} {P:Program} {n:Nat} {N R:Po} {X:Nat→Po} {ops:Array Oper} {k0:Nat} {hr:Hp} {AL:List Al} {L:Array Bool} {Γ:bz} {w:World} {h:Hp} {w0:World} {h0:Hp} {B:List Bx} {Rs:List Rw} {F:List (Hp→Prop)} {M2:List Nat} {wa:World} {ha:Hp}
theorem SS.pubM (s:SS w0 h0 w h B Rs F)(u:UpM M2 wa ha w h)(j:Nat)(k:ha.size≤(aA B j).b)(i:decide (j<B.length)=true:=by kernel_rfl):∃ h',SS w0 h0 w h' (B.eraseIdx j) Rs F∧UpM M2 wa ha w h'∧Seg h' (aA B j).b 0 (aA B j).vs:=by
 have a:=oT i;obtain ⟨h',d,gw,p,y,oth⟩:=s.st.pubX j a;have l:=bB a;refine ⟨h',⟨s.g0,d,fun r hr=>((s.ro r hr).out (g5.2 ⟨_,l,rfl⟩) oth).sub _ (fun b c=>?_),s.ap,s.mo,s.f.gw s.mo gw⟩,⟨u.mo,⟨ez u.gr.size gw.size,fun b c=>?_⟩,d.up.g⟩,p⟩
 ·obtain ⟨x,o,e⟩:=g5.1 c
  exact g5.2 ⟨x,List.mem_of_mem_eraseIdx o,e⟩
 ·exact (oth b (fun e=>by subst e;omega)).trans (u.gr.blk b c)
theorem FY (i t:Nat){f:FuncId}{args:Array Value}{Φ:World→Hp→Value→Hp→Prop}(s:SS w0 h0 w h B Rs F)(m:UpM M2 wa ha w h)(c:∀ w1 h1,SS w0 h0 w1 h1 B Rs F→Calls P f args w1 (Ret w1 h1 (Φ w1 h1)))(H:∀ w1 h1 v w' h',UpM M2 wa ha w' h'→SS w0 h0 w' h' B Rs F→Φ w1 h1 v h'→EG M P n N R X ops k0 hr AL (L.setIfInBounds i true) ((t,v)::Γ) w' h')(d:El n ops k0 AL L Γ i t=true:=by kernel_rfl)(hv:∀ w,(execOp (ev Γ) (ao ops i)).run P w=.ok (.enter f args) w:=by intro _;kernel_rfl):EG M P n N R X ops k0 hr AL L Γ w h :=
 Rg.call i t f args (kd d).1 (kd d).2 hv (fun w1 h1 u=>(c w1 h1 (s.step u)).mono fun e w' ⟨v,h',j,a,b⟩=>⟨v,h',j,a.m M.l,H w1 h1 v w' h' (m.trans ((u.m _).trans (a.m _))) ((s.step u).step a) b⟩)
theorem Hd {F1:List (Hp→Prop)}{wr:World}{x:Al}(a:List Bx)(c:SS w0 h0 wr hr B Rs F1)(s:SS w0 h0 w h (a++B) Rs F)(m:UpM M2 wa ha w h)(f:ha.size≤hr.size)(t:TypeId)(vs:List Value)(H:∀ w' h' b,UpM M2 wa ha w' h'→ha.size≤b→SS w0 h0 w' h' (⟨b,t,vs⟩::(a++B)) Rs F→AG M P n N R X ops k0 (L.setIfInBounds x.i true) ((x.t,.pointer (some ⟨b,0,none⟩))::Γ) w')(e:(fv ops [x] L && decide (x.t<n))=true:=by kernel_rfl)(d:x.o=.cells vs.toArray t (0,0):=by kernel_rfl)(j:a.all (fun y=>y.t != t)=true:=by kernel_rfl):EG M P n N R X ops k0 hr [x] L Γ w h :=
 Rg.fin1 e (fun w' h' b u k=>H w' h' b (m.trans (u.m _)) (ez f k.2.2) (SS.blkp a c (s.step u) k t vs d j))
theorem IK (i j o:Nat)(cs:List Value)(s:SS w0 h0 w h B Rs F)(H:∀ w',Put (aA B j).b w w'→SS w0 h0 w' h (fY B j o cs) Rs F→AG M P n N R X ops k0 (L.setIfInBounds i true) Γ w')(c:F0 ops k0 L Γ i=true:=by kernel_rfl)
  (a:(decide (j<B.length) && decide (o+cs.length≤(aA B j).vs.length))=true:=by kernel_rfl)(f:dj P (execOp (ev Γ) (ao ops i))=some (.skip,mm (aA B j).b o cs):=by kernel_rfl)(hz:∀ K bs,M.z=some (K,bs)→K≤(aA B j).b∨(aA B j).b∈bs:=by intro _ _ e;cases e):AG M P n N R X ops k0 L Γ w :=
 T.put i j o cs s.st s.g0 (ki c).1 (ki c).2 a f (fun w' p d=>H w' p (s.put0 (oT (i1 _ _▸a).1) p d (kN (oT (i1 _ _▸a).1)))) hz
end
theorem kz (c:Nat)(z:c<256)(w:World)(h:Hp)(g:G w h):CV 132 #[.int .u8 (c:Nat)] w h (.bool (decide (gE (c)))):=by
 have a:=sS g;refine go Tryz.func132 [(0,.int .u8 (c:Nat))] rfl (aa a [.v 2 qF] (aI (lL a [.m 3 0] ?_)));cases d:(decide ((97:Int)≤(c:Int)))
 ·
  have k:=oF d;refine lB 4 d (lL a [.m 5 4] (lG 6 ?_));refine lG 7 (lL a [.v 8 qF,.m 9 8,.m 10 0] ?_);cases f:(decide ((65:Int)≤(c:Int)))
  ·
   have i:=oF f;refine lB 11 f (lL a [.m 12 11] (lG 13 ?_));exact lG 14 (lL a [.v 15 qF,.v 16 qF,.m 2 16] (ac a [] qF (congrArg Mg (decide_eq_false (by unfold gE;omega)).symm)))
  have i:=oT f;refine lB 11 f (lL a [.m 12 11,.m 13 0] ?_);cases b:(decide ((c:Int)≤(90:Int)))
  ·
   have j:=oF b;exact lB 14 b (lL a [.v 15 qF,.v 16 qF,.m 2 16] (ac a [] qF (congrArg Mg (decide_eq_false (by unfold gE;omega)).symm)))
  have j:=oT b;exact lB 14 b (lL a [.v 15 qT,.v 16 qT,.m 2 16] (ac a [] qT (congrArg Mg (decide_eq_true (by unfold gE;omega)).symm)))
 have k:=oT d;refine lB 4 d (lL a [.m 5 4,.m 6 0] ?_);cases e:(decide ((c:Int)≤(122:Int)))
 ·
  have l:=oF e;refine lB 7 e (lL a [.v 8 qF,.m 9 8,.m 10 0] ?_);have ⟨u,y⟩:=dT (p:=(65:Int)≤(c:Int)) oM;refine lB 11 u (lL a [.m 12 11,.m 13 0] ?_);have ⟨o,x⟩:=dF (p:=(c:Int)≤(90:Int)) oM;exact lB 14 o (lL a [.v 15 qF,.v 16 qF,.m 2 16] (ac a [] qF (congrArg Mg (decide_eq_false (by unfold gE;omega)).symm)))
 have l:=oT e;refine lB 7 e (lL a [.v 8 qT,.m 9 8] (lG 10 ?_));exact lG 11 (lG 12 (lG 13 (lG 14 (lG 15 (lL a [.v 16 qT,.m 2 16] (ac a [] qT (congrArg Mg (decide_eq_true (by unfold gE;omega)).symm)))))))
theorem jE (c:Nat)(i:c<256)(w:World)(h:Hp)(g:G w h):CV 171 #[.int .u8 (c:Nat)] w h (.bool (decide (48≤(c)∧(c)≤57))):=by
 have a:=sS g;refine go Tryz.func171 [(0,.int .u8 (c:Nat))] rfl (aa a [.v 2 qF] (aI (lL a [.m 3 0] ?_)));cases b:(decide ((48:Int)≤(c:Int)))
 ·
  have f:=oF b;refine lB 4 b (lL a [.m 5 4] (lG 6 ?_));exact lG 7 (lL a [.v 8 qF,.m 2 8] (ac a [] qF (congrArg Mg (decide_eq_false oM).symm)))
 have f:=oT b;refine lB 4 b (lL a [.m 5 4,.m 6 0] ?_);cases d:(decide ((c:Int)≤(57:Int)))
 ·
  have e:=oF d;exact lB 7 d (lL a [.v 8 qF,.m 2 8] (ac a [] qF (congrArg Mg (decide_eq_false oM).symm)))
 have e:=oT d;exact lB 7 d (lL a [.v 8 qT,.m 2 8] (ac a [] qT (congrArg Mg (decide_eq_true oM).symm)))
theorem pK (c:Nat)(k:c<256)(w:World)(h:Hp)(g:G w h):CV 133 #[.int .u8 (c:Nat)] w h (.bool (decide (oc (c)))):=by
 have a:=sS g;refine go Tryz.func133 [(0,.int .u8 (c:Nat))] rfl (aa a [.v 2 qF] (aI (lL a [.m 3 0] (ag 4 a (kz c k _ _ a.g) (fun w1 o a=>?_)))));cases i:(decide (gE (c)))
 ·
  have e:=oF i;refine lL a [.m 5 4,.m 6 0] (ag 7 a (jE c k _ _ a.g) (fun l p a=>?_));cases d:(decide (48≤(c)∧(c)≤57))
  ·
   have f:=oF d;refine lL a [.v 8 qF,.m 9 8,.m 10 0] ?_;cases b:((c:Int) == (95:Int))
   ·
    have j:=ae b;exact lB 11 b (lL a [.v 12 qF,.m 2 12] (ac a [] qF (congrArg Mg (decide_eq_false (by unfold gE at *;unfold oc;omega)).symm)))
   have j:=ML b;exact lB 11 b (lL a [.v 12 qT,.m 2 12] (ac a [] qT (congrArg Mg (decide_eq_true (by unfold gE at *;unfold oc;omega)).symm)))
  have f:=oT d;refine lL a [.v 8 qT,.m 9 8] (lG 10 ?_);exact lG 11 (lL a [.v 12 qT,.m 2 12] (ac a [] qT (congrArg Mg (decide_eq_true (by unfold gE at *;unfold oc;omega)).symm)))
 have e:=oT i;refine lL a [.m 5 4] (lG 6 ?_);refine lG 7 (lL a [.v 8 qT,.m 9 8] (lG 10 ?_));exact lG 11 (lL a [.v 12 qT,.m 2 12] (ac a [] qT (congrArg Mg (decide_eq_true (by unfold gE at *;unfold oc;omega)).symm)))
theorem qY  (w:World)(h:Hp)(g:G w h):CR 134 #[] w h (fun v h1=>∃ b,v=.map (some b)∧MapS h1 b iZ):=by
 have a:=sS g;refine go Tryz.func134 [] rfl (aa a [.v 0 (.map none)] (aI (Jm 1 a (fun o w2 x a j=>HS 190 9 3 (⟨#[97,98,115]⟩) (iV 9) a j (fun y a k=>HS 190 9 3 (⟨#[114,97,109,112]⟩) (iV 10) a k (fun u a l=>HS 190 9 3 (⟨#[98,101,110,100]⟩) (iV 11) a l (fun z a c=>HS 190 9 3 (⟨#[109,97,120]⟩) (iV 12) a c (fun _ a e=>HS 190 9 3 (⟨#[109,105,110]⟩) (iV 13) a e (fun _ a d=>lL a [.m 2 1] ?_)))))))));obtain ⟨_,a,i⟩:=a.pubMap d;replace a:=a.to [] [];replace a:=a.add (K:=fun p=>MapS p o [⟨.string (⟨#[97,98,115]⟩),iV 9,0⟩,⟨.string (⟨#[114,97,109,112]⟩),iV 10,1⟩,⟨.string (⟨#[98,101,110,100]⟩),iV 11,2⟩,⟨.string (⟨#[109,97,120]⟩),iV 12,3⟩,⟨.string (⟨#[109,105,110]⟩),iV 13,4⟩]) i;exact lL a [.m 0 2] (ac a [] (.map (some o)) (⟨_,rfl,a.f.1⟩))
theorem En (s:ByteArray)(a:s.size≤1000000)(w:World)(h:Hp)(g:G w h):CV 79 #[.string s] w h (.bool (bI s)):=by
 have a:=sS g;refine go Tryz.func79 [(0,.string s)] rfl (aa a [.v 2 qF] (ah (aa a [.m 6 0,.v 7 (nV s.size)] ?_)));cases d:(decide ((s.size:Int)<(1:Int)))
 ·
  have z:=oF d;refine lB 8 d (lL a [.m 9 8,.m 10 0,.v 11 (nV s.size)] ?_);cases e:(decide ((20:Int)<(s.size:Int)))
  ·
   have y:=oF e;refine lB 12 e (lL a [.v 13 qF,.m 14 13,.m 15 0] (lV 16 (.int .u8 (aG s 0:Nat)) ?_ (hr:=ct (tx:=9) (x:=.tmp 15) (i:=.const (iV 0)) (k:=.i64) (s:=s) (n:=0) (j:=(0:Int)) kR kR kR kR oM oM _)));refine ag 17 a (kz ((aG s 0)) (co _ _) _ _ a.g) (fun w3 L a=>?_);cases D:(decide (gE ((aG s 0))))
   ·
    have B:=oF D;exact lL a [.v 18 qT,.v 19 qT] (ak (aa a [.v 2 qF] (ac a [] qF (m8 (fun b=>by have p:=b.1;have u:=b.2.1;first|omega|exact MO b.2.2 aM)))))
   have B:=oT D;refine lL a [.v 18 qF,.v 19 qF] (af (cK (cQ (aa a [.m 20 0,.v 21 (nV s.size),.v 22 (iV 0)] (a8 ?_)))));refine bH _ (CG.loop (fun H Γ S=>∃ (k:Nat) (b:Hp),H=s.size-k∧Γ=[(0,.string s),(21,nV s.size),(22,nV k)]∧SS w h S b [] [] []∧k≤s.size∧(∀ i,i<k→oc (aG s i))) _ ⟨0,L,rfl,rfl,a.to _ _,K7 _,(fun i hi=>MO hi (Mk i))⟩ ?_);rintro _ _ V ⟨k,W,J,rfl,a,X,l⟩;refine av ?_;cases c:(decide ((k:Int)<(s.size:Int)))
   ·
    have C:=oF c;refine lB 23 c (ah (cv (CG.exit ?_)))
    show CG _ _ _ _ _ _ _ _
    refine av (lC 32 a (qY _ _ a.g) ?_);rintro _ _ _ a ⟨Q,rfl,F⟩;replace a:=(a.add (K:=fun b=>MapS b Q iZ) F);refine lL a [.m 33 0] (Jc 34 190 9 3 (s) true (iV (dG s)) ((cM s)) a a.f.1 ?_ (hf:=(by rcases qZ s with ⟨i_,e1_,e2_⟩|⟨e1_,e2_,e3_⟩;exact .inl ⟨i_,e1_,e2_⟩;exact .inr ⟨e1_,e2_,fun _=>by rw[e3_];kernel_rfl⟩)));refine lL a [.m 31 34,.v 35 (iV (dG s)),.v 36 (.bool (cM s)),.m 4 35,.m 5 36] (aI (lL a [.m 37 5] ?_));cases za:(!(cM s))
    ·
     refine lB 38 za (lL a [.m 2 38] (lN (kX ?_)));have o:=CH (s:=s) ⟨by omega,by omega⟩ aM (fun i hi=>l i oM);exact a.ret [] qF (congrArg Mg (by rw[o];exact (by assumption:(!cM s)=false).symm))
    refine lB 38 za (lL a [.m 2 38] (lN (kX ?_)));have o:=CH (s:=s) ⟨by omega,by omega⟩ aM (fun i hi=>l i oM);exact a.ret [] qT (congrArg Mg (by rw[o];exact (by assumption:(!cM s)=true).symm))
   have C:=oT c;refine lB 23 c (ah (ce (cK (cQ (kZ (aa a [.m 24 22,.m 3 24] (aI (lL a [.m 25 0,.m 26 3] (lV 27 (.int .u8 (aG s k:Nat)) ?_ (hr:=ct (tx:=9) (x:=.tmp 25) (i:=.tmp 26) (k:=.i64) (s:=s) (n:=k) (j:=(k:Int)) kR kR kR kR oM oM _))))))))));refine ag 28 a (pK ((aG s k)) (co _ _) _ _ a.g) (fun _ M a=>?_);cases zb:(decide (oc ((aG s k))))
   ·
    have I:=oF zb;exact lL a [.v 29 qT] (ak (aa a [.v 2 qF] (ac a [] qF (Da (i:=k) oM aM))))
   have I:=oT zb;refine lL a [.v 29 qF] (af (cK (kQ (bD 30 ((k:Nat)+1) (k+1) ?_))));refine lL a [.m 22 30] (lD ?_);intro U O;refine ⟨_,_,?_,⟨k+1,M,rfl,rfl,a.to _ _,oM,(fun i hi=>by rcases Mm.1 hi with b|rfl;exact l i b;assumption)⟩,O.to _ kR⟩
   omega
  have y:=oT e;refine lB 12 e (lL a [.v 13 qT,.m 14 13] (lG 15 ?_));exact lG 16 (lG 17 (lG 18 (lL a [.v 19 qT] (ak (aa a [.v 2 qF] (ac a [] qF (m8 (fun b=>by have p:=b.1;have u:=b.2.1;first|omega|exact MO b.2.2 aM))))))))
 have z:=oT d;refine lB 8 d (lL a [.m 9 8] (lG 10 ?_));refine lG 11 (lG 12 (lL a [.v 13 qT,.m 14 13] (lG 15 ?_)));exact lG 16 (lG 17 (lG 18 (lL a [.v 19 qT] (ak (aa a [.v 2 qF] (ac a [] qF (m8 (fun b=>by have p:=b.1;have u:=b.2.1;first|omega|exact MO b.2.2 aM))))))))
theorem pO (c:Nat)(z:c<256)(w:World)(h:Hp)(g:G w h):CV 141 #[.int .u8 (c:Nat)] w h (.bool (decide (gE (c)))):=by
 have a:=sS g;refine go Tryz.func141 [(0,.int .u8 (c:Nat))] rfl (aa a [.v 2 qF] (aI (lL a [.m 3 0] ?_)));cases d:(decide ((97:Int)≤(c:Int)))
 ·
  have k:=oF d;refine lB 4 d (lL a [.m 5 4] (lG 6 ?_));refine lG 7 (lL a [.v 8 qF,.m 9 8,.m 10 0] ?_);cases f:(decide ((65:Int)≤(c:Int)))
  ·
   have i:=oF f;refine lB 11 f (lL a [.m 12 11] (lG 13 ?_));exact lG 14 (lL a [.v 15 qF,.v 16 qF,.m 2 16] (ac a [] qF (congrArg Mg (decide_eq_false (by unfold gE;omega)).symm)))
  have i:=oT f;refine lB 11 f (lL a [.m 12 11,.m 13 0] ?_);cases b:(decide ((c:Int)≤(90:Int)))
  ·
   have j:=oF b;exact lB 14 b (lL a [.v 15 qF,.v 16 qF,.m 2 16] (ac a [] qF (congrArg Mg (decide_eq_false (by unfold gE;omega)).symm)))
  have j:=oT b;exact lB 14 b (lL a [.v 15 qT,.v 16 qT,.m 2 16] (ac a [] qT (congrArg Mg (decide_eq_true (by unfold gE;omega)).symm)))
 have k:=oT d;refine lB 4 d (lL a [.m 5 4,.m 6 0] ?_);cases e:(decide ((c:Int)≤(122:Int)))
 ·
  have l:=oF e;refine lB 7 e (lL a [.v 8 qF,.m 9 8,.m 10 0] ?_);have ⟨u,y⟩:=dT (p:=(65:Int)≤(c:Int)) oM;refine lB 11 u (lL a [.m 12 11,.m 13 0] ?_);have ⟨o,x⟩:=dF (p:=(c:Int)≤(90:Int)) oM;exact lB 14 o (lL a [.v 15 qF,.v 16 qF,.m 2 16] (ac a [] qF (congrArg Mg (decide_eq_false (by unfold gE;omega)).symm)))
 have l:=oT e;refine lB 7 e (lL a [.v 8 qT,.m 9 8] (lG 10 ?_));exact lG 11 (lG 12 (lG 13 (lG 14 (lG 15 (lL a [.v 16 qT,.m 2 16] (ac a [] qT (congrArg Mg (decide_eq_true (by unfold gE;omega)).symm)))))))
theorem Ad (c:Nat)(i:c<256)(w:World)(h:Hp)(g:G w h):CV 142 #[.int .u8 (c:Nat)] w h (.bool (decide (48≤(c)∧(c)≤57))):=by
 have a:=sS g;refine go Tryz.func142 [(0,.int .u8 (c:Nat))] rfl (aa a [.v 2 qF] (aI (lL a [.m 3 0] ?_)));cases b:(decide ((48:Int)≤(c:Int)))
 ·
  have f:=oF b;refine lB 4 b (lL a [.m 5 4] (lG 6 ?_));exact lG 7 (lL a [.v 8 qF,.m 2 8] (ac a [] qF (congrArg Mg (decide_eq_false oM).symm)))
 have f:=oT b;refine lB 4 b (lL a [.m 5 4,.m 6 0] ?_);cases d:(decide ((c:Int)≤(57:Int)))
 ·
  have e:=oF d;exact lB 7 d (lL a [.v 8 qF,.m 2 8] (ac a [] qF (congrArg Mg (decide_eq_false oM).symm)))
 have e:=oT d;exact lB 7 d (lL a [.v 8 qT,.m 2 8] (ac a [] qT (congrArg Mg (decide_eq_true oM).symm)))
theorem Fo (s:ByteArray)(w:World)(h:Hp)(g:G w h):CV 143 #[.string s] w h (.tuple #[iV (dG s),iV (uM s)]):=by
 have a:=sS g;refine go Tryz.func143 [(0,.string s)] rfl (aa a [.v 2 (iV 0),.v 3 (iV 0)] (ah (aa a [.m 4 0] (a8 (av ?_)))));cases c:(kn s (⟨#[97,98,115]⟩))
 ·
  have k:=gL c;refine lB 6 c (lL a [.m 5 6] (af (av ?_)));cases e:(kn s (⟨#[114,97,109,112]⟩))
  ·
   have i:=gL e;refine lB 8 e (lL a [.m 7 8] (af (av ?_)));cases b:(kn s (⟨#[98,101,110,100]⟩))
   ·
    have j:=gL b;refine lB 10 b (lL a [.m 9 10] (af (av ?_)));cases d:(kn s (⟨#[109,97,120]⟩))
    ·
     have o:=gL d;refine lB 12 d (lL a [.m 11 12] (af (av ?_)));cases f:(kn s (⟨#[109,105,110]⟩))
     ·
      have l:=gL f;refine lB 14 f (lL a [.m 13 14] (af (cK (aa a [.v 2 (iV 0),.v 3 (iV 0)] (lN (kX ?_))))));have p:dG s=0:=by unfold dG;rw[MM (by assumption:¬s=⟨#[97,98,115]⟩),MM (by assumption:¬s=⟨#[114,97,109,112]⟩),MM (by assumption:¬s=⟨#[98,101,110,100]⟩),MM (by assumption:¬s=⟨#[109,97,120]⟩),MM (by assumption:¬s=⟨#[109,105,110]⟩)]
      exact a.ret [] (.tuple #[iV 0,iV 0]) (by unfold uM;rw[p];rfl)
     have l:=gW f;exact lB 14 f (lL a [.m 13 14] (ak (aa a [.v 2 (iV 13),.v 3 (iV 2)] (ac a [] (.tuple #[iV 13,iV 2]) (by rw[(by assumption:s=⟨#[109,105,110]⟩)];rfl)))))
    have o:=gW d;exact lB 12 d (lL a [.m 11 12] (ak (aa a [.v 2 (iV 12),.v 3 (iV 2)] (ac a [] (.tuple #[iV 12,iV 2]) (by rw[(by assumption:s=⟨#[109,97,120]⟩)];rfl)))))
   have j:=gW b;exact lB 10 b (lL a [.m 9 10] (ak (aa a [.v 2 (iV 11),.v 3 (iV 1)] (ac a [] (.tuple #[iV 11,iV 1]) (by rw[(by assumption:s=⟨#[98,101,110,100]⟩)];rfl)))))
  have i:=gW e;exact lB 8 e (lL a [.m 7 8] (ak (aa a [.v 2 (iV 10),.v 3 (iV 1)] (ac a [] (.tuple #[iV 10,iV 1]) (by rw[(by assumption:s=⟨#[114,97,109,112]⟩)];rfl)))))
 have k:=gW c;exact lB 6 c (lL a [.m 5 6] (ak (aa a [.v 2 (iV 9),.v 3 (iV 1)] (ac a [] (.tuple #[iV 9,iV 1]) (by rw[(by assumption:s=⟨#[97,98,115]⟩)];rfl)))))
theorem IJ (s:ByteArray)(a:s.size≤1000000)(w:World)(h:Hp)(g:G w h):CV 92 #[.string s] w h (.bool (bI s)):=by
 have a:=sS g;refine go Tryz.func92 [(0,.string s)] rfl (aa a [.v 2 qF] (ah (aa a [.m 6 0,.v 7 (nV s.size)] ?_)));cases e:(decide ((s.size:Int)<(1:Int)))
 ·
  have y:=oF e;refine lB 8 e (lL a [.m 9 8,.m 10 0,.v 11 (nV s.size)] ?_);cases f:(decide ((20:Int)<(s.size:Int)))
  ·
   have u:=oF f;refine lB 12 f (lL a [.v 13 qF,.m 14 13,.m 15 0] (lV 16 (.int .u8 (aG s 0:Nat)) ?_ (hr:=ct (tx:=9) (x:=.tmp 15) (i:=.const (iV 0)) (k:=.i64) (s:=s) (n:=0) (j:=(0:Int)) kR kR kR kR oM oM _)));refine ag 17 a (pO ((aG s 0)) (co _ _) _ _ a.g) (fun w3 Q a=>?_);cases D:(decide (gE ((aG s 0))))
   ·
    have z:=oF D;exact lL a [.v 18 qT,.v 19 qT] (ak (aa a [.v 2 qF] (ac a [] qF (m8 (fun b=>by have o:=b.1;have p:=b.2.1;first|omega|exact MO b.2.2 aM)))))
   have z:=oT D;refine lL a [.v 18 qF,.v 19 qF] (af (cK (cQ (aa a [.v 3 (iV 0)] (a8 ?_)))));refine bH _ (CG.loop (fun F Γ W=>∃ (k:Nat) (b:Hp),F=s.size-k∧Γ=[(0,.string s),(3,nV k)]∧SS w h W b [] [] []∧k≤s.size∧(∀ i,i<k→oc (aG s i))) _ ⟨0,Q,rfl,rfl,a.to _ _,K7 _,(fun i hi=>MO hi (Mk i))⟩ ?_);rintro _ _ X ⟨k,Y,O,rfl,a,Z,c⟩;refine cQ (aa a [.m 20 3,.m 21 0,.v 22 (nV s.size)] ?_);cases d:(decide ((k:Int)<(s.size:Int)))
   ·
    have C:=oF d;refine lB 23 d (af (CG.exit ?_))
    show CG _ _ _ _ _ _ _ _
    refine aa a [.m 45 0] (ag 46 a (Fo s _ _ a.g) (fun _ _ a=>lL a [.m 44 46,.v 47 (iV (dG s)),.v 48 (iV (uM s)),.m 4 47,.m 5 48] (aI (lL a [.m 49 4] ?_))));cases za:(((dG s):Int) == (0:Int))
    ·
     have L:=ae za;refine lB 50 za (lL a [.m 2 50] (lN (kX ?_)));have l:=CH (s:=s) ⟨by omega,by omega⟩ aM (fun i hi=>c i oM);exact a.ret [] qF (congrArg Mg (by rw[l];unfold cM;simp only[ne_eq,decide_not,MA];exact (decide_eq_false oM).symm))
    have L:=ML za;refine lB 50 za (lL a [.m 2 50] (lN (kX ?_)));have l:=CH (s:=s) ⟨by omega,by omega⟩ aM (fun i hi=>c i oM);exact a.ret [] qT (congrArg Mg (by rw[l];unfold cM;simp only[ne_eq,decide_not,MA];exact (decide_eq_true oM).symm))
   have C:=oT d;refine lB 23 d (ak (cK (cQ (kZ (aa a [.m 26 0,.m 27 3] (lV 28 (.int .u8 (aG s k:Nat)) ?_ (hr:=ct (tx:=9) (x:=.tmp 26) (i:=.tmp 27) (k:=.i64) (s:=s) (n:=k) (j:=(k:Int)) kR kR kR kR oM oM _)))))));refine ag 29 a (pO ((aG s k)) (co _ _) _ _ a.g) (fun _ M a=>?_);cases I:(decide (gE ((aG s k))))
   ·
    have S:=oF I;refine lL a [.v 30 qT,.m 31 30,.m 32 0,.m 33 3] (lV 34 (.int .u8 (aG s k:Nat)) ?_ (hr:=ct (tx:=9) (x:=.tmp 32) (i:=.tmp 33) (k:=.i64) (s:=s) (n:=k) (j:=(k:Int)) kR kR kR kR oM oM _));refine ag 35 a (Ad ((aG s k)) (co _ _) _ _ a.g) (fun _ K a=>?_);cases J:(decide (48≤((aG s k))∧((aG s k))≤57))
    ·
     have U:=oF J;refine lL a [.v 36 qT,.v 37 qT,.m 38 37,.m 39 0,.m 40 3] (lV 41 (.int .u8 (aG s k:Nat)) ?_ (hr:=ct (tx:=9) (x:=.tmp 39) (i:=.tmp 40) (k:=.i64) (s:=s) (n:=k) (j:=(k:Int)) kR kR kR kR oM oM _));cases zb:(((aG s k:Nat):Int) != (95:Int))
     ·
      have V:=aJ zb;refine lB 42 zb (lL a [.v 43 qF] (af (cK (kQ (lL a [.m 24 3] (bD 25 ((k:Nat)+1) (k+1) ?_))))));refine lL a [.m 3 25] (lD ?_);intro H B;refine ⟨_,_,?_,⟨k+1,K,rfl,rfl,a.to _ _,oM,(fun i hi=>by rcases Mm.1 hi with b|rfl;exact c i b;unfold oc;unfold gE at *;omega)⟩,B.to _ kR⟩
      omega
     have V:=aW zb;exact lB 42 zb (lL a [.v 43 qT] (ak (aa a [.v 2 qF] (ac a [] qF (Da (i:=k) oM (fun b=>by unfold oc at b;unfold gE at *;omega))))))
    have U:=oT J;refine lL a [.v 36 qF,.v 37 qF,.m 38 37] (lG 39 ?_);refine lG 40 (lG 41 (lG 42 (lL a [.v 43 qF] (af (cK (kQ (lL a [.m 24 3] (bD 25 ((k:Nat)+1) (k+1) ?_))))))));refine lL a [.m 3 25] (lD ?_);intro H B;refine ⟨_,_,?_,⟨k+1,K,rfl,rfl,a.to _ _,oM,(fun i hi=>by rcases Mm.1 hi with b|rfl;exact c i b;unfold oc;unfold gE at *;omega)⟩,B.to _ kR⟩
    omega
   have S:=oT I;refine lL a [.v 30 qF,.m 31 30] (lG 32 ?_);refine lG 33 (lG 34 (lG 35 (lG 36 (lL a [.v 37 qF,.m 38 37] (lG 39 ?_)))));refine lG 40 (lG 41 (lG 42 (lL a [.v 43 qF] (af (cK (kQ (lL a [.m 24 3] (bD 25 ((k:Nat)+1) (k+1) ?_))))))));refine lL a [.m 3 25] (lD ?_);intro H B;refine ⟨_,_,?_,⟨k+1,M,rfl,rfl,a.to _ _,oM,(fun i hi=>by rcases Mm.1 hi with b|rfl;exact c i b;unfold oc;unfold gE at *;omega)⟩,B.to _ kR⟩
   omega
  have u:=oT f;refine lB 12 f (lL a [.v 13 qT,.m 14 13] (lG 15 ?_));exact lG 16 (lG 17 (lG 18 (lL a [.v 19 qT] (ak (aa a [.v 2 qF] (ac a [] qF (m8 (fun b=>by have o:=b.1;have p:=b.2.1;first|omega|exact MO b.2.2 aM))))))))
 have y:=oT e;refine lB 8 e (lL a [.m 9 8] (lG 10 ?_));refine lG 11 (lG 12 (lL a [.v 13 qT,.m 14 13] (lG 15 ?_)));exact lG 16 (lG 17 (lG 18 (lL a [.v 19 qT] (ak (aa a [.v 2 qF] (ac a [] qF (m8 (fun b=>by have o:=b.1;have p:=b.2.1;first|omega|exact MO b.2.2 aM))))))))
def B0 (pb:Nat)(s:ByteArray)(t:Tm)(b:Nat)(bd:Int):Value→World→Hp→Prop:=fun v w' h'=>∃ (tb:Nat) (p:PTm),v=.pointer (some ⟨tb,0,none⟩)∧b≤s.size∧Own w' pb 116 [.string s,.int .i64 (b:Nat),.int .i64 bd]∧Seg h' tb 0 (bg p)∧PtH h' p t
def PC (nf bf:ByteArray→Option Rat)(f:FuncId)(n:Nat)(k:PKd):Prop:=∀ (pb:Nat) (s:ByteArray),s.size≤1000000→∀ (a:Nat),a≤s.size→∀ (bd:Int) (t:Tm) (b:Nat),dO nf bf s n k a=some (.ok t b)→∀ (w:World) (h:Hp),G w h→Own w pb 116 [.string s,nV a,iV bd]→h[pb]?=some junk→Calls Tryz.prog f #[pB pb] w (ef pb w h (B0 pb s t b bd))
theorem oQ  (b:Nat)(s:ByteArray)(W:s.size≤1000000)(a:Nat)(ha:a≤s.size)(K:Int)(w:World)(h:Hp)(g:G w h)(Y:Own w b 116 [.string s,nV a,iV K])(V:h[b]?=some junk):Calls Tryz.prog 61 #[pB b] w (ef b w h fun v w' _=>v=.int .u8 (aG s (sk s a):Nat)∧Own w' b 116 [.string s,nV (sk s a),iV K]):=by
 have d:UpM [b] w h w h:=UpM.refl g;obtain ⟨wz,u,c⟩:=SS.at_ g Y V;refine go Tryz.func61 [(0,pB b)] rfl (aa c [.v 2 (.int .u8 0)] (ah (kZ ?_)));refine bH _ (CG.loop (fun D Γ S=>∃ (k:Nat) (h_:Hp),D=s.size-k∧Γ=[(0,pB b),(2,.int .u8 0)]∧SS wz u S h_ [⟨b,116,[.string s,nV k,iV K]⟩] [] []∧a≤k∧k≤s.size∧UpM [b] w h S h_∧(∀ i,a≤i→i<k→BM (aG s i)=true)) _ ⟨a,h,rfl,rfl,c.to _ _,nR _,ha,d,(fun i h1 F=>MO h1 oM)⟩ ?_);rintro _ _ w1 ⟨k,F,hm3,rfl,c,z,B,d,f⟩;refine cQ (cQ (cR 22 [] mixed c ar ?_));refine eV 0 3 (pB b) (eV 1 4 (pB b) (eV 2 5 (qP b 1) (eO 3 6 [(0,1,1)] (nV k) c (eV 4 7 (pB b) (eV 5 8 (pB b) (eV 6 9 (pB b) (eO 7 10 [(0,0,1)] (.string s) c (eV 8 11 (nV s.size) ?_))))))));cases e:(decide ((k:Int)<(s.size:Int)))
 ·
  have y:=oF e;refine eB 9 12 e (eV 10 13 qF (eG 11 14 (eG 12 15 (eG 13 16 (eG 14 17 (eG 15 18 (eG 16 19 (eG 17 20 (eG 18 21 (eG 19 22 (eG 20 23 (eV 21 24 qF (iU c (fun w5 h6 u7 c=>?_))))))))))))));replace d:=d.trans (u7.m _);refine tN (cv (CG.exit ?_))
  show CG _ _ _ _ _ _ _ _
  refine cQ (cQ (cR 10 [] mixed c ar ?_));refine eV 0 32 (pB b) (eV 1 33 (pB b) (eV 2 34 (qP b 1) (eO 3 35 [(0,1,1)] (nV k) c (eV 4 36 (pB b) (eV 5 37 (pB b) (eV 6 38 (pB b) (eO 7 39 [(0,0,1)] (.string s) c (eV 8 40 (nV s.size) ?_))))))));have ⟨M,Q⟩:=dF (p:=(k:Int)<(s.size:Int)) oM;refine eB 9 41 M (iU c (fun w9 _ H c=>?_));replace d:=d.trans (H.m _);refine tN (cv (cK (aa c [.v 2 (.int .u8 0)] (lN (kX ?_)))));have l:sk s a=k:=pj z B f (by first|exact .inl oM|exact .inr (decide_eq_false oM));exact c.retM d [] (.int .u8 0) (by rw[l,sa oM];exact ⟨rfl,c.own 0⟩)
 have y:=oT e;refine eB 9 12 e (eV 10 13 qT (eV 11 14 (pB b) (eV 12 15 (pB b) (eV 13 16 (pB b) (eO 14 17 [(0,0,1)] (.string s) c (eV 15 18 (pB b) (eV 16 19 (pB b) (eV 17 20 (qP b 1) (eO 18 21 [(0,1,1)] (nV k) c (eV 19 22 (.int .u8 (aG s k:Nat)) ?_ (hv:=fun _=>ct (tx:=9) (x:=.tmp 17) (i:=.tmp 21) (k:=.i64) (s:=s) (n:=k) (j:=(k:Int)) kR kR kR kR oM oM _)))))))))));cases za:(((aG s k:Nat):Int) == (32:Int))
 ·
  have zb:=ae za;refine eB 20 23 za (eV 21 24 qF (iU c (fun _ _ I c=>?_)));replace d:=d.trans (I.m _);refine tN (cv (CG.exit ?_))
  show CG _ _ _ _ _ _ _ _
  refine cQ (cQ (cR 10 [] mixed c ar ?_));refine eV 0 32 (pB b) (eV 1 33 (pB b) (eV 2 34 (qP b 1) (eO 3 35 [(0,1,1)] (nV k) c (eV 4 36 (pB b) (eV 5 37 (pB b) (eV 6 38 (pB b) (eO 7 39 [(0,0,1)] (.string s) c (eV 8 40 (nV s.size) ?_))))))));have ⟨U,O⟩:=dT (p:=(k:Int)<(s.size:Int)) oM;refine eB 9 41 U (iU c (fun _ _ J c=>?_));replace d:=d.trans (J.m _);refine tN (ce (cQ (cR 9 [] mixed c ar ?_)));refine eV 0 42 (pB b) (eV 1 43 (pB b) (eV 2 44 (pB b) (eO 3 45 [(0,0,1)] (.string s) c (eV 4 46 (pB b) (eV 5 47 (pB b) (eV 6 48 (qP b 1) (eO 7 49 [(0,1,1)] (nV k) c (eV 8 50 (.int .u8 (aG s k:Nat)) ?_ (hv:=fun _=>ct (tx:=9) (x:=.tmp 45) (i:=.tmp 49) (k:=.i64) (s:=s) (n:=k) (j:=(k:Int)) kR kR kR kR oM oM _)))))))));refine iU c (fun _ _ L c=>?_);replace d:=d.trans (L.m _);refine tV 9 2 (.int .u8 (aG s k:Nat)) (tN (bH [(2,.int .u8 (aG s k:Nat))] ?_));refine kX ?_;have l:sk s a=k:=pj z B f (by first|exact .inl oM|exact .inr (decide_eq_false oM));exact c.retM d [] (.int .u8 (aG s k:Nat)) (by rw[l];exact ⟨rfl,c.own 0⟩)
 have zb:=ML za;refine eB 20 23 za (eV 21 24 qT (iU c (fun _ Z C c=>?_)));replace d:=d.trans (C.m _);refine tN (ce (cK (kZ (kQ (lL c [.m 25 0,.v 26 (pB b),.v 27 (qP b 1),.o 28 (nV k) 0 1 1] (bD 29 ((k:Nat)+1) (k+1) ?_))))));refine lL c [.v 30 (pB b),.v 31 (qP b 1)] (jv 0 1 ([nV (k+1)]) c (fun _ X c=>?_));replace d:=d.put X (pa.2 rfl) c.g;refine lD ?_;intro a_ ka;refine ⟨_,_,?_,⟨k+1,Z,rfl,rfl,c.to _ _,oM,oM,d,(fun i h1 F=>by rcases Mm.1 F with h_|rfl;exact f i h1 h_;exact decide_eq_true oM)⟩,ka.to _ kR⟩
 omega
theorem mR  (d:Nat)(s:ByteArray)(l:s.size≤1000000)(a:Nat)(ha:a≤s.size)(k:Int)(c:Nat)(F:c≠0)(w:World)(h:Hp)(g:G w h)(C:Own w d 116 [.string s,nV a,iV k])(z:h[d]?=some junk):Calls Tryz.prog 151 #[pB d,.int .u8 (c:Nat)] w (ef d w h fun v w' _=>(v=.bool true∧aG s (sk s a)=c∧sk s a<s.size∧Own w' d 116 [.string s,nV (sk s a+1),iV k])∨(v=.bool false∧aG s (sk s a)≠c∧Own w' d 116 [.string s,nV (sk s a),iV k])):=by
 have e:UpM [d] w h w h:=UpM.refl g;obtain ⟨wz,u,b⟩:=SS.at_ g C z;refine go Tryz.func151 [(0,pB d),(1,.int .u8 (c:Nat))] rfl (aa b [.v 4 qF] (ah (aa b [.m 5 0] ?_)));have p:=iE (s:=s) (a:=a) oM;refine d6 6 (oQ d s l a ha k _ _ b.g (b.own 0) (b.jk 0)) ?_;rintro _ w2 H x ⟨rfl,i⟩;replace b:=(b.stepM 0 x i).to [⟨d,116,[.string s,nV (sk s a),iV k]⟩] [];replace e:=e.trans x;refine lL b [.m 7 1] ?_;cases f:(((aG s (sk s a):Nat):Int) != (c:Int))
 ·
  have j:=aJ f;refine lB 8 f (af (cK (aa b [.m 9 0,.v 10 (pB d),.v 11 (qP d 1),.o 12 (nV (sk s a)) 0 1 1] (bD 13 ((sk s a:Nat)+1) ((sk s a)+1) ?_))));refine lL b [.v 14 (pB d),.v 15 (qP d 1)] (jv 0 1 ([nV ((sk s a)+1)]) b (fun D B b=>?_));replace e:=e.put B (pa.2 rfl) b.g;refine aI (lL b [.v 4 qT] (lN (kX ?_)));have y:=wu (s:=s) (a:=sk s a) oM;exact b.retM e [] qT (.inl ⟨rfl,by omega,by omega,b.own 0⟩)
 have j:=aW f;exact lB 8 f (ak (aa b [.v 4 qF] (lN (kX (b.retM e [] qF (.inr ⟨rfl,by omega,b.own 0⟩))))))
theorem Es (b:Nat)(s:ByteArray)(f:s.size≤1000000)(a:Nat)(ha:a≤s.size)(d:Int)(c:Nat)(k:c≠0)(e:sk s a=a)(w:World)(h:Hp)(g:G w h)(i:Own w b 116 [.string s,nV a,iV d])(j:h[b]?=some junk):Calls Tryz.prog 151 #[pB b,.int .u8 (c:Nat)] w (ef b w h fun v w' _=>(v=.bool true∧aG s a=c∧a<s.size∧Own w' b 116 [.string s,nV (a+1),iV d])∨(v=.bool false∧aG s a≠c∧Own w' b 116 [.string s,nV a,iV d])):=by
 have q:=mR b s f a ha d c k w h g i j;rw[e] at q;exact q
theorem k9 (b:Nat)(s:ByteArray)(f:s.size≤1000000)(a:Nat)(ha:a≤s.size)(i:Int)(c:Nat)(o:c≠0)(d:aG s (sk s a)=c)(w:World)(h:Hp)(g:G w h)(l:Own w b 116 [.string s,nV a,iV i])(k:h[b]?=some junk):Calls Tryz.prog 151 #[pB b,.int .u8 (c:Nat)] w (ef b w h fun v w' _=>v=.bool true∧sk s a<s.size∧Own w' b 116 [.string s,nV (sk s a+1),iV i]) :=
 (mR b s f a ha i c o w h g l k).mono fun e w' ⟨v,h',p,u,j⟩=>⟨v,h',p,u,by
  rcases j with ⟨h1,h2,h3,h4⟩|⟨h1,h2,h3⟩
  ·exact ⟨h1,h3,h4⟩
  ·exact MO d h2⟩
theorem Bt  (u:FuncId)(p:Nat→Bool)(H:∀ (args:Array Value) (w:World),(callFunc u args).run Tryz.prog w=.ok (.enter u args) w)(L:∀ c,c<256→∀ (w:World) (h:Hp),G w h→Calls Tryz.prog u #[.int .u8 (c:Nat)] w (Ret w h fun v _=>v=.bool (p c)))(b:Nat)(s:ByteArray)(X:s.size≤1000000)(a:Nat)(ha:a≤s.size)(Q:Int)(w:World)(h:Hp)(g:G w h)(Z:Own w b 116 [.string s,nV a,iV Q])(W:h[b]?=some junk):Calls Tryz.prog 205 #[pB b,.func (.func u) #[] #[]] w (ef b w h fun v w' _=>v=.string (s.extract a (rn p s a))∧Own w' b 116 [.string s,nV (rn p s a),iV Q]):=by
 have d:UpM [b] w h w h:=UpM.refl g;obtain ⟨wz,B,f⟩:=SS.at_ g Z W;refine go Tryz.func205 [(0,pB b),(1,.func (.func u) #[] #[])] rfl (aa f [.v 4 (eS)] (aI (lL f [.m 6 0,.v 7 (pB b),.v 8 (qP b 1),.o 9 (nV a) 0 1 1,.m 5 9] (ah (kZ ?_)))));refine bH _ (CG.loop (fun K Γ V=>∃ (k:Nat) (h_:Hp),K=s.size-k∧Γ=[(0,pB b),(1,.func (.func u) #[] #[]),(4,eS),(5,nV a)]∧SS wz B V h_ [⟨b,116,[.string s,nV k,iV Q]⟩] [] []∧a≤k∧k≤s.size∧UpM [b] w h V h_∧(∀ i,a≤i→i<k→p (aG s i)=true)) _ ⟨a,h,rfl,rfl,f.to _ _,nR _,ha,d,(fun i h1 M=>MO h1 oM)⟩ ?_);rintro _ _ w1 ⟨k,M,hm3,rfl,f,D,F,d,y⟩;refine cQ (cQ (cR 23 [] mixed f ar ?_));refine eV 0 10 (pB b) (eV 1 11 (pB b) (eV 2 12 (qP b 1) (eO 3 13 [(0,1,1)] (nV k) f (eV 4 14 (pB b) (eV 5 15 (pB b) (eV 6 16 (pB b) (eO 7 17 [(0,0,1)] (.string s) f (eV 8 18 (nV s.size) ?_))))))));cases l:(decide ((k:Int)<(s.size:Int)))
 ·
  have C:=oF l;refine eB 9 19 l (eV 10 20 qF (eG 11 21 (eG 12 22 (eG 13 23 (eG 14 24 (eG 15 25 (eG 16 26 (eG 17 27 (eG 18 28 (eG 19 29 (eG 20 30 (eG 21 31 (eV 22 32 qF (iU f (fun w5 h6 u7 f=>?_)))))))))))))));replace d:=d.trans (u7.m _);refine tN (cv (CG.exit ?_))
  show CG _ _ _ _ _ _ _ _
  refine cQ (cR 10 [] mixed f ar ?_);refine eV 0 40 (pB b) (eV 1 41 (pB b) (eV 2 42 (pB b) (eO 3 43 [(0,0,1)] (.string s) f (eV 4 44 (nV a) (eV 5 45 (pB b) (eV 6 46 (pB b) (eV 7 47 (qP b 1) (eO 8 48 [(0,1,1)] (nV k) f (eV 9 49 (.string (s.extract a k)) ?_ (hv:=fun _=>vD (tx:=9) (x:=.tmp 43) (i:=.tmp 44) (e:=.tmp 48) (k:=.i64) (k2:=.i64) (s:=s) (n:=a) (m:=k) (j:=(a:Int)) (j2:=(k:Int)) kR kR kR kR kR oM oM oM oM _))))))))));refine iU f (fun w8 h9 J f=>?_);replace d:=d.trans (J.m _);refine tV 10 4 (.string (s.extract a k)) (tN (kX ?_));have z:rn p s a=k:=pj D F y (by first|exact .inl oM|exact .inr aM);exact f.retM d [] (.string (s.extract a k)) (by rw[z];exact ⟨rfl,f.own 0⟩)
 have C:=oT l;refine eB 9 19 l (eV 10 20 qT (eV 11 21 (.func (.func u) #[] #[]) (eV 12 22 (pB b) (eV 13 23 (pB b) (eV 14 24 (pB b) (eO 15 25 [(0,0,1)] (.string s) f (eV 16 26 (pB b) (eV 17 27 (pB b) (eV 18 28 (qP b 1) (eO 19 29 [(0,1,1)] (nV k) f (eV 20 30 (.int .u8 (aG s k:Nat)) ?_ (hv:=fun _=>ct (tx:=9) (x:=.tmp 25) (i:=.tmp 29) (k:=.i64) (s:=s) (n:=k) (j:=(k:Int)) kR kR kR kR oM oM _))))))))))));refine FY 21 31 f d (fun _ _ f=>L ((aG s k)) (co _ _) _ _ f.g) ?_ (hv:=fun _=>Eq.trans kR (H _ _));rintro _ _ _ _ _ d f rfl;cases U:(p ((aG s k)))
 ·
  refine eV 22 32 qF (iU f (fun _ _ I f=>?_));replace d:=d.trans (I.m _);refine tN (cv (CG.exit ?_))
  show CG _ _ _ _ _ _ _ _
  refine cQ (cR 10 [] mixed f ar ?_);refine eV 0 40 (pB b) (eV 1 41 (pB b) (eV 2 42 (pB b) (eO 3 43 [(0,0,1)] (.string s) f (eV 4 44 (nV a) (eV 5 45 (pB b) (eV 6 46 (pB b) (eV 7 47 (qP b 1) (eO 8 48 [(0,1,1)] (nV k) f (eV 9 49 (.string (s.extract a k)) ?_ (hv:=fun _=>vD (tx:=9) (x:=.tmp 43) (i:=.tmp 44) (e:=.tmp 48) (k:=.i64) (k2:=.i64) (s:=s) (n:=a) (m:=k) (j:=(a:Int)) (j2:=(k:Int)) kR kR kR kR kR oM oM oM oM _))))))))));refine iU f (fun _ _ O f=>?_);replace d:=d.trans (O.m _);refine tV 10 4 (.string (s.extract a k)) (tN (kX ?_));have z:rn p s a=k:=pj D F y (by first|exact .inl oM|exact .inr aM);exact f.retM d [] (.string (s.extract a k)) (by rw[z];exact ⟨rfl,f.own 0⟩)
 refine eV 22 32 qT (iU f (fun _ za S f=>?_));replace d:=d.trans (S.m _);refine tN (ce (cK (kZ (kQ (lL f [.m 33 0,.v 34 (pB b),.v 35 (qP b 1),.o 36 (nV k) 0 1 1] (bD 37 ((k:Nat)+1) (k+1) ?_))))));refine lL f [.v 38 (pB b),.v 39 (qP b 1)] (jv 0 1 ([nV (k+1)]) f (fun _ Y f=>?_));replace d:=d.put Y (pa.2 rfl) f.g;refine lD ?_;intro a_ ka;refine ⟨_,_,?_,⟨k+1,za,rfl,rfl,f.to _ _,oM,oM,d,(fun i h1 M=>by rcases Mm.1 M with h_|rfl;exact y i h1 h_;exact aM)⟩,ka.to _ kR⟩
 omega
theorem Dp (op:Int)(i e:PTm)(w:World)(h:Hp)(g:G w h):CR 152 #[iV op,az i,az e] w h (fun v h1=>∃ b,v=az ⟨op,0,0,⟨#[]⟩,sB b,2,2⟩∧SlO 9 bg au h1 (sB b) [i,e]):=by
 have a:=sS g;refine go Tryz.func152 [(0,iV op),(1,az i),(2,az e)] rfl (av (lA 4 43 (bg i) a (fun p w2 u a=>lA 5 43 (bg e) a (fun y x k a=>lA 6 43 dS a (fun B j z a=>aI (lL a [.m 7 0,.o 8 (az i) 2 0 9,.o 9 (az e) 1 0 9] (lR 10 43 2 ([iV i.op,iV i.n,.bool (ai i.q.num),uV (lo (ab i.q.num)),.string (hi (ab i.q.num)),uV (lo (qd i.q)),.string (hi (qd i.q)),.string i.s,qS i.A i.m i.c,iV e.op,iV e.n,.bool (ai e.q.num),uV (lo (ab e.q.num)),.string (hi (ab e.q.num)),uV (lo (qd e.q)),.string (hi (qd e.q)),.string e.s,qS e.A e.m e.c]) a (fun za _ _ a=>?_))))))));replace a:=a.aS (SlO.of_flat (sz:=9) (f:=bg) (d:=au) (b:=za) (o:=0) (l:=([i,e]:List PTm)) (fun _=>rfl) a.f.1);exact lL a [.v 11 (.agg #[iV op,iV 0,qF,uV 0,eS,uV 0,eS,eS,qS (sB za) 2 2])] (lP 0 0 ([iV op,iV 0,qF,uV 0,eS,uV 0,eS,eS,qS (sB za) 2 2]) a (fun _ a=>ac a [(0,0,9)] (.agg #[iV op,iV 0,qF,uV 0,eS,uV 0,eS,eS,qS (sB za) 2 2]) (⟨_,rfl,a.f.1⟩)))
theorem xe (op:Int)(c:PTm)(w:World)(h:Hp)(g:G w h):CR 84 #[iV op,az c] w h (fun v h1=>∃ b,v=az ⟨op,0,0,⟨#[]⟩,sB b,1,1⟩∧SlO 9 bg au h1 (sB b) [c]):=by
 have a:=sS g;refine go Tryz.func84 [(0,iV op),(1,az c)] rfl (av (lA 3 43 (bg c) a (fun j w2 x a=>lA 4 43 dS a (fun k y p a=>aI (lL a [.m 5 0,.o 6 (az c) 1 0 9] (lR 7 43 1 (pC c) a (fun e i u a=>?_)))))));replace a:=a.aS (SlO.of_flat (sz:=9) (f:=bg) (d:=au) (b:=e) (o:=0) (l:=([c]:List PTm)) (fun _=>rfl) a.f.1);exact lL a [.v 8 (.agg #[iV op,iV 0,qF,uV 0,eS,uV 0,eS,eS,qS (sB e) 1 1])] (lP 0 0 ([iV op,iV 0,qF,uV 0,eS,uV 0,eS,eS,qS (sB e) 1 1]) a (fun _ a=>ac a [(0,0,9)] (.agg #[iV op,iV 0,qF,uV 0,eS,uV 0,eS,eS,qS (sB e) 1 1]) (⟨_,rfl,a.f.1⟩)))
theorem Bh (q:Rat)(w:World)(h:Hp)(g:G w h):CR 82 #[qv q] w h (fun v h1=>∃ p,v=az p∧PtH h1 p (fx q)):=by
 have a:=sS g;exact go Tryz.func82 [(0,qv q)] rfl (av (lA 1 40 (qc q) a (fun b w2 f a=>lA 2 43 dS a (fun c i d a=>aI (lL a [.o 3 (qv q) 1 0 5,.v 4 (.agg #[iV 1,iV 0,.bool (ai q.num),uV (lo (ab q.num)),.string (hi (ab q.num)),uV (lo (qd q)),.string (hi (qd q)),eS,sZ])] (lP 0 0 ([iV 1,iV 0,.bool (ai q.num),uV (lo (ab q.num)),.string (hi (ab q.num)),uV (lo (qd q)),.string (hi (qd q)),eS,sZ]) a (fun e a=>ac a [(0,0,9)] (.agg #[iV 1,iV 0,.bool (ai q.num),uV (lo (ab q.num)),.string (hi (ab q.num)),uV (lo (qd q)),.string (hi (qd q)),eS,sZ]) (⟨⟨1,0,q,⟨#[]⟩,none,0,0⟩,rfl,PtH.num⟩))))))))
theorem EK (op:Int)(c a:PTm)(t u:Tm)(w:World)(h:Hp)(g:G w h)(x:PtH h c t)(y:PtH h a u):CR 152 #[iV op,az c,az a] w h (fun v h1=>∃ p,v=az p∧PtH h1 p (dH op t u)) :=
 (Dp op c a w h g).mono fun e w' ⟨v,h',e1,up,b,e2,d⟩=>⟨v,h',e1,up,_,e2,(x.gw up.gr.gw).two (y.gw up.gr.gw) d⟩
theorem Cp (op:Int)(a:PTm)(t:Tm)(w:World)(h:Hp)(g:G w h)(x:PtH h a t):CR 84 #[iV op,az a] w h (fun v h1=>∃ p,v=az p∧PtH h1 p (nT op t)) :=
 (xe op a w h g).mono fun e w' ⟨v,h',e1,up,b,e2,c⟩=>⟨v,h',e1,up,_,e2,(x.gw up.gr.gw).one c⟩
section
variable {nf bf:ByteArray→Option Rat} (n:Nat)
theorem xb  (lv:Bool)(fp:FuncId)(hen:∀ (args:Array Value) (w:World),(callFunc fp args).run Tryz.prog w=.ok (.enter fp args) w)(hp:∀ m,m≤n→PC nf bf fp m (part lv))(i:Nat)(s:ByteArray)(S:s.size≤1000000)(a:Nat)(ha:a≤s.size)(z:Int)(t:Tm)(b:Nat)(hq:dO nf bf s (n+1) (uv lv) a=some (.ok t b))(w:World)(h:Hp)(g:G w h)(ho:Own w i 116 [.string s,nV a,iV z])(hj:h[i]?=some junk):Calls Tryz.prog 97 #[pB i,.func (.func fp) #[pB i] #[],.int .u8 (c1 lv:Nat),iV (x3 lv),.int .u8 (c2 lv:Nat),iV (sl lv)] w (ef i w h (B0 i s t b z)):=by
 have d:UpM [i] w h w h:=UpM.refl g;obtain ⟨wz,cx,c⟩:=SS.at_ g ho hj;obtain ⟨t1,b1,hq1,hq2⟩:=BV hq;have cm:c1 lv≠0:=by cases lv<;>decide
 have cr:c2 lv≠0:=by cases lv<;>decide
 refine go Tryz.func97 [(0,pB i),(1,.func (.func fp) #[pB i] #[]),(2,.int .u8 (c1 lv:Nat)),(3,iV (x3 lv)),(4,.int .u8 (c2 lv:Nat)),(5,iV (sl lv))] rfl (aa c [.v 12 (.pointer none)] (aI (lL c [.m 17 1] (d6 18 (hp n (nR _) i s S a ha z t1 b1 hq1 _ _ c.g (c.own 0) (c.jk 0)) ?_ (hr:=Eq.trans kR (hen _ _))))));rintro _ w2 h3 u4 ⟨I,F,rfl,b5,cc,cq,cz⟩;replace c:=(c.stepM 0 u4 cc).to [⟨i,116,[.string s,nV b1,iV z]⟩] [];replace d:=d.trans u4;replace c:=((c.a_Seg cq).add (K:=fun e=>PtH e F t1) cz);refine lL c [.m 13 18] (ah (kZ ?_));replace c:=c.add (K:=fun e=>PtH e F t1) (c.f.1);replace c:=c.add (K:=fun e=>Seg e I 0 (bg F)) (c.f.r.1);refine bH _ (CG.loop (fun μ_ Γ w_=>∃ (m:Nat) (X:Nat) (p:PTm) (u:Tm) (k:Nat) (e:Hp),μ_=m∧Γ=[(0,pB i),(1,.func (.func fp) #[pB i] #[]),(2,.int .u8 (c1 lv:Nat)),(3,iV (x3 lv)),(4,.int .u8 (c2 lv:Nat)),(5,iV (sl lv)),(13,pB X)]∧SS wz cx w_ e [⟨i,116,[.string s,nV k,iV z]⟩] [] [fun e=>Seg e X 0 (bg p),fun e=>PtH e p u,fun e=>PtH e F t1,fun e=>Seg e I 0 (bg F)]∧m≤n∧k≤s.size∧UpM [i] w h w_ e∧dO nf bf s m (.more lv u) k=some (.ok t b)) _ ⟨n,I,F,t1,b1,h3,rfl,rfl,c.to _ _,nR _,b5,d,hq2⟩ ?_);rintro _ _ w5 ⟨m,X,p,u,k,h6,hm7,rfl,c,hm,hk,d,hq⟩;obtain ⟨m1,rfl⟩:=B7 hq;have c7:=iE (s:=s) (a:=k) hk;refine cQ (aa c [.m 19 13,.v 20 qT] (ak (cK (kZ (aa c [.v 14 (iV 0)] (ah (aa c [.m 21 0,.m 22 2] ?_)))))));have c6:=iE (s:=s) (a:=k) oM;refine d6 23 (mR i s S k oM z (c1 lv) cm _ _ c.g (c.own 0) (c.jk 0)) ?_;rintro _ w9 _ W (⟨rfl,J,c8,V⟩|⟨rfl,J,V⟩)
 ·
  replace c:=(c.stepM 0 W V).to [⟨i,116,[.string s,nV (sk s k+1),iV z]⟩] [];replace d:=d.trans W;obtain ⟨H,Z,b6,cy⟩:=tw hq J;refine ak (kQ (lL c [.m 24 3,.m 14 24] (aI (lL c [.m 30 1] (d6 31 (hp m1 oM i s S (sk s k+1) oM z H Z b6 _ _ c.g (c.own 0) (c.jk 0)) ?_ (hr:=Eq.trans kR (hen _ _)))))));rintro _ _ _ u15 ⟨O,M,rfl,b0,bw,bm,bn⟩;replace c:=(c.stepM 0 u15 bw).to [⟨i,116,[.string s,nV Z,iV z]⟩] [];replace d:=d.trans u15;replace c:=((c.a_Seg bm).add (K:=fun e=>PtH e M H) bn);refine lL c [.m 15 31] (ah (aa c [.m 32 15,.v 33 qF] (af (cK (cQ ?_)))));have hsr:=c;have U:=d.gr.size;refine cR 9 [⟨8,16,.cells (Lu [iV 0,iV 0,qF,uV 0,eS,uV 0,eS,eS,sZ]) 43 (0,0)⟩] mixed c (bW (fA kR (fun _ _=>by kernel_rfl)) ar) (eV 0 34 (iV (x3 lv)) (eV 1 35 (pB X) (eV 2 36 (pB X) (eH 3 37 (az p) c c.f.r.1 (eV 4 38 (pB O) (eV 5 39 (pB O) (eH 6 40 (az M) c c.f.2.1 (FY 7 41 c d (fun _ _ c=>EK (x3 lv) p M u H _ _ c.g c.f.r.2.1 c.f.1) ?_))))))));rintro _ _ _ _ _ d c ⟨l,rfl,bb⟩;replace c:=(c.add (K:=fun e=>PtH e l (dH (x3 lv) u H)) bb);refine Hd [] hsr c d U 43 [iV 0,iV 0,qF,uV 0,eS,uV 0,eS,eS,sZ] (fun _ _ za d y c=>IK 9 0 0 (bg l) c (fun _ pu c=>?_));replace d:=d.put2 pu y g c.g;refine tN ?_;obtain ⟨zc,c,d,ch⟩:=c.pubM d 0 y;replace c:=c.to [⟨i,116,[.string s,nV Z,iV z]⟩] [];have b7:Seg zc za 0 (bg l):=ch;replace c:=c.a_Seg b7;refine kQ (lL c [.m 13 16] (lD ?_));intro a_ ka;replace c:=((c.tl.tl.tl.tl.tl.tl.add (K:=fun e=>PtH e l (dH (x3 lv) u H)) c.f.2.1).add (K:=fun e=>Seg e za 0 (bg l)) c.f.1);refine ⟨_,_,?_,⟨m1,za,l,dH (x3 lv) u H,Z,zc,rfl,rfl,c.to _ _,oM,b0,d,cy⟩,ka.to _ kR⟩
  omega
 replace c:=(c.stepM 0 W V).to [⟨i,116,[.string s,nV (sk s k),iV z]⟩] [];replace d:=d.trans W;have hcF:=J;refine af (aa c [.m 25 0,.m 26 4] ?_);have c4:=iE (s:=s) (a:=(sk s k)) oM;refine d6 27 (Es i s S (sk s k) oM z (c2 lv) cr (G1 _ _) _ _ c.g (c.own 0) (c.jk 0)) ?_;rintro _ _ _ Y (⟨rfl,C,c5,B⟩|⟨rfl,C,B⟩)
 ·
  replace c:=(c.stepM 0 Y B).to [⟨i,116,[.string s,nV ((sk s k)+1),iV z]⟩] [];replace d:=d.trans Y;obtain ⟨j,D,b2,bq⟩:=sO hq hcF C;refine ak (kQ (lL c [.m 28 5,.m 14 28] (aI (lL c [.m 30 1] (d6 31 (hp m1 oM i s S ((sk s k)+1) oM z j D b2 _ _ c.g (c.own 0) (c.jk 0)) ?_ (hr:=Eq.trans kR (hen _ _)))))));rintro _ _ _ u40 ⟨Q,L,rfl,br,bt,bk,b3⟩;replace c:=(c.stepM 0 u40 bt).to [⟨i,116,[.string s,nV D,iV z]⟩] [];replace d:=d.trans u40;replace c:=((c.a_Seg bk).add (K:=fun e=>PtH e L j) b3);refine lL c [.m 15 31] (ah (aa c [.m 32 15,.v 33 qF] (af (cK (cQ ?_)))));have hsr:=c;have U:=d.gr.size;refine cR 9 [⟨8,16,.cells (Lu [iV 0,iV 0,qF,uV 0,eS,uV 0,eS,eS,sZ]) 43 (0,0)⟩] mixed c (bW (fA kR (fun _ _=>by kernel_rfl)) ar) (eV 0 34 (iV (sl lv)) (eV 1 35 (pB X) (eV 2 36 (pB X) (eH 3 37 (az p) c c.f.r.1 (eV 4 38 (pB Q) (eV 5 39 (pB Q) (eH 6 40 (az L) c c.f.2.1 (FY 7 41 c d (fun _ _ c=>EK (sl lv) p L u j _ _ c.g c.f.r.2.1 c.f.1) ?_))))))));rintro _ _ _ _ _ d c ⟨o,rfl,bl⟩;replace c:=(c.add (K:=fun e=>PtH e o (dH (sl lv) u j)) bl);refine Hd [] hsr c d U 43 [iV 0,iV 0,qF,uV 0,eS,uV 0,eS,eS,sZ] (fun _ _ zb d x c=>IK 9 0 0 (bg o) c (fun _ pu c=>?_));replace d:=d.put2 pu x g c.g;refine tN ?_;obtain ⟨zd,c,d,b9⟩:=c.pubM d 0 x;replace c:=c.to [⟨i,116,[.string s,nV D,iV z]⟩] [];have c3:Seg zd zb 0 (bg o):=b9;replace c:=c.a_Seg c3;refine kQ (lL c [.m 13 16] (lD ?_));intro a_ ka;replace c:=((c.tl.tl.tl.tl.tl.tl.add (K:=fun e=>PtH e o (dH (sl lv) u j)) c.f.2.1).add (K:=fun e=>Seg e zb 0 (bg o)) c.f.1);refine ⟨_,_,?_,⟨m1,zb,o,dH (sl lv) u j,D,zd,rfl,rfl,c.to _ _,oM,br,d,bq⟩,ka.to _ kR⟩
  omega
 replace c:=(c.stepM 0 Y B).to [⟨i,116,[.string s,nV (sk s k),iV z]⟩] [];replace d:=d.trans Y;have b4:=C;refine af (aa c [.m 29 13,.m 12 29] (lN (kX ?_)));obtain ⟨ht_,hb_⟩:=tz hq hcF b4;exact c.retM d [] (pB X) (by rw[ht_];rw[hb_];exact ⟨X,p,rfl,by first|assumption|omega,c.own 0,c.f.1,c.f.2.1⟩)
theorem Ie  (H:∀ m,m≤n→PC nf bf 98 m .prod)(d:Nat)(s:ByteArray)(u:s.size≤1000000)(a:Nat)(ha:a≤s.size)(p:Int)(t:Tm)(b:Nat)(C:dO nf bf s (n+1) .sum a=some (.ok t b))(w:World)(h:Hp)(g:G w h)(F:Own w d 116 [.string s,nV a,iV p])(B:h[d]?=some junk):Calls Tryz.prog 60 #[pB d] w (ef d w h (B0 d s t b p)):=by
 have i:UpM [d] w h w h:=UpM.refl g;obtain ⟨wz,x,c⟩:=SS.at_ g F B;refine go Tryz.func60 [(0,pB d)] rfl (aa c [.v 2 (.pointer none)] (aI (lL c [.m 3 0,.m 4 0,.v 5 (.func (.func 98) #[pB d] #[])] (d6 6 (xb n false 98 (fun _ _=>by kernel_rfl) H d s u a ha p t b C _ _ c.g (c.own 0) (c.jk 0)) ?_))));rintro _ w2 I z ⟨e,j,rfl,y,k,l,o⟩;replace c:=(c.stepM 0 z k).to [⟨d,116,[.string s,nV b,iV p]⟩] [];replace i:=i.trans z;replace c:=((c.a_Seg l).add (K:=fun D=>PtH D j t) o);exact lL c [.m 2 6] (lN (kX (c.retM i [] (pB e) (by exact ⟨e,j,rfl,by first|assumption|omega,c.own 0,c.f.2.1,c.f.1⟩))))
theorem xC  (H:∀ m,m≤n→PC nf bf 153 m .sign)(d:Nat)(s:ByteArray)(u:s.size≤1000000)(a:Nat)(ha:a≤s.size)(p:Int)(t:Tm)(b:Nat)(C:dO nf bf s (n+1) .prod a=some (.ok t b))(w:World)(h:Hp)(g:G w h)(F:Own w d 116 [.string s,nV a,iV p])(B:h[d]?=some junk):Calls Tryz.prog 98 #[pB d] w (ef d w h (B0 d s t b p)):=by
 have i:UpM [d] w h w h:=UpM.refl g;obtain ⟨wz,x,c⟩:=SS.at_ g F B;refine go Tryz.func98 [(0,pB d)] rfl (aa c [.v 2 (.pointer none)] (aI (lL c [.m 3 0,.m 4 0,.v 5 (.func (.func 153) #[pB d] #[])] (d6 6 (xb n true 153 (fun _ _=>by kernel_rfl) H d s u a ha p t b C _ _ c.g (c.own 0) (c.jk 0)) ?_))));rintro _ w2 I z ⟨e,j,rfl,y,k,l,o⟩;replace c:=(c.stepM 0 z k).to [⟨d,116,[.string s,nV b,iV p]⟩] [];replace i:=i.trans z;replace c:=((c.a_Seg l).add (K:=fun D=>PtH D j t) o);exact lL c [.m 2 6] (lN (kX (c.retM i [] (pB e) (by exact ⟨e,j,rfl,by first|assumption|omega,c.own 0,c.f.2.1,c.f.1⟩))))
theorem AE  (Z:PC nf bf 153 n .sign)(X:PC nf bf 180 n .pow)(i:Nat)(s:ByteArray)(y:s.size≤1000000)(a:Nat)(ha:a≤s.size)(o:Int)(t:Tm)(b:Nat)(hq:dO nf bf s (n+1) .sign a=some (.ok t b))(w:World)(h:Hp)(g:G w h)(ho:Own w i 116 [.string s,nV a,iV o])(hj:h[i]?=some junk):Calls Tryz.prog 153 #[pB i] w (ef i w h (B0 i s t b o)):=by
 have d:UpM [i] w h w h:=UpM.refl g;obtain ⟨wz,bl,c⟩:=SS.at_ g ho hj;refine go Tryz.func153 [(0,pB i)] rfl (aa c [.v 2 (.pointer none)] (ah (aa c [.m 5 0] ?_)));have bb:=iE (s:=s) (a:=a) oM;refine d6 6 (mR i s y a ha o 45 kD _ _ c.g (c.own 0) (c.jk 0)) ?_;rintro _ w2 h3 U (⟨rfl,k,bm,j⟩|⟨rfl,k,j⟩)
 ·
  replace c:=(c.stepM 0 U j).to [⟨i,116,[.string s,nV (sk s a+1),iV o]⟩] [];replace d:=d.trans U;obtain ⟨V,hv1,ht_⟩:=Cl hq k;refine lL c [.v 7 qF] (af (cK (aa c [.m 10 0] (d6 11 (Z i s y (sk s a+1) oM o V b hv1 _ _ c.g (c.own 0) (c.jk 0)) ?_))));rintro _ w6 h7 u8 ⟨H,z,rfl,bn,Q,S,J⟩;replace c:=(c.stepM 0 u8 Q).to [⟨i,116,[.string s,nV b,iV o]⟩] [];replace d:=d.trans u8;replace c:=((c.a_Seg S).add (K:=fun L=>PtH L z V) J);refine lL c [.m 3 11] (ah (aa c [.m 12 3,.v 13 qF] (af (cK (aa c [.m 14 3,.v 15 (pB H)] (lH 16 (az z) c c.f.2.1 ?_))))));refine gy 17 (Cp 7 z V _ _ c.g c.f.1) ?_;rintro _ _ _ O ⟨p,rfl,D⟩;replace d:=d.trans (O.m _);replace c:=c.step O;replace c:=(c.add (K:=fun L=>PtH L p (nT 7 V)) D);refine x4 4 43 dS c (fun za _ _ Y e c=>?_);replace e:=ez d.gr.size e;replace d:=d.trans (Y.m _);refine jv 0 0 (bg p) c (fun _ pu c=>?_);replace d:=d.put2 pu e g c.g;refine aI (lL c [.m 2 4] (lN (kX ?_)));obtain ⟨zb,c,d,M⟩:=c.pubM d 0 e;replace c:=c.to [⟨i,116,[.string s,nV b,iV o]⟩] [];have F:Seg zb za 0 (bg p):=M;replace c:=c.a_Seg F;exact c.retM d [] (pB za) (by rw[ht_];exact ⟨za,p,rfl,by first|assumption|omega,c.own 0,c.f.1,c.f.2.1⟩)
 replace c:=(c.stepM 0 U j).to [⟨i,116,[.string s,nV (sk s a),iV o]⟩] [];replace d:=d.trans U;have W:=k;refine lL c [.v 7 qT] (ak (aa c [.m 8 0] (d6 9 (X i s y (sk s a) oM o t b (tp hq W) _ _ c.g (c.own 0) (c.jk 0)) ?_)));rintro _ _ _ I ⟨l,u,rfl,bk,B,x,C⟩;replace c:=(c.stepM 0 I B).to [⟨i,116,[.string s,nV b,iV o]⟩] [];replace d:=d.trans I;replace c:=((c.a_Seg x).add (K:=fun L=>PtH L u t) C);exact lL c [.m 2 9] (lN (kX (c.retM d [] (pB l) (by exact ⟨l,u,rfl,by first|assumption|omega,c.own 0,c.f.2.1,c.f.1⟩))))
end
theorem Ii (c:Nat)(i:c<256)(w:World)(h:Hp)(g:G w h):CV 230 #[.int .u8 (c:Nat)] w h (.bool (mg c)):=by
 have a:=sS g;refine go Tryz.func230 [(0,.int .u8 (c:Nat))] rfl (aa a [.v 2 qF] (aI (lL a [.m 3 0] (ag 4 a (jE c i _ _ a.g) (fun w1 j a=>?_)))));cases e:(decide (48≤c∧c≤57))
 ·
  have d:=oF e;refine lL a [.m 5 4,.m 6 0] ?_;cases b:((c:Int) == (46:Int))
  ·
   have f:=ae b;exact lB 7 b (lL a [.v 8 qF,.m 2 8] (ac a [] qF (congrArg Mg (decide_eq_false oM).symm)))
  have f:=ML b;exact lB 7 b (lL a [.v 8 qT,.m 2 8] (ac a [] qT (congrArg Mg (decide_eq_true oM).symm)))
 have d:=oT e;refine lL a [.m 5 4] (lG 6 ?_);exact lG 7 (lL a [.v 8 qT,.m 2 8] (ac a [] qT (congrArg Mg (decide_eq_true oM).symm)))
theorem PtH.setN {h:Hp}{p:PTm}{op n:Int}{q:Rat}{s:ByteArray}{ks:List Tm}(x:PtH h p (.mk op n q s ks))(m:Int):PtH h ⟨p.op,m,p.q,p.s,p.A,p.m,p.c⟩ (.mk op m q s ks):=by
 obtain ⟨d,x⟩:=x
 match d,x with
 | d+1,⟨h1,_,h3,h4,h5,h6,h7⟩=>exact ⟨d+1,h1,rfl,h3,h4,h5,h6,h7⟩
theorem xF {x:ByteArray}(h:cM x=true):9≤dG x∧dG x≤13:=by
 have h:=oT h
 revert h
 unfold dG
 repeat' split
 all_goals intro h;first|(constructor<;>decide)|exact MO rfl h
theorem BB {op:Int}(h:9≤op∧op≤13):((op=12∨op=13)∧d8 op=2)∨(¬(op=12∨op=13)∧d8 op=1):=by
 have:=aE op
 omega
def Jd (nf bf:ByteArray→Option Rat)(n:Nat):Prop:=∀ (op:Int),9≤op∧op≤13→∀ (pb:Nat) (s:ByteArray),s.size≤1000000→∀ (a:Nat),a≤s.size→∀ (bd:Int) (t:Tm) (b:Nat),dO nf bf s n (.call op) a=some (.ok t b)→∀ (w:World) (h:Hp),G w h→Own w pb 116 [.string s,nV a,iV bd]→h[pb]?=some junk→Calls Tryz.prog 231 #[pB pb,iV op] w (ef pb w h (B0 pb s t b bd))
def Eo (nf:ByteArray→Option Rat):Prop:=∀ x q,nf x=some q→∀ (w:World) (h:Hp),G w h→CV 229 #[.string x] w h (.tuple #[qv q,.bool true])
def E8:Prop:=∀ (x:ByteArray) (k:Nat),x.size≤3→kl x=some k→∀ (w:World) (h:Hp),G w h→CV 206 #[.string x] w h (.tuple #[nv k,.bool true])
section
variable {nf bf:ByteArray→Option Rat} (n:Nat)
theorem DW  (hnp:E8)(iha:PC nf bf 204 n .atom)(y:Nat)(s:ByteArray)(L:s.size≤1000000)(a:Nat)(ha:a≤s.size)(H:Int)(t:Tm)(b:Nat)(hq:dO nf bf s (n+1) .pow a=some (.ok t b))(w:World)(h:Hp)(g:G w h)(ho:Own w y 116 [.string s,nV a,iV H])(hj:h[y]?=some junk):Calls Tryz.prog 180 #[pB y] w (ef y w h (B0 y s t b H)):=by
 have e:UpM [y] w h w h:=UpM.refl g;obtain ⟨wz,b6,d⟩:=SS.at_ g ho hj;obtain ⟨v1,e1,hv1,hP0,hP1⟩:=By hq;refine go Tryz.func180 [(0,pB y)] rfl (aa d [.v 2 (.pointer none)] (aI (lL d [.m 12 0] (d6 13 (iha y s L a ha H v1 e1 hv1 _ _ d.g (d.own 0) (d.jk 0)) ?_))));rintro _ w2 h3 u4 ⟨F,O,rfl,b3,bq,bt,bw⟩;replace d:=(d.stepM 0 u4 bq).to [⟨y,116,[.string s,nV e1,iV H]⟩] [];replace e:=e.trans u4;replace d:=((d.a_Seg bt).add (K:=fun h_=>PtH h_ O v1) bw);refine lL d [.m 3 13] (ah (aa d [.m 14 3,.v 15 qF,.m 16 15,.m 17 0] ?_));have b1:=iE (s:=s) (a:=e1) oM;refine d6 18 (mR y s L e1 oM H 94 kD _ _ d.g (d.own 0) (d.jk 0)) ?_;rintro _ w6 h7 u8 (⟨rfl,Z,b5,U⟩|⟨rfl,Z,U⟩)
 ·
  replace d:=(d.stepM 0 u8 U).to [⟨y,116,[.string s,nV (sk s e1+1),iV H]⟩] [];replace e:=e.trans u8;have zb:=Z;obtain ⟨k,z,x,M,I⟩:=Bj (hP1 zb);refine lL d [.v 19 qF,.v 20 qF] (af (cK (aa d [.m 22 0] ?_)));have b2:=iE (s:=s) (a:=(sk s e1+1)) oM;refine d6 23 (mR y s L (sk s e1+1) oM H 45 kD _ _ d.g (d.own 0) (d.jk 0)) ?_;rintro _ _ _ u12 (⟨rfl,S,b4,bb⟩|⟨rfl,S,bb⟩)
  ·
   replace d:=(d.stepM 0 u12 bb).to [⟨y,116,[.string s,nV (sk s (sk s e1+1)+1),iV H]⟩] [];replace e:=e.trans u12;rw[MN S] at z x M I
   generalize hB1:sk s (sk s (sk s e1+1)+1)=B at z x M I
   rw[←Int.zero_sub] at I
   refine lL d [.m 4 23] (aI (lL d [.m 24 0] ?_));have J:=iE (s:=s) (a:=(sk s (sk s e1+1)+1)) oM;refine d6 25 (oQ y s L (sk s (sk s e1+1)+1) oM H _ _ d.g (d.own 0) (d.jk 0)) ?_;rintro _ _ _ u15 ⟨rfl,V⟩;rw[hB1] at V J
   rw[hB1];replace d:=(d.stepM 0 u15 V).to [⟨y,116,[.string s,nV B,iV H]⟩] [];replace e:=e.trans u15;have X:=Dd kj s B;have Y:=pq (p:=kj) (s:=s) (a:=B) J;rw[←x] at X Y
   have hxs:(s.extract B b).size=b-B:=by rw[MB];omega
   have hk9:=rj z oM;refine aI (lL d [.m 26 0,.v 27 (pB y),.v 28 (qP y 1),.o 29 (nV B) 0 1 1,.m 5 29] (aI (lL d [.m 30 0] (d6 31 (Bt 171 kj (fun _ _=>by kernel_rfl) (fun c hc w h g=>jE c hc w h g) y s L B oM H _ _ d.g (d.own 0) (d.jk 0)) ?_))));rintro _ _ _ u18 ⟨rfl,W⟩;rw[←x] at W
   rw[←x];replace d:=(d.stepM 0 u18 W).to [⟨y,116,[.string s,nV b,iV H]⟩] [];replace e:=e.trans u18;refine lL d [.m 6 31] (ah (aa d [.m 32 6,.v 33 (nV ((s.extract B b).size))] ?_));have zd:(decide ((3:Int)<(((s.extract B b).size:Nat):Int)))=false:=decide_eq_false oM;refine lB 34 zd (af (cK (aa d [.m 39 6] (gy 40 (hnp (s.extract B b) k oM z _ _ d.g) ?_))));rintro _ _ _ u22 rfl;replace e:=e.trans (u22.m _);replace d:=d.step u22;refine lL d [.m 38 40,.v 41 (nv k),.v 42 qT] (x4 7 36 ([uV 0,eS]) d (fun zf _ _ u26 D d=>?_));replace D:=ez e.gr.size D;replace e:=e.trans (u26.m _);refine jv 0 0 (nc k) d (fun _ Q d=>?_);replace e:=e.put2 Q D g d.g;refine lL d [.m 8 42] (ah (aa d [.m 43 8,.v 44 qF] (af (cK (aa d [.o 49 (nv k) 0 0 2] (gy 50 (i9 k oM _ _ d.g) ?_))))));rintro _ _ _ u30 rfl;replace e:=e.trans (u30.m _);replace d:=d.step u30;refine lL d [.m 48 50,.v 51 (mV k),.v 52 qT,.m 9 51,.m 10 52] (lN (bH [(2,.pointer none),(3,pB F),(4,qT),(9,mV k)] ?_));refine aa d [.m 53 3,.v 54 (pB F)] (lH 55 (az O) d d.f.2.1 ?_);refine gy 56 (Cp 8 O v1 _ _ d.g d.f.1) ?_;rintro _ _ _ u34 ⟨j,rfl,bl⟩;replace e:=e.trans (u34.m _);replace d:=d.step u34;replace d:=(d.add (K:=fun h_=>PtH h_ j (nT 8 v1)) bl);refine x4 11 43 dS d (fun za _ _ u38 l d=>?_);replace l:=ez e.gr.size l;replace e:=e.trans (u38.m _);refine jv 0 0 (bg j) d (fun _ Q d=>?_);replace e:=e.put2 Q l g d.g;refine aI (lL d [.m 57 9] (lV 58 (nV k) ?_ (hr:=rS ((k:Int)) kR (iY oM oM))));refine lL d [.v 59 (qP za 1)] (jv 0 1 ([nV k]) d (fun _ Q d=>?_));replace e:=e.put2 Q l g d.g;refine ah (aa d [.m 60 4] (ak (kQ (lL d [.v 61 (qP za 1),.o 62 (nV k) 0 1 1] (lI 63 (0-(k:Nat)) ?_)))));refine lL d [.v 64 (qP za 1)] (jv 0 1 ([iV (0-(k:Nat))]) d (fun _ Q d=>?_));replace e:=e.put2 Q l g d.g;refine aI (lL d [.m 2 11] (lN (kX ?_)));obtain ⟨zg,d,e,br⟩:=d.pubM e 0 l;replace d:=d.to [⟨zf,36,nc k⟩,⟨y,116,[.string s,nV b,iV H]⟩] [];have bm:Seg zg za 0 (bg ⟨j.op,0-(k:Nat),j.q,j.s,j.A,j.m,j.c⟩):=br;replace d:=d.a_Seg bm;exact d.retM e [] (pB za) (by rw[I];exact ⟨za,⟨j.op,0-(k:Nat),j.q,j.s,j.A,j.m,j.c⟩,rfl,by first|assumption|omega,d.own 1,d.f.1,(PtH.setN d.f.2.1 _)⟩)
  replace d:=(d.stepM 0 u12 bb).to [⟨y,116,[.string s,nV (sk s (sk s e1+1)),iV H]⟩] [];replace e:=e.trans u12;rw[MM S] at z x M I
  generalize hB1:sk s (sk s (sk s e1+1))=B at z x M I
  refine lL d [.m 4 23] (aI (lL d [.m 24 0] ?_));have J:=iE (s:=s) (a:=(sk s (sk s e1+1))) oM;refine d6 25 (oQ y s L (sk s (sk s e1+1)) oM H _ _ d.g (d.own 0) (d.jk 0)) ?_;rintro _ _ _ u48 ⟨rfl,V⟩;rw[hB1] at V J
  rw[hB1];replace d:=(d.stepM 0 u48 V).to [⟨y,116,[.string s,nV B,iV H]⟩] [];replace e:=e.trans u48;have X:=Dd kj s B;have Y:=pq (p:=kj) (s:=s) (a:=B) J;rw[←x] at X Y
  have hxs:(s.extract B b).size=b-B:=by rw[MB];omega
  have hk9:=rj z oM;refine aI (lL d [.m 26 0,.v 27 (pB y),.v 28 (qP y 1),.o 29 (nV B) 0 1 1,.m 5 29] (aI (lL d [.m 30 0] (d6 31 (Bt 171 kj (fun _ _=>by kernel_rfl) (fun c hc w h g=>jE c hc w h g) y s L B oM H _ _ d.g (d.own 0) (d.jk 0)) ?_))));rintro _ _ _ u51 ⟨rfl,W⟩;rw[←x] at W
  rw[←x];replace d:=(d.stepM 0 u51 W).to [⟨y,116,[.string s,nV b,iV H]⟩] [];replace e:=e.trans u51;refine lL d [.m 6 31] (ah (aa d [.m 32 6,.v 33 (nV ((s.extract B b).size))] ?_));have ze:(decide ((3:Int)<(((s.extract B b).size:Nat):Int)))=false:=decide_eq_false oM;refine lB 34 ze (af (cK (aa d [.m 39 6] (gy 40 (hnp (s.extract B b) k oM z _ _ d.g) ?_))));rintro _ _ _ u55 rfl;replace e:=e.trans (u55.m _);replace d:=d.step u55;refine lL d [.m 38 40,.v 41 (nv k),.v 42 qT] (x4 7 36 ([uV 0,eS]) d (fun zi _ _ u59 C d=>?_));replace C:=ez e.gr.size C;replace e:=e.trans (u59.m _);refine jv 0 0 (nc k) d (fun _ Q d=>?_);replace e:=e.put2 Q C g d.g;refine lL d [.m 8 42] (ah (aa d [.m 43 8,.v 44 qF] (af (cK (aa d [.o 49 (nv k) 0 0 2] (gy 50 (i9 k oM _ _ d.g) ?_))))));rintro _ _ _ u63 rfl;replace e:=e.trans (u63.m _);replace d:=d.step u63;refine lL d [.m 48 50,.v 51 (mV k),.v 52 qT,.m 9 51,.m 10 52] (lN (bH [(2,.pointer none),(3,pB F),(4,qF),(9,mV k)] ?_));refine aa d [.m 53 3,.v 54 (pB F)] (lH 55 (az O) d d.f.2.1 ?_);refine gy 56 (Cp 8 O v1 _ _ d.g d.f.1) ?_;rintro _ _ _ u67 ⟨i,rfl,bk⟩;replace e:=e.trans (u67.m _);replace d:=d.step u67;replace d:=(d.add (K:=fun h_=>PtH h_ i (nT 8 v1)) bk);refine x4 11 43 dS d (fun zc _ _ u71 u d=>?_);replace u:=ez e.gr.size u;replace e:=e.trans (u71.m _);refine jv 0 0 (bg i) d (fun _ Q d=>?_);replace e:=e.put2 Q u g d.g;refine aI (lL d [.m 57 9] (lV 58 (nV k) ?_ (hr:=rS ((k:Int)) kR (iY oM oM))));refine lL d [.v 59 (qP zc 1)] (jv 0 1 ([nV k]) d (fun _ Q d=>?_));replace e:=e.put2 Q u g d.g;refine ah (aa d [.m 60 4] (af (cK (aa d [.m 2 11] (lN (kX ?_))))));obtain ⟨zj,d,e,bn⟩:=d.pubM e 0 u;replace d:=d.to [⟨zi,36,nc k⟩,⟨y,116,[.string s,nV b,iV H]⟩] [];have b0:Seg zj zc 0 (bg ⟨i.op,(k:Nat),i.q,i.s,i.A,i.m,i.c⟩):=bn;replace d:=d.a_Seg b0;exact d.retM e [] (pB zc) (by rw[I];exact ⟨zc,⟨i.op,(k:Nat),i.q,i.s,i.A,i.m,i.c⟩,rfl,by first|assumption|omega,d.own 1,d.f.1,(PtH.setN d.f.2.1 _)⟩)
 replace d:=(d.stepM 0 u8 U).to [⟨y,116,[.string s,nV (sk s e1),iV H]⟩] [];replace e:=e.trans u8;have zb:=Z;refine lL d [.v 19 qT,.v 20 qT] (ak (aa d [.m 21 3,.m 2 21] (lN (kX ?_))));obtain ⟨I,hb_⟩:=hP0 zb;exact d.retM e [] (pB F) (by rw[I];rw[hb_];exact ⟨F,O,rfl,by first|assumption|omega,d.own 0,d.f.2.1,d.f.1⟩)
theorem Hf  (hnf:Eo nf)(ihc:Jd nf (fun _=>none) n)(ihs:PC nf (fun _=>none) 60 n .sum)(j:Nat)(s:ByteArray)(C:s.size≤1000000)(a:Nat)(ha:a≤s.size)(x:Int)(t:Tm)(b:Nat)(hq:dO nf (fun _=>none) s (n+1) .atom a=some (.ok t b))(w:World)(h:Hp)(g:G w h)(ho:Own w j 116 [.string s,nV a,iV x])(hj:h[j]?=some junk):Calls Tryz.prog 204 #[pB j] w (ef j w h (B0 j s t b x)):=by
 have e:UpM [j] w h w h:=UpM.refl g;obtain ⟨wz,S,d⟩:=SS.at_ g ho hj;refine go Tryz.func204 [(0,pB j)] rfl (aa d [.v 2 (.pointer none)] (aI (lL d [.m 12 0] ?_)));have b6:=iE (s:=s) (a:=a) oM;refine d6 13 (oQ j s C a ha x _ _ d.g (d.own 0) (d.jk 0)) ?_;rintro _ w2 h3 u4 ⟨rfl,bn⟩;replace d:=(d.stepM 0 u4 bn).to [⟨j,116,[.string s,nV (sk s a),iV x]⟩] [];replace e:=e.trans u4;refine lL d [.m 3 13] (aI (lL d [.m 14 0,.v 15 (pB j),.v 16 (qP j 1),.o 17 (nV (sk s a)) 0 1 1,.m 4 17] (ah (kZ (CG.join (fun Γ w_=>∃ (ze:Bool) (i:Hp),Γ=[(0,pB j),(2,.pointer none),(3,.int .u8 (aG s (sk s a):Nat)),(4,nV (sk s a)),(18,.bool ze)]∧SS wz S w_ i [⟨j,116,[.string s,nV (sk s a),iV x]⟩] [] []∧(ze=true→¬¬((48≤aG s (sk s a)∧aG s (sk s a)≤57)∨aG s (sk s a)=46))∧(ze=false→mg (aG s (sk s a))=false)∧UpM [j] w h w_ i) ?_ ?_)))))
 ·
  refine kQ (lL d [.m 19 3] (gy 20 (jE (aG s (sk s a)) (co _ _) _ _ d.g) ?_));rintro _ w5 h6 u7 rfl;replace e:=e.trans (u7.m _);replace d:=d.step u7;cases hb8:(decide (48≤aG s (sk s a)∧aG s (sk s a)≤57))
  ·
   have bw:=oF hb8;refine lL d [.m 21 20,.m 22 3] ?_;cases J:(((aG s (sk s a):Nat):Int) == (46:Int))
   ·
    have br:=ae J;refine lB 23 J (lL d [.v 24 qF,.m 18 24] (lD ?_));intro a_ F;exact ⟨_,⟨false,h6,rfl,d.to _ _,(fun i=>MO i kD),(fun _=>decide_eq_false oM),e⟩,F.to _ kR⟩
   have br:=ML J;refine lB 23 J (lL d [.v 24 qT,.m 18 24] (lD ?_));intro a_ F;exact ⟨_,⟨true,h6,rfl,d.to _ _,(fun _=>by omega),(fun i=>MO i kD),e⟩,F.to _ kR⟩
  have bw:=oT hb8;refine lL d [.m 21 20] (lG 22 ?_);refine lG 23 (lL d [.v 24 qT,.m 18 24] (lD ?_));intro a_ F;exact ⟨_,⟨true,h6,rfl,d.to _ _,(fun _=>by omega),(fun i=>MO i kD),e⟩,F.to _ kR⟩
 rintro _ _ ⟨ze,_,rfl,d,zo,y,e⟩;cases za:(ze)
 ·
  try rw[za] at d
  try rw[za]
  refine cv (CG.join (fun Γ w_=>∃ (zf:Bool) (i:Hp),Γ=[(0,pB j),(2,.pointer none),(3,.int .u8 (aG s (sk s a):Nat)),(4,nV (sk s a)),(38,.bool zf)]∧SS wz S w_ i [⟨j,116,[.string s,nV (sk s a),iV x]⟩] [] []∧(zf=true→gE (aG s (sk s a))∨aG s (sk s a)=95)∧(zf=false→¬(gE (aG s (sk s a))∨aG s (sk s a)=95))∧UpM [j] w h w_ i) ?_ ?_)
  ·
   refine kQ (lL d [.m 39 3] (gy 40 (kz (aG s (sk s a)) (co _ _) _ _ d.g) ?_));rintro _ _ zg u24 rfl;replace e:=e.trans (u24.m _);replace d:=d.step u24;cases zi:(decide (gE (aG s (sk s a))))
   ·
    have zl:=oF zi;refine lL d [.m 41 40,.m 42 3] ?_;cases zb:(((aG s (sk s a):Nat):Int) == (95:Int))
    ·
     have zm:=ae zb;refine lB 43 zb (lL d [.v 44 qF,.m 38 44] (lD ?_));intro a_ F;exact ⟨_,⟨false,zg,rfl,d.to _ _,(fun i=>MO i kD),(fun _ i=>by rcases i with i|i;exact MO i aM;omega),e⟩,F.to _ kR⟩
    have zm:=ML zb;refine lB 43 zb (lL d [.v 44 qT,.m 38 44] (lD ?_));intro a_ F;exact ⟨_,⟨true,zg,rfl,d.to _ _,(fun _=>by first|exact .inl aM|exact .inr oM),(fun i=>MO i kD),e⟩,F.to _ kR⟩
   have zl:=oT zi;refine lL d [.m 41 40] (lG 42 ?_);refine lG 43 (lL d [.v 44 qT,.m 38 44] (lD ?_));intro a_ F;exact ⟨_,⟨true,zg,rfl,d.to _ _,(fun _=>by first|exact .inl aM|exact .inr oM),(fun i=>MO i kD),e⟩,F.to _ kR⟩
  rintro _ _ ⟨zf,_,rfl,d,b1,D,e⟩;cases zc:(zf)
  ·
   try rw[zc] at d
   try rw[zc]
   refine cv (aa d [.m 67 3] ?_);have zn:aG s (sk s a)≠91:=fun e_=>by obtain ⟨_,q_,i,_⟩:=Ft hq (y aM) (D aM) e_;cases i
   have zp:(((aG s (sk s a):Nat):Int) == (91:Int))=false:=bJ oM;refine lB 68 zp (lL d [.m 66 68] (af (aa d [.m 72 3] ?_)));have zr:aG s (sk s a)=40:=Mx fun e_=>Fq hq (y aM) (D aM) zn e_
   obtain ⟨e1,hq1,hd1,z⟩:=CP hq (y aM) (D aM) zn zr;have b7:=wu (s:=s) (a:=sk s a) oM;have zq:(((aG s (sk s a):Nat):Int) == (40:Int))=true:=fg oM;refine lB 73 zq (lL d [.m 71 73] (ak (aa d [.m 74 0,.v 75 (pB j),.v 76 (qP j 1),.o 77 (nV (sk s a)) 0 1 1] (bD 78 ((sk s a:Nat)+1) ((sk s a)+1) ?_))));refine lL d [.v 79 (pB j),.v 80 (qP j 1)] (jv 0 1 ([nV ((sk s a)+1)]) d (fun _ pu d=>?_));replace e:=e.put pu (pa.2 rfl) d.g;refine aI (lL d [.m 81 0] (d6 82 (ihs j s C ((sk s a)+1) oM x t e1 hq1 _ _ d.g (d.own 0) (d.jk 0)) ?_));rintro _ _ _ u45 ⟨H,M,rfl,b4,bb,Y,bk⟩;replace d:=(d.stepM 0 u45 bb).to [⟨j,116,[.string s,nV e1,iV x]⟩] [];replace e:=e.trans u45;replace d:=((d.a_Seg Y).add (K:=fun i=>PtH i M t) bk);refine lL d [.m 11 82] (ah (aa d [.m 83 11,.v 84 qT,.m 85 84,.m 86 0] (d6 87 (k9 j s C e1 oM x 41 kD hd1 _ _ d.g (d.own 0) (d.jk 0)) ?_)));rintro _ _ _ u49 ⟨rfl,b5,bl⟩;replace d:=(d.stepM 0 u49 bl).to [⟨j,116,[.string s,nV (sk s e1+1),iV x]⟩] [];replace e:=e.trans u49;exact lL d [.v 88 qF,.v 89 qF] (af (cK (aa d [.m 96 11,.m 2 96] (lN (kX (d.retM e [] (pB H) (by rw[z];exact ⟨H,M,rfl,by first|assumption|omega,d.own 0,d.f.2.1,d.f.1⟩)))))))
  try rw[zc] at d
  try rw[zc]
  refine ce (aa d [.m 45 0] ?_);have hcW:=b1 aM;have O:=pq (p:=dR) (s:=s) (a:=sk s a) oM;refine d6 46 (Bt 133 dR (fun _ _=>by kernel_rfl) (fun c hc w h g=>pK c hc w h g) j s C (sk s a) oM x _ _ d.g (d.own 0) (d.jk 0)) ?_;rintro _ _ _ u52 ⟨rfl,L⟩;replace d:=(d.stepM 0 u52 L).to [⟨j,116,[.string s,nV (rn dR s (sk s a)),iV x]⟩] [];replace e:=e.trans u52;refine lL d [.m 8 46] (ah (av (gy 48 (qY _ _ d.g) ?_)));rintro _ _ _ u55 ⟨bm,rfl,hcm⟩;replace e:=e.trans (u55.m _);replace d:=d.step u55;replace d:=(d.add (K:=fun i=>MapS i bm iZ) hcm);refine lL d [.m 49 8] (Jc 50 190 9 3 (s.extract (sk s a) (rn dR s (sk s a))) true (iV (dG (s.extract (sk s a) (rn dR s (sk s a))))) ((cM (s.extract (sk s a) (rn dR s (sk s a))))) d d.f.1 ?_ (hf:=(by rcases qZ (s.extract (sk s a) (rn dR s (sk s a))) with ⟨i_,e1_,e2_⟩|⟨e1_,e2_,e3_⟩;exact .inl ⟨i_,e1_,e2_⟩;exact .inr ⟨e1_,e2_,fun _=>by rw[e3_];kernel_rfl⟩)));refine lL d [.m 47 50,.v 51 (iV (dG (s.extract (sk s a) (rn dR s (sk s a))))),.v 52 (.bool (cM (s.extract (sk s a) (rn dR s (sk s a))))),.m 9 51,.m 10 52] (aI (lL d [.m 53 10] (lN ?_)));cases zd:((cM (s.extract (sk s a) (rn dR s (sk s a)))))
  ·
   try rw[zd] at d
   try rw[zd]
   refine cv (cK (cQ (aa d [.m 57 8] ?_)));obtain ⟨hnm,X,z⟩:=CA hq (y aM) hcW aM;refine gy 58 ((by have q_:=En (s.extract (sk s a) (rn dR s (sk s a))) (by rw[MB];omega) _ _ d.g;rw[hnm] at q_;exact q_)) ?_;rintro _ _ _ u59 rfl;replace e:=e.trans (u59.m _);replace d:=d.step u59;refine lL d [.v 59 qF] (af (cK (aa d [.m 63 8,.v 64 (.agg #[iV 2,iV 0,qF,uV 0,eS,uV 0,eS,.string (s.extract (sk s a) (rn dR s (sk s a))),sZ])] (x4 65 43 ([iV 2,iV 0,qF,uV 0,eS,uV 0,eS,.string (s.extract (sk s a) (rn dR s (sk s a))),sZ]) d (fun zj _ _ u63 l d=>?_)))));replace l:=ez e.gr.size l;replace e:=e.trans (u63.m _);refine lL d [.m 2 65] (lN (kX ?_));obtain ⟨zs,d,e,b2⟩:=d.pubM e 0 l;replace d:=d.to [⟨j,116,[.string s,nV (rn dR s (sk s a)),iV x]⟩] [];have bq:Seg zs zj 0 (bg ⟨2,0,0,(s.extract (sk s a) (rn dR s (sk s a))),none,0,0⟩):=b2;replace d:=d.a_Seg bq;exact d.retM e [] (pB zj) (by rw[X];rw[z];exact ⟨zj,⟨2,0,0,(s.extract (sk s a) (rn dR s (sk s a))),none,0,0⟩,rfl,by first|assumption|omega,d.own 0,d.f.1,PtH.nam⟩)
  try rw[zd] at d
  try rw[zd]
  refine ce (aa d [.m 54 0,.m 55 9] (d6 56 (ihc (dG (s.extract (sk s a) (rn dR s (sk s a)))) (xF aM) j s C (rn dR s (sk s a)) oM x t b (Fg hq (y aM) hcW aM) _ _ d.g (d.own 0) (d.jk 0)) ?_));rintro _ _ _ u71 ⟨I,Q,rfl,b3,U,Z,W⟩;replace d:=(d.stepM 0 u71 U).to [⟨j,116,[.string s,nV b,iV x]⟩] [];replace e:=e.trans u71;replace d:=((d.a_Seg Z).add (K:=fun i=>PtH i Q t) W);exact lL d [.m 2 56] (lN (kX (d.retM e [] (pB I) (by exact ⟨I,Q,rfl,by first|assumption|omega,d.own 0,d.f.2.1,d.f.1⟩))))
 try rw[za] at d
 try rw[za]
 refine ce (aa d [.m 26 0] ?_);obtain ⟨q,hnq,X,z⟩:=AA hq (decide_eq_true (Mx fun i=>zo aM i));have O:=pq (p:=mg) (s:=s) (a:=sk s a) oM;refine d6 27 (Bt 230 mg (fun _ _=>by kernel_rfl) (fun c hc w h g=>Ii c hc w h g) j s C (sk s a) oM x _ _ d.g (d.own 0) (d.jk 0)) ?_;rintro _ _ _ u74 ⟨rfl,L⟩;rw[←z] at L O
 replace d:=(d.stepM 0 u74 L).to [⟨j,116,[.string s,nV b,iV x]⟩] [];replace e:=e.trans u74;refine gy 28 (hnf _ _ hnq _ _ d.g) ?_;rintro _ _ _ u77 rfl;replace e:=e.trans (u77.m _);replace d:=d.step u77;refine lL d [.m 25 28,.v 29 (qv q),.v 30 qT] (x4 5 40 da d (fun zt _ _ u81 u d=>?_));replace u:=ez e.gr.size u;replace e:=e.trans (u81.m _);refine jv 0 0 (qc q) d (fun _ pu d=>?_);replace e:=e.put2 pu u g d.g;refine lL d [.m 6 30] (ah (aa d [.m 31 6,.v 32 qF] (af (cK (aa d [.o 36 (qv q) 0 0 5] (gy 37 (Bh q _ _ d.g) ?_))))));rintro _ _ _ u86 ⟨B,rfl,V⟩;replace e:=e.trans (u86.m _);replace d:=d.step u86;replace d:=(d.add (K:=fun i=>PtH i B (fx q)) V);refine x4 7 43 dS d (fun zk _ _ u90 k d=>?_);replace k:=ez e.gr.size k;replace e:=e.trans (u90.m _);refine jv 0 0 (bg B) d (fun _ pu d=>?_);replace e:=e.put2 pu k g d.g;refine aI (lL d [.m 2 7] (lN (kX ?_)));obtain ⟨zu,d,e,bt⟩:=d.pubM e 0 k;replace d:=d.to [⟨zt,40,qc q⟩,⟨j,116,[.string s,nV b,iV x]⟩] [];have b0:Seg zu zk 0 (bg B):=bt;replace d:=d.a_Seg b0;exact d.retM e [] (pB zk) (by rw[X];exact ⟨zk,B,rfl,by first|assumption|omega,d.own 1,d.f.1,d.f.2.1⟩)
theorem GH  (op:Int)(hop:9≤op∧op≤13)(X:PC nf bf 60 n .sum)(i:Nat)(s:ByteArray)(o:s.size≤1000000)(a:Nat)(ha:a≤s.size)(k:Int)(t:Tm)(b:Nat)(hq:dO nf bf s (n+1) (.call op) a=some (.ok t b))(w:World)(h:Hp)(g:G w h)(ho:Own w i 116 [.string s,nV a,iV k])(hj:h[i]?=some junk):Calls Tryz.prog 231 #[pB i,iV op] w (ef i w h (B0 i s t b k)):=by
 have d:UpM [i] w h w h:=UpM.refl g;obtain ⟨wz,b1,c⟩:=SS.at_ g ho hj;obtain ⟨zb,u1,e1,hq1,hA,hB⟩:=vQ hq;refine go Tryz.func231 [(0,pB i),(1,iV op)] rfl (aa c [.v 4 (.pointer none)] (ah (aa c [.m 8 0] (d6 9 (k9 i s o a ha k 40 kD zb _ _ c.g (c.own 0) (c.jk 0)) ?_))));rintro _ w2 h3 u4 ⟨rfl,b0,V⟩;replace c:=(c.stepM 0 u4 V).to [⟨i,116,[.string s,nV (sk s a+1),iV k]⟩] [];replace d:=d.trans u4;refine lL c [.v 10 qF] (af (cK (aa c [.m 17 0] (d6 18 (X i s o (sk s a+1) oM k u1 e1 hq1 _ _ c.g (c.own 0) (c.jk 0)) ?_))));rintro _ w6 h7 u8 ⟨u,y,rfl,bw,S,bb,W⟩;replace c:=(c.stepM 0 u8 S).to [⟨i,116,[.string s,nV e1,iV k]⟩] [];replace d:=d.trans u8;replace c:=((c.a_Seg bb).add (K:=fun I=>PtH I y u1) W);refine lL c [.m 5 18] (ah (aa c [.m 19 5,.v 20 qF] (af (cK (aa c [.m 21 1,.m 22 5,.v 23 (pB u)] (lH 24 (az y) c c.f.2.1 ?_))))));refine gy 25 (Cp op y u1 _ _ c.g c.f.1) ?_;rintro _ _ _ Q ⟨l,rfl,Y⟩;replace d:=d.trans (Q.m _);replace c:=c.step Q;replace c:=(c.add (K:=fun I=>PtH I l (nT op u1)) Y);refine x4 6 43 dS c (fun za _ _ u16 e c=>?_);replace e:=ez d.gr.size e;replace d:=d.trans (u16.m _);refine jv 0 0 (bg l) c (fun _ pu c=>?_);replace d:=d.put2 pu e g c.g;refine ah (aa c [.m 26 1] (gy 27 (se op _ _ c.g) ?_));rintro _ _ _ O rfl;replace d:=d.trans (O.m _);replace c:=c.step O
 rcases BB hop with ⟨ho2,har⟩|⟨ho2,har⟩
 ·
  have zc:((d8 op:Int) == (2:Int))=true:=by rw[har];rfl
  refine lB 28 zc ?_;obtain ⟨hA1,v1,U,hA2,hA3,hA4,hA5⟩:=hA ho2;refine ak (cQ (aa c [.m 29 0] (d6 30 (k9 i s o e1 oM k 44 kD hA1 _ _ c.g (c.own 1) (c.jk 1)) ?_)));rintro _ _ _ L ⟨rfl,bq,D⟩;replace c:=(c.stepM 1 L D).to [⟨za,43,bg l⟩,⟨i,116,[.string s,nV (sk s e1+1),iV k]⟩] [];replace d:=d.trans L;refine lL c [.v 31 qF] (af (cK (aa c [.m 38 0] (d6 39 (X i s o (sk s e1+1) oM k v1 U hA2 _ _ c.g (c.own 1) (c.jk 1)) ?_))));rintro _ _ _ M ⟨x,p,rfl,bn,z,B,H⟩;replace c:=(c.stepM 1 M z).to [⟨za,43,bg l⟩,⟨i,116,[.string s,nV U,iV k]⟩] [];replace d:=d.trans M;replace c:=((c.a_Seg B).add (K:=fun I=>PtH I p v1) H);refine lL c [.m 7 39] (ah (aa c [.m 40 7,.v 41 qF] (af (cK (cR 8 [] mixed c ar ?_)))));refine eV 0 42 (iV op) (eV 1 43 (pB u) (eV 2 44 (pB u) (eH 3 45 (az y) c c.f.q.1 (eV 4 46 (pB x) (eV 5 47 (pB x) (eH 6 48 (az p) c c.f.2.1 (FY 7 49 c d (fun _ _ c=>EK op y p u1 v1 _ _ c.g c.f.r.2.1 c.f.1) ?_)))))));rintro _ _ _ _ _ d c ⟨j,rfl,J⟩;replace c:=(c.add (K:=fun I=>PtH I j (dH op u1 v1)) J);refine iU c (fun _ _ u35 c=>?_);replace d:=d.trans (u35.m _);refine IK 8 0 0 (bg j) c (fun _ pu c=>?_);replace d:=d.put2 pu e g c.g;refine tN (cQ (aa c [.m 50 0] (d6 51 (k9 i s o U oM k 41 kD hA3 _ _ c.g (c.own 1) (c.jk 1)) ?_)));rintro _ _ _ u40 ⟨rfl,br,C⟩;replace c:=(c.stepM 1 u40 C).to [⟨za,43,bg j⟩,⟨i,116,[.string s,nV (sk s U+1),iV k]⟩] [];replace d:=d.trans u40;refine lL c [.v 52 qF] (af (cK (aa c [.m 4 6] (lN (kX ?_)))));obtain ⟨ze,c,d,bk⟩:=c.pubM d 0 e;replace c:=c.to [⟨i,116,[.string s,nV (sk s U+1),iV k]⟩] [];have bl:Seg ze za 0 (bg j):=bk;replace c:=c.a_Seg bl;exact c.retM d [] (pB za) (by rw[hA4];rw[hA5];exact ⟨za,j,rfl,by first|assumption|omega,c.own 0,c.f.1,c.f.2.1⟩)
 have zd:((d8 op:Int) == (2:Int))=false:=by rw[har];rfl
 refine lB 28 zd ?_;obtain ⟨hB1,hB2,hB3⟩:=hB ho2;refine af (cK (cQ (aa c [.m 50 0] (d6 51 (k9 i s o e1 oM k 41 kD hB1 _ _ c.g (c.own 1) (c.jk 1)) ?_))));rintro _ _ _ u49 ⟨rfl,bt,F⟩;replace c:=(c.stepM 1 u49 F).to [⟨za,43,bg l⟩,⟨i,116,[.string s,nV (sk s e1+1),iV k]⟩] [];replace d:=d.trans u49;refine lL c [.v 52 qF] (af (cK (aa c [.m 4 6] (lN (kX ?_)))));obtain ⟨zf,c,d,bm⟩:=c.pubM d 0 e;replace c:=c.to [⟨i,116,[.string s,nV (sk s e1+1),iV k]⟩] [];have Z:Seg zf za 0 (bg l):=bm;replace c:=c.a_Seg Z;exact c.retM d [] (pB za) (by rw[hB2];rw[hB3];exact ⟨za,l,rfl,by first|assumption|omega,c.own 0,c.f.1,c.f.2.1⟩)
end
section
variable {nf:ByteArray→Option Rat} (hnf:Eo nf) (hnp:E8)
include hnf hnp
def IF (nf:ByteArray→Option Rat)(n:Nat):Prop:=PC nf (fun _=>none) 60 n .sum∧PC nf (fun _=>none) 98 n .prod∧PC nf (fun _=>none) 153 n .sign∧PC nf (fun _=>none) 180 n .pow∧PC nf (fun _=>none) 204 n .atom∧Jd nf (fun _=>none) n
theorem Id (n:Nat):IF nf n:=by
  induction n using Nat.strongRecOn with
  | ind n ih =>
    cases n with
    | zero=>exact ⟨fun _ _ _ _ _ _ _ _ h=>(by cases h),fun _ _ _ _ _ _ _ _ h=>(by cases h),fun _ _ _ _ _ _ _ _ h=>(by cases h),fun _ _ _ _ _ _ _ _ h=>(by cases h),fun _ _ _ _ _ _ _ _ h=>(by cases h),fun _ _ _ _ _ _ _ _ _ _ h=>(by cases h)⟩
    | succ n =>
      have i:=ih n (Nat.lt_succ_self n);refine ⟨?_,?_,?_,?_,?_,?_⟩
      · exact fun k s h1 a d j t b e w h g f c=>Ie n (fun m o=>(ih m oM).2.1) k s h1 a d j t b e w h g f c
      · exact fun k s h1 a d j t b e w h g f c=>xC n (fun m o=>(ih m oM).2.2.1) k s h1 a d j t b e w h g f c
      · exact fun k s h1 a d j t b e w h g f c=>AE n i.2.2.1 i.2.2.2.1 k s h1 a d j t b e w h g f c
      · exact fun k s h1 a d j t b e w h g f c=>DW n hnp i.2.2.2.2.1 k s h1 a d j t b e w h g f c
      · exact fun k s h1 a d j t b e w h g f c=>Hf n hnf i.2.2.2.2.2 i.1 k s h1 a d j t b e w h g f c
      · exact fun op l k s h1 a d j t b e w h g f c=>GH n op l i.1 k s h1 a d j t b e w h g f c
end
theorem HJ (a b:Nat)(h1:b≤a)(c:a<256):JJ .u8 ((a:Int)-(b:Int))=((a-b:Nat):Int):=by
 rw[show (a:Int)-(b:Int)=((a-b:Nat):Int) by omega];exact Gh oM oM
theorem nZ {a:Nat}(h:a<18446744073709551616):Wd (if a=0 then [] else [a]):=by
 split
 ·exact Dg.nil
 ·intro x b
  rw[pa] at b;rw[b];exact h
theorem jm (a:Nat):aD (if a=0 then [] else [a])=a:=by
 split
 ·rename_i e;rw[e];rfl
 ·show a+18446744073709551616*0=a;omega
theorem p7 {c:UInt8}:∀ (l:List UInt8),(∀ b∈l,b≠c)→Lib.indexByte l c = -1
  | [],_=>rfl
  | b::l,h=>by
    have h1:(b == c)=false:=by simpa using h b List.mem_cons_self
    unfold Lib.indexByte
    rw[h1,p7 l (fun b a=>h b (List.mem_cons_of_mem _ a))];rfl
theorem AF {s:ByteArray}{b:UInt8}(h:b∈s.data.toList):∃ i,i<s.size∧aG s i=b.toNat:=by
 obtain ⟨i,hi,e⟩:=List.mem_iff_getElem.1 h;refine ⟨i,by simpa using hi,?_⟩
 unfold aG
 rw[Kl,List.getElem?_eq_getElem hi,e];rfl
theorem Ap (x:ByteArray)(c:UInt8)(d:∀ i,i<x.size→aG x i≠c.toNat)(w:World)(h:Hp)(g:G w h):CV 185 #[.string x,.string ⟨#[c]⟩] w h (iV (-1)):=by
 have q:=Ret.of_same g (Tryz.stringslite_Index_one x c w)
 rw[p7 _ (fun b a e=>by
  obtain ⟨i,hi,h1⟩:=AF a;exact d i hi (by rw[h1,e]))] at q
 exact q
theorem DY {x:ByteArray}{c:UInt8}(h:aG x 0≠c.toNat):Lib.hasPrefix x.data.toList [c]=false:=by
  unfold Lib.hasPrefix
  unfold aG at h
  cases e:x.data.toList with
  | nil=>rfl
  | cons b l =>
    rw[e] at h
    have:b≠c:=fun e2=>h (by rw[e2];rfl)
    simp[List.isPrefixOf,Ne.symm this]
theorem pM (x:ByteArray)(c:UInt8)(b:aG x 0≠c.toNat)(w:World)(h:Hp)(g:G w h):CV 249 #[.string x,.string ⟨#[c]⟩] w h (.tuple #[.string x,.bool false]):=by
 have q:=Ret.of_same g (Tryz.strings_CutPrefix x ⟨#[c]⟩ w);have e:Lib.hasPrefix x.data.toList [c]=false:=DY b;have e2:(⟨(Lib.trimPrefix x.data.toList [c]).toArray⟩:ByteArray)=x:=by unfold Lib.trimPrefix;rw[e];simp
 have a:CV 249 #[.string x,.string ⟨#[c]⟩] w h (.tuple #[.string ⟨(Lib.trimPrefix x.data.toList [c]).toArray⟩,.bool (Lib.hasPrefix x.data.toList [c])]):=q;rw[e,e2] at a;exact a
theorem rL (m a:Nat)(ha:a<18446744073709551616)(w:World)(h:Hp)(g:G w h):CR 233 #[.slice none ((([]:List Nat)).length) 0,mV m,mV a] w h (fun v h1=>∃ (A:Option Addr) (c:Nat) (l:List Nat),v=.slice A l.length c∧l.length≤c∧SlO 1 am 0 h1 A l∧l=if a=0 then [] else [a]):=by
 have b:=(sS g).nil 34 1;have o:([]:List Nat).length=0:=rfl;refine go Tryz.func233 [(0,qS none ((([]:List Nat)).length) 0),(1,mV m),(2,mV a)] rfl (aa b [.v 6 (sZ)] (aI (lL b [.m 13 2,.m 7 13] (ah (aa b [.m 14 0,.v 15 (iV 0),.v 16 (iV 0)] (a8 (cU ?_)))))));refine cN (aa b [.v 17 qF] (ah (cv (CG.exit ?_))))
 show CG _ _ _ _ _ _ _ _
 refine cQ (aa b [.m 42 7] ?_);cases d:((a:Int) != (0:Int))
 ·
  have i:=aJ d;exact lB 43 d (af (cK (aa b [.m 48 0,.m 6 48] (ac b [] (qS none ((([]:List Nat)).length) 0) (⟨none,0,[],rfl,nR _,SlO.nil,by rw[MN oM]⟩)))))
 have i:=aW d;refine lB 43 d (ak (kQ (lL b [.m 44 0,.m 45 7] (lR 46 34 1 ([mV a]) b (fun p w3 x b=>lY 47 0 34 1 0 none ([]:List Nat) am a 8 p (uV 0) b b.f.1 (fun k j u y b=>lL b [.m 0 47] (aI (lL b [.m 48 0,.m 6 48] (lN (kX ?_))))))))));obtain ⟨_,b,za⟩:=b.pubr 0 (A:=k) (c:=j) (l:=([]:List Nat)++[a]) (f:=am) (ty:=34) (sz:=1) 0 (fun _=>rfl);have e:=(b.f.1);exact b.ret [] (qS k ((([]:List Nat)++[a]).length) j) (⟨_,_,_,rfl,za,e,by rw[MM oM];rfl⟩)
theorem sL (x:ByteArray)(k:Nat)(hx:x.size≤18)(hk_:kl x=some k)(w:World)(h:Hp)(g:G w h):CV 206 #[.string x] w h (.tuple #[nv k,.bool true]):=by
 have a:=sS g;obtain ⟨h1,h0,H,Y⟩:=iw hk_;refine go Tryz.func206 [(0,.string x)] rfl (av (lA 2 36 ([uV 0,eS]) a (fun M w2 h3 a=>lL a [.v 3 qF] (ah (aa a [.m 8 0,.v 9 (nV x.size)] ?_)))));cases I:((x.size:Int) == (0:Int))
 ·
  have Z:=ae I;refine lB 10 I (lL a [.m 11 10,.m 12 0,.v 13 (nV x.size)] ?_);cases L:(decide ((200:Int)<(x.size:Int)))
  ·
   have U:=oF L;refine lB 14 L (lL a [.v 15 qF,.m 16 15,.m 17 0,.v 18 (nV x.size)] ?_);cases J:(decide ((1:Int)<(x.size:Int)))
   ·
    have X:=oF J;refine lB 19 J (lL a [.m 20 19] (lG 21 ?_));refine lG 22 (lG 23 (lL a [.v 24 qF,.v 25 qF] (af (cK (aa a [.v 4 (sZ)] (aI (lL a [.v 5 (uV 0),.v 6 (uV 1)] (ah (aa a [.m 27 0,.v 28 (nV x.size),.v 29 (iV 0)] (a8 ?_))))))))));replace a:=a.add (K:=fun b=>SlO 1 am 0 b none ([])) (SlO.nil);refine bH _ (CG.loop (fun Q Γ w_=>∃ (j:Nat) (A:Option Addr) (c:Nat) (l:List Nat) (e:Nat) (o:Nat) (b:Hp),Q=x.size-j∧Γ=[(0,.string x),(2,pB M),(28,nV x.size),(29,nV j),(4,qS A l.length c),(5,mV e),(6,mV o)]∧SS w h w_ b [⟨M,36,[uV 0,eS]⟩] [] [fun b=>SlO 1 am 0 b A l]∧j≤x.size∧l.length≤c∧(j<x.size→A=none∧c=0∧l=[]∧e=dv x j∧o=10^j)∧(j=x.size→l.length≤1)∧(j=x.size→Wd l)∧(j=x.size→aD l=dv x j)) _ ⟨0,none,0,[],0,1,h3,rfl,rfl,a.to _ _,K7 _,nR _,(fun _=>⟨rfl,rfl,rfl,rfl,rfl⟩),(fun _=>K7 _),(fun _=>Dg.nil),(fun b=>MO b oM)⟩ ?_);rintro _ _ w7 ⟨j,A,c,l,e,o,h8,hm9,rfl,a,hk,D,hI,hL,hW,hV⟩;have O:=H j;have hb_:=rd (x:=x) j (fun i hi=>H i oM);have hp_:10^j≤10^18:=Kb kD oM;have hs_:dv x (j+1)=dv x j*10+(aG x j-48):=rfl;have ht_:10^(j+1)=10^j*10:=JY ..;refine av ?_;cases za:(decide ((j:Int)<(x.size:Int)))
    ·
     have zm:=oF za;refine lB 30 za (ah (cv (CG.exit ?_)))
     show CG _ _ _ _ _ _ _ _
     exact aa a [.m 67 4] (ag 68 a (wD A c l (hW oM) (by have:=hL oM;omega) D _ _ a.g a.f.1) (fun _ _ a=>lP 0 0 (nc (aD l)) a (fun _ a=>lL a [.v 3 qT] (ac a [(0,0,2)] (.tuple #[nv (aD l),qT]) (by rw[hV oM,show j=x.size by omega,←Y])))))
    have zm:=oT za;refine lB 30 za (ah (ce (cK (cQ (kZ ?_)))));obtain ⟨B,p,C,hpt,hun⟩:=hI oM;have W:=O oM;have S:10^(j+1)≤10^18:=Kb kD oM;refine aa a [.m 31 29,.m 7 31] (ah (aa a [.m 32 0,.m 33 7] (lV 34 (.int .u8 (aG x j:Nat)) ?_ (hr:=ct (tx:=9) (x:=.tmp 32) (i:=.tmp 33) (k:=.i64) (s:=x) (n:=j) (j:=(j:Int)) kR kR kR kR oM oM _))));cases zb:(decide (((aG x j:Nat):Int)<(48:Int)))
    ·
     have zn:=oF zb;refine lB 35 zb (lL a [.m 36 35,.m 37 0,.m 38 7] (lV 39 (.int .u8 (aG x j:Nat)) ?_ (hr:=ct (tx:=9) (x:=.tmp 37) (i:=.tmp 38) (k:=.i64) (s:=x) (n:=j) (j:=(j:Int)) kR kR kR kR oM oM _)));cases zc:(decide ((57:Int)<((aG x j:Nat):Int)))
     ·
      have zo:=oF zc;refine lB 40 zc (lL a [.v 41 qF] (af (cK (aa a [.m 43 5] (lV 44 (mV (e*10)) ?_ (hr:=rU (((e:Int)*(10:Int))) kR (fT e 10 oM)))))));refine lL a [.m 45 0,.m 46 7] (lV 47 (.int .u8 (aG x j:Nat)) ?_ (hr:=ct (tx:=9) (x:=.tmp 45) (i:=.tmp 46) (k:=.i64) (s:=x) (n:=j) (j:=(j:Int)) kR kR kR kR oM oM _));refine lV 48 (.int .u8 ((aG x j)-48:Nat)) ?_ (hr:=aK (n:=JJ .u8 (((aG x j:Nat):Int)-(48:Int))) kR (HJ (aG x j) 48 oM oM));refine lV 49 (mV ((aG x j)-48)) ?_ (hr:=rU ((((aG x j)-48:Nat):Int)) kR (ba oM oM));refine lV 50 (mV ((e*10)+((aG x j)-48))) ?_ (hr:=rU ((((e*10:Nat):Int)+(((aG x j)-48:Nat):Int))) kR (dD (e*10) ((aG x j)-48) oM));refine lL a [.m 51 6] (lV 52 (mV (o*10)) ?_ (hr:=rU (((o:Int)*(10:Int))) kR (fT o 10 oM)));refine lL a [.m 5 50,.m 6 52] (aI (lL a [.m 53 6] ?_));cases zd:(((o*10:Nat):Int) == (10000000000000000000:Int))
      ·
       have zp:=ae zd;refine lB 54 zd (lL a [.m 55 54,.m 56 7,.m 57 0,.v 58 (nV x.size)] (lI 59 ((x.size:Nat)-1) ?_));cases ze:((j:Int) == ((x.size:Nat)-1:Int))
       ·
        have zq:=ae ze;refine lB 60 ze (lL a [.v 61 qF] (af (cK (kQ (bD 66 ((j:Nat)+1) (j+1) ?_)))));refine lL a [.m 29 66] (lD ?_);intro V F;replace a:=(a.tl.add (K:=fun b=>SlO 1 am 0 b A l) a.f.1);refine ⟨_,_,?_,⟨j+1,A,c,l,((e*10)+((aG x j)-48):Nat),(o*10),h8,rfl,rfl,a.to _ _,oM,D,(fun _=>⟨B,p,C,by omega,by omega⟩),(fun b=>MO b oM),(fun b=>MO b oM),(fun b=>MO b oM)⟩,F.to _ kR⟩
        omega
       have zq:=ML ze;refine lB 60 ze (lL a [.v 61 qT] (ak ?_));subst B p C;refine aa a [.m 62 4,.m 63 6,.m 64 5] (lC 65 a (rL ((o*10)) (((e*10)+((aG x j)-48):Nat)) oM _ _ a.g) ?_);rintro _ _ zx a ⟨u,c2,l2,rfl,y,z,d⟩;replace a:=a.aS z;refine lL a [.m 4 65] (lN (bH [(0,.string x),(2,pB M),(28,nV x.size),(29,nV j),(4,qS u l2.length c2),(5,mV ((e*10)+((aG x j)-48))),(6,mV (o*10))] ?_));refine kQ (lL a [.v 5 (uV 0),.v 6 (uV 1)] (lN (kQ (bD 66 ((j:Nat)+1) (j+1) ?_))));refine lL a [.m 29 66] (lD ?_);intro V F;replace a:=(a.tl.tl.add (K:=fun b=>SlO 1 am 0 b u l2) a.f.1);refine ⟨_,_,?_,⟨j+1,u,c2,l2,0,1,zx,rfl,rfl,a.to _ _,oM,y,(fun b=>MO b oM),(fun _=>by rw[d];split<;>simp),(fun _=>by rw[d];exact nZ oM),(fun _=>by rw[d,jm];omega)⟩,F.to _ kR⟩
       omega
      have zp:=ML zd;refine lB 54 zd (lL a [.m 55 54] (lG 56 ?_));refine lG 57 (lG 58 (lG 59 (lG 60 (lL a [.v 61 qT] (ak ?_)))));subst B p C;refine aa a [.m 62 4,.m 63 6,.m 64 5] (lC 65 a (rL ((o*10)) (((e*10)+((aG x j)-48):Nat)) oM _ _ a.g) ?_);rintro _ _ zA a ⟨u,c2,l2,rfl,y,z,d⟩;replace a:=a.aS z;refine lL a [.m 4 65] (lN (bH [(0,.string x),(2,pB M),(28,nV x.size),(29,nV j),(4,qS u l2.length c2),(5,mV ((e*10)+((aG x j)-48))),(6,mV (o*10))] ?_));refine kQ (lL a [.v 5 (uV 0),.v 6 (uV 1)] (lN (kQ (bD 66 ((j:Nat)+1) (j+1) ?_))));refine lL a [.m 29 66] (lD ?_);intro V F;replace a:=(a.tl.tl.add (K:=fun b=>SlO 1 am 0 b u l2) a.f.1);refine ⟨_,_,?_,⟨j+1,u,c2,l2,0,1,zA,rfl,rfl,a.to _ _,oM,y,(fun b=>MO b oM),(fun _=>by rw[d];split<;>simp),(fun _=>by rw[d];exact nZ oM),(fun _=>by rw[d,jm];omega)⟩,F.to _ kR⟩
      omega
     have zo:=oT zc;refine lB 40 zc (lL a [.v 41 qT] (ak (aa a [.v 42 (.agg #[uV 0,eS])] (lP 0 0 ([uV 0,eS]) a (fun _ a=>lL a [.v 3 qF] (lN (kX ?_)))))))
     exfalso
     omega
    have zn:=oT zb;refine lB 35 zb (lL a [.m 36 35] (lG 37 ?_));refine lG 38 (lG 39 (lG 40 (lL a [.v 41 qT] (ak (aa a [.v 42 (.agg #[uV 0,eS])] (lP 0 0 ([uV 0,eS]) a (fun _ a=>lL a [.v 3 qF] (lN (kX ?_)))))))))
    exfalso
    omega
   have X:=oT J;refine lB 19 J (lL a [.m 20 19,.m 21 0] (lV 22 (.int .u8 (aG x 0:Nat)) ?_ (hr:=ct (tx:=9) (x:=.tmp 21) (i:=.const (iV 0)) (k:=.i64) (s:=x) (n:=0) (j:=(0:Int)) kR kR kR kR oM oM _)));cases zf:(((aG x 0:Nat):Int) == (48:Int))
   ·
    have zr:=ae zf;refine lB 23 zf (lL a [.v 24 qF,.v 25 qF] (af (cK (aa a [.v 4 (sZ)] (aI (lL a [.v 5 (uV 0),.v 6 (uV 1)] (ah (aa a [.m 27 0,.v 28 (nV x.size),.v 29 (iV 0)] (a8 ?_)))))))));replace a:=a.add (K:=fun b=>SlO 1 am 0 b none ([])) (SlO.nil);refine bH _ (CG.loop (fun Q Γ w_=>∃ (j:Nat) (A:Option Addr) (c:Nat) (l:List Nat) (e:Nat) (o:Nat) (b:Hp),Q=x.size-j∧Γ=[(0,.string x),(2,pB M),(28,nV x.size),(29,nV j),(4,qS A l.length c),(5,mV e),(6,mV o)]∧SS w h w_ b [⟨M,36,[uV 0,eS]⟩] [] [fun b=>SlO 1 am 0 b A l]∧j≤x.size∧l.length≤c∧(j<x.size→A=none∧c=0∧l=[]∧e=dv x j∧o=10^j)∧(j=x.size→l.length≤1)∧(j=x.size→Wd l)∧(j=x.size→aD l=dv x j)) _ ⟨0,none,0,[],0,1,h3,rfl,rfl,a.to _ _,K7 _,nR _,(fun _=>⟨rfl,rfl,rfl,rfl,rfl⟩),(fun _=>K7 _),(fun _=>Dg.nil),(fun b=>MO b oM)⟩ ?_);rintro _ _ _ ⟨j,A,c,l,e,o,zB,bb,rfl,a,hk,D,hI,hL,hW,hV⟩;have O:=H j;have hb_:=rd (x:=x) j (fun i hi=>H i oM);have hp_:10^j≤10^18:=Kb kD oM;have hs_:dv x (j+1)=dv x j*10+(aG x j-48):=rfl;have ht_:10^(j+1)=10^j*10:=JY ..;refine av ?_;cases zg:(decide ((j:Int)<(x.size:Int)))
    ·
     have zs:=oF zg;refine lB 30 zg (ah (cv (CG.exit ?_)))
     show CG _ _ _ _ _ _ _ _
     exact aa a [.m 67 4] (ag 68 a (wD A c l (hW oM) (by have:=hL oM;omega) D _ _ a.g a.f.1) (fun _ _ a=>lP 0 0 (nc (aD l)) a (fun _ a=>lL a [.v 3 qT] (ac a [(0,0,2)] (.tuple #[nv (aD l),qT]) (by rw[hV oM,show j=x.size by omega,←Y])))))
    have zs:=oT zg;refine lB 30 zg (ah (ce (cK (cQ (kZ ?_)))));obtain ⟨B,p,C,hpt,hun⟩:=hI oM;have W:=O oM;have S:10^(j+1)≤10^18:=Kb kD oM;refine aa a [.m 31 29,.m 7 31] (ah (aa a [.m 32 0,.m 33 7] (lV 34 (.int .u8 (aG x j:Nat)) ?_ (hr:=ct (tx:=9) (x:=.tmp 32) (i:=.tmp 33) (k:=.i64) (s:=x) (n:=j) (j:=(j:Int)) kR kR kR kR oM oM _))));cases zi:(decide (((aG x j:Nat):Int)<(48:Int)))
    ·
     have zt:=oF zi;refine lB 35 zi (lL a [.m 36 35,.m 37 0,.m 38 7] (lV 39 (.int .u8 (aG x j:Nat)) ?_ (hr:=ct (tx:=9) (x:=.tmp 37) (i:=.tmp 38) (k:=.i64) (s:=x) (n:=j) (j:=(j:Int)) kR kR kR kR oM oM _)));cases zj:(decide ((57:Int)<((aG x j:Nat):Int)))
     ·
      have zu:=oF zj;refine lB 40 zj (lL a [.v 41 qF] (af (cK (aa a [.m 43 5] (lV 44 (mV (e*10)) ?_ (hr:=rU (((e:Int)*(10:Int))) kR (fT e 10 oM)))))));refine lL a [.m 45 0,.m 46 7] (lV 47 (.int .u8 (aG x j:Nat)) ?_ (hr:=ct (tx:=9) (x:=.tmp 45) (i:=.tmp 46) (k:=.i64) (s:=x) (n:=j) (j:=(j:Int)) kR kR kR kR oM oM _));refine lV 48 (.int .u8 ((aG x j)-48:Nat)) ?_ (hr:=aK (n:=JJ .u8 (((aG x j:Nat):Int)-(48:Int))) kR (HJ (aG x j) 48 oM oM));refine lV 49 (mV ((aG x j)-48)) ?_ (hr:=rU ((((aG x j)-48:Nat):Int)) kR (ba oM oM));refine lV 50 (mV ((e*10)+((aG x j)-48))) ?_ (hr:=rU ((((e*10:Nat):Int)+(((aG x j)-48:Nat):Int))) kR (dD (e*10) ((aG x j)-48) oM));refine lL a [.m 51 6] (lV 52 (mV (o*10)) ?_ (hr:=rU (((o:Int)*(10:Int))) kR (fT o 10 oM)));refine lL a [.m 5 50,.m 6 52] (aI (lL a [.m 53 6] ?_));cases zk:(((o*10:Nat):Int) == (10000000000000000000:Int))
      ·
       have zv:=ae zk;refine lB 54 zk (lL a [.m 55 54,.m 56 7,.m 57 0,.v 58 (nV x.size)] (lI 59 ((x.size:Nat)-1) ?_));cases zl:((j:Int) == ((x.size:Nat)-1:Int))
       ·
        have zw:=ae zl;refine lB 60 zl (lL a [.v 61 qF] (af (cK (kQ (bD 66 ((j:Nat)+1) (j+1) ?_)))));refine lL a [.m 29 66] (lD ?_);intro V F;replace a:=(a.tl.add (K:=fun b=>SlO 1 am 0 b A l) a.f.1);refine ⟨_,_,?_,⟨j+1,A,c,l,((e*10)+((aG x j)-48):Nat),(o*10),zB,rfl,rfl,a.to _ _,oM,D,(fun _=>⟨B,p,C,by omega,by omega⟩),(fun b=>MO b oM),(fun b=>MO b oM),(fun b=>MO b oM)⟩,F.to _ kR⟩
        omega
       have zw:=ML zl;refine lB 60 zl (lL a [.v 61 qT] (ak ?_));subst B p C;refine aa a [.m 62 4,.m 63 6,.m 64 5] (lC 65 a (rL ((o*10)) (((e*10)+((aG x j)-48):Nat)) oM _ _ a.g) ?_);rintro _ _ zD a ⟨u,c2,l2,rfl,y,z,d⟩;replace a:=a.aS z;refine lL a [.m 4 65] (lN (bH [(0,.string x),(2,pB M),(28,nV x.size),(29,nV j),(4,qS u l2.length c2),(5,mV ((e*10)+((aG x j)-48))),(6,mV (o*10))] ?_));refine kQ (lL a [.v 5 (uV 0),.v 6 (uV 1)] (lN (kQ (bD 66 ((j:Nat)+1) (j+1) ?_))));refine lL a [.m 29 66] (lD ?_);intro V F;replace a:=(a.tl.tl.add (K:=fun b=>SlO 1 am 0 b u l2) a.f.1);refine ⟨_,_,?_,⟨j+1,u,c2,l2,0,1,zD,rfl,rfl,a.to _ _,oM,y,(fun b=>MO b oM),(fun _=>by rw[d];split<;>simp),(fun _=>by rw[d];exact nZ oM),(fun _=>by rw[d,jm];omega)⟩,F.to _ kR⟩
       omega
      have zv:=ML zk;refine lB 54 zk (lL a [.m 55 54] (lG 56 ?_));refine lG 57 (lG 58 (lG 59 (lG 60 (lL a [.v 61 qT] (ak ?_)))));subst B p C;refine aa a [.m 62 4,.m 63 6,.m 64 5] (lC 65 a (rL ((o*10)) (((e*10)+((aG x j)-48):Nat)) oM _ _ a.g) ?_);rintro _ _ zE a ⟨u,c2,l2,rfl,y,z,d⟩;replace a:=a.aS z;refine lL a [.m 4 65] (lN (bH [(0,.string x),(2,pB M),(28,nV x.size),(29,nV j),(4,qS u l2.length c2),(5,mV ((e*10)+((aG x j)-48))),(6,mV (o*10))] ?_));refine kQ (lL a [.v 5 (uV 0),.v 6 (uV 1)] (lN (kQ (bD 66 ((j:Nat)+1) (j+1) ?_))));refine lL a [.m 29 66] (lD ?_);intro V F;replace a:=(a.tl.tl.add (K:=fun b=>SlO 1 am 0 b u l2) a.f.1);refine ⟨_,_,?_,⟨j+1,u,c2,l2,0,1,zE,rfl,rfl,a.to _ _,oM,y,(fun b=>MO b oM),(fun _=>by rw[d];split<;>simp),(fun _=>by rw[d];exact nZ oM),(fun _=>by rw[d,jm];omega)⟩,F.to _ kR⟩
      omega
     have zu:=oT zj;refine lB 40 zj (lL a [.v 41 qT] (ak (aa a [.v 42 (.agg #[uV 0,eS])] (lP 0 0 ([uV 0,eS]) a (fun _ a=>lL a [.v 3 qF] (lN (kX ?_)))))))
     exfalso
     omega
    have zt:=oT zi;refine lB 35 zi (lL a [.m 36 35] (lG 37 ?_));refine lG 38 (lG 39 (lG 40 (lL a [.v 41 qT] (ak (aa a [.v 42 (.agg #[uV 0,eS])] (lP 0 0 ([uV 0,eS]) a (fun _ a=>lL a [.v 3 qF] (lN (kX ?_)))))))))
    exfalso
    omega
   have zr:=ML zf;refine lB 23 zf (lL a [.v 24 qT,.v 25 qT] (ak (aa a [.v 26 (.agg #[uV 0,eS])] (lP 0 0 ([uV 0,eS]) a (fun _ a=>lL a [.v 3 qF] (lN (kX ?_)))))))
   exfalso
   first|omega|exact h0 oM oM
  have U:=oT L;refine lB 14 L (lL a [.v 15 qT,.m 16 15] (lG 17 ?_));refine lG 18 (lG 19 (lG 20 (lG 21 (lG 22 (lG 23 (lG 24 (lL a [.v 25 qT] (ak (aa a [.v 26 (.agg #[uV 0,eS])] (lP 0 0 ([uV 0,eS]) a (fun _ a=>lL a [.v 3 qF] (lN (kX ?_)))))))))))))
  exfalso
  first|omega|exact h0 oM oM
 have Z:=ML I;refine lB 10 I (lL a [.m 11 10] (lG 12 ?_));refine lG 13 (lG 14 (lL a [.v 15 qT,.m 16 15] (lG 17 ?_)));refine lG 18 (lG 19 (lG 20 (lG 21 (lG 22 (lG 23 (lG 24 (lL a [.v 25 qT] (ak (aa a [.v 26 (.agg #[uV 0,eS])] (lP 0 0 ([uV 0,eS]) a (fun _ a=>lL a [.v 3 qF] (lN (kX ?_)))))))))))))
 exfalso
 first|omega|exact h0 oM oM
theorem HD (x:ByteArray)(c:UInt8)(b:∀ i,i<x.size→aG x i≠c.toNat)(w:World)(h:Hp)(g:G w h):CV 248 #[.string x,.string (⟨#[c]⟩)] w h (.tuple #[.string x,eS,.bool false]):=by
 have a:=sS g;exact go Tryz.func248 [(0,.string x),(1,.string (⟨#[c]⟩))] rfl (aa a [.v 4 (eS),.v 5 (eS),.v 6 qF] (ah (aa a [.m 8 0,.m 9 1] (ag 10 a (Ap x c b _ _ a.g) (fun w1 d a=>lL a [.m 7 10] (aI (lL a [.m 11 7,.v 12 qF] (af (cK (aa a [.m 22 0,.m 4 22,.v 5 (eS),.v 6 qF] (ac a [] (.tuple #[.string x,eS,qF]) rfl)))))))))))
theorem DA (x:ByteArray)(c:UInt8)(b:∀ i,i<x.size→aG x i≠c.toNat)(w:World)(h:Hp)(g:G w h):CV 242 #[.string x,.string (⟨#[c]⟩)] w h (.tuple #[.string x,eS,.bool false]):=by
 have a:=sS g;exact go Tryz.func242 [(0,.string x),(1,.string (⟨#[c]⟩))] rfl (aa a [.v 4 (eS),.v 5 (eS),.v 6 qF] (aI (lL a [.m 7 0,.m 8 1] (ag 9 a (HD x c b _ _ a.g) (fun w1 d a=>lL a [.v 10 (.string x),.v 11 (eS),.v 12 qF,.m 4 10,.m 5 11,.m 6 12] (ac a [] (.tuple #[.string x,eS,qF]) rfl))))))
theorem Ah (x:ByteArray)(k:Nat)(e:x.size≤18)(b:kl x=some k)(w:World)(h:Hp)(g:G w h):CV 245 #[.string x] w h (.tuple #[iv (k:Int),.bool true]):=by
 have a:=sS g;obtain ⟨h1,h0,c,d⟩:=iw b;refine go Tryz.func245 [(0,.string x)] rfl (av (lA 2 38 ([qF,uV 0,eS]) a (fun p w2 u a=>lL a [.v 3 qF] (aI (lL a [.m 9 0] (ag 10 a (pM x 45 (by have:=c 0 oM;show aG x 0≠45;omega) _ _ a.g) (fun f i a=>lL a [.m 8 10,.v 11 (.string x),.v 12 qF,.m 4 11,.m 5 12] (aI (lL a [.m 14 4] (ag 15 a (sL x k e b _ _ a.g) (fun j l a=>lL a [.m 13 15,.v 16 (nv k),.v 17 qT] (lA 6 36 ([uV 0,eS]) a (fun b8 y _ a=>lP 0 0 (nc k) a (fun _ a=>lL a [.m 7 17] (ah (aa a [.m 18 7,.v 19 qF,.m 20 19,.m 21 5,.m 22 21] (lG 23 ?_)))))))))))))))));exact lG 24 (lG 25 (lL a [.v 26 qF,.v 27 qF] (af (cK (aa a [.m 29 5,.o 30 (nv k) 0 0 2] (ag 31 a (dP k _ _ a.g) (fun _ _ a=>lP 1 0 (ic (k:Int)) a (fun _ a=>lL a [.v 3 qT] (ac a [(1,0,3)] (.tuple #[iv (k:Int),qT]) rfl)))))))))
theorem B4 (x:ByteArray)(k:Nat)(l:x.size≤18)(b:kl x=some k)(w:World)(h:Hp)(g:G w h):CV 229 #[.string x] w h (.tuple #[qv ((k:Nat):Rat),.bool true]):=by
 have a:=sS g;obtain ⟨h1,h0,c,j⟩:=iw b;exact go Tryz.func229 [(0,.string x)] rfl (av (lA 2 40 da a (fun C w2 D a=>lL a [.v 3 qF] (ah (aa a [.m 13 0] (ag 14 a (DA x 47 (fun i hi=>by have:=c i hi;show aG x i≠47;omega) _ _ a.g) (fun u y a=>lL a [.m 12 14,.v 15 (.string x),.v 16 (eS),.v 17 qF,.m 4 15,.m 5 16,.m 6 17] (aI (lL a [.m 18 6] (af (cK (cQ (aa a [.m 25 0] (ag 26 a (DA x 46 (fun i hi=>by have:=c i hi;show aG x i≠46;omega) _ _ a.g) (fun z B a=>lL a [.m 24 26,.v 27 (.string x),.v 28 (eS),.v 29 qF,.m 7 27,.m 8 28,.m 9 29] (aI (lL a [.m 30 9] (af (cK (aa a [.m 37 0] (ag 38 a (Ah x k l b _ _ a.g) (fun p F a=>lL a [.m 36 38,.v 39 (iv (k:Int)),.v 40 qT] (lA 10 38 ([qF,uV 0,eS]) a (fun e _ _ a=>lP 0 0 (ic (k:Int)) a (fun _ a=>lL a [.m 11 40] (aI (lL a [.o 41 (iv (k:Int)) 0 0 3,.v 42 (.agg #[.bool (ai (k:Int)),uV (lo (ab (k:Int))),.string (hi (ab (k:Int))),uV 0,eS]),.m 43 11] (lP 1 0 ([.bool (ai (k:Int)),uV (lo (ab (k:Int))),.string (hi (ab (k:Int))),uV 0,eS]) a (fun _ a=>lL a [.m 3 43] (ac a [(1,0,5)] (.tuple #[.agg #[.bool (ai (k:Int)),uV (lo (ab (k:Int))),.string (hi (ab (k:Int))),uV 0,eS],qT]) (congrArg (fun f=>Value.tuple #[f,qT]) (hC (d:=0) (MC k) (l6 (MD k))))))))))))))))))))))))))))))))))
def G8 (x:ByteArray):Option Rat:=if x.size≤18 then (kl x).map (fun k=>((k:Nat):Rat)) else none
theorem Fk:Eo G8:=fun x q h w c g=>by
  unfold G8 at h
  split at h
  · rename_i b
    cases a:kl x with
    | none=>rw[a] at h;cases h
    | some k =>
      rw[a] at h;injection h with h;subst h
      exact B4 x k b a w c g
  · cases h
theorem Fi:E8:=fun x k hx hk w h g=>sL x k oM hk w h g
def Dh (s:ByteArray):Prop:=s=⟨#[120]⟩∨s=⟨#[121]⟩∨s=⟨#[122]⟩
theorem DZ:∀ {k:Nat},k<3→Dh (ek.getD k ⟨#[]⟩)
 | 0,_=>.inl rfl
 | 1,_=>.inr (.inl rfl)
 | 2,_=>.inr (.inr rfl)
def GrT (d:Nat)(t:Tm):Prop:=WfT1 Dh d t∧3*bp d t≤3^d
theorem GrT.num {d:Nat}{q:Rat}(h:LQ 1 q):GrT (d+1) (.mk 1 0 q ⟨#[]⟩ []) :=
 ⟨⟨rfl,fun h=>MO rfl h,h,fun h=>MO (show (1:Int)=2 from h) kD,fun _=>rfl,fun _=>rfl,by show (-12:Int)≤0;decide,by show (0:Int)≤12;decide,fun i hi=>MO hi (Mk i)⟩,by
  have:=Nat.two_pow_pos d;have:0<3^d:=Nat.pow_pos kD
  show 3*1≤3^(d+1)
  rw[JY];omega⟩
theorem GrT.name {d:Nat}{s:ByteArray}(h:Dh s):GrT (d+1) (.mk 2 0 0 s []) :=
 ⟨⟨rfl,fun _=>rfl,uk kD,fun _=>h,fun h=>MO rfl h,fun _=>rfl,by show (-12:Int)≤0;decide,by show (0:Int)≤12;decide,fun i hi=>MO hi (Mk i)⟩,by
  have:0<3^d:=Nat.pow_pos kD
  show 3*1≤3^(d+1)
  rw[JY];omega⟩
theorem GrT.one {d:Nat}{op n:Int}{t:Tm}(x:GrT d t)(ha:d8 op=1)(a:op≠8→n=0)(h1 : -3≤n)(b:n≤3):GrT (d+1) (.mk op n 0 ⟨#[]⟩ [t]):=by
 refine ⟨⟨ha,fun _=>rfl,uk kD,fun h=>?_,fun _=>rfl,a,by show (-12:Int)≤n;omega,by show n≤12;omega,fun i hi=>?_⟩,?_⟩
 ·have h:op=2:=h
  rw[h] at ha;exact MO ha kD
 ·have:i=0:=by have:i<1:=hi;omega
  subst this;exact x.1
 ·show 3*((if op=11 then 2 else if op=8 then cd n else 1)*(0+bp d t))≤3^(d+1)
  have hf:(if op=11 then 2 else if op=8 then cd n else 1)≤3:=by
   unfold cd
   repeat' split
   all_goals omega
  have:=Nat.mul_le_mul hf x.2;rw[JY,Nat.zero_add,Nat.mul_left_comm,Nat.mul_comm (3^d)];exact this
theorem GrT.two {d:Nat}{op:Int}{t u:Tm}(x:GrT d t)(y:GrT d u)(ha:d8 op=2):GrT (d+1) (.mk op 0 0 ⟨#[]⟩ [t,u]):=by
 have b:op≠8:=fun h=>by rw[h] at ha;exact MO ha kD
 have a:op≠11:=fun h=>by rw[h] at ha;exact MO ha kD
 refine ⟨⟨ha,fun _=>rfl,uk kD,fun h=>?_,fun _=>rfl,fun _=>rfl,by show (-12:Int)≤0;decide,by show (0:Int)≤12;decide,fun i hi=>?_⟩,?_⟩
 ·have h:op=2:=h
  rw[h] at ha;exact MO ha kD
 ·have:i=0∨i=1:=by have:i<2:=hi;omega
  rcases this with rfl|rfl
  ·exact x.1
  ·exact y.1
 ·show 3*((if op=11 then 2 else if op=8 then cd 0 else 1)*(0+bp d t+bp d u))≤3^(d+1)
  rw[MM a,MM b,JY];have:=x.2;have:=y.2
  omega
section
variable {d:Nat} {h:Hp}
theorem nq:RZ h (false,.slice none 0 0,.slice none 0 0) 0:=⟨false,⟨none,0,none,0,rfl,ey _,ey _,SlO.nil,SlO.nil⟩,fun _=>rfl⟩
theorem EB {b:Bool}{e c:Option Addr}{a f k j:Nat}{q:Rat}(hz:RZ h (b,.slice e a f,.slice c k j) q):RmH (d+1) h ⟨1,0,b,e,a,f,c,k,j,⟨#[]⟩,none,0,0⟩ (.mk 1 0 q ⟨#[]⟩ []) :=
 ⟨rfl,rfl,hz,rfl,rfl,ey _,[],rfl,SlO.nil,fun i hi=>MO hi (Mk i)⟩
theorem AM {s:ByteArray}:RmH (d+1) h ⟨2,0,false,none,0,0,none,0,0,s,none,0,0⟩ (.mk 2 0 0 s []) :=
 ⟨rfl,rfl,nq,rfl,rfl,ey _,[],rfl,SlO.nil,fun i hi=>MO hi (Mk i)⟩
theorem xm {op n:Int}{p:RTm}{t:Tm}{b:Nat}(x:RmH d h p t)(a:SlO 7 bU aN h (some ⟨b,0,none⟩) [p]):RmH (d+1) h ⟨op,n,false,none,0,0,none,0,0,⟨#[]⟩,some ⟨b,0,none⟩,1,1⟩ (.mk op n 0 ⟨#[]⟩ [t]) :=
 ⟨rfl,rfl,nq,rfl,rfl,ey _,[p],rfl,a,fun i hi=>by
  have:i=0:=by have:i<1:=hi;omega
  subst this;exact x⟩
theorem FN {op:Int}{p q:RTm}{t u:Tm}{b:Nat}(x:RmH d h p t)(y:RmH d h q u)(a:SlO 7 bU aN h (some ⟨b,0,none⟩) [p,q]):RmH (d+1) h ⟨op,0,false,none,0,0,none,0,0,⟨#[]⟩,some ⟨b,0,none⟩,2,2⟩ (.mk op 0 0 ⟨#[]⟩ [t,u]) :=
 ⟨rfl,rfl,nq,rfl,rfl,ey _,[p,q],rfl,a,fun i hi=>by
  have:i=0∨i=1:=by have:i<2:=hi;omega
  rcases this with rfl|rfl
  ·exact x
  ·exact y⟩
end
theorem Rms.mono {d e:Nat}{h:Hp}{a:List RTm}{b:List Tm}(x:Rms d h a b)(u:d≤e):Rms e h a b:=⟨x.len,fun i hi=>(x.at_ i hi).mono u⟩
theorem Rms.set {d:Nat}{h:Hp}{a:List RTm}{b:List Tm}{r:RTm}{t:Tm}(x:Rms d h a b)(k:Nat)(y:RmH d h r t):Rms d h (a.set k r) (b.set k t):=by
 refine ⟨by simp[x.len],fun i hi=>?_⟩;rw[KP] at hi
 rw[Kl,Kl,ME,ME,x.len]
 by_cases e:k=i
 ·subst e
  rw[MN rfl,MN rfl,MN hi,MN hi];exact y
 ·rw[MM e,MM e,←Kl,←Kl];exact x.at_ i hi
def fi (s:ByteArray):Prop:=s.size≤1000
theorem At {s:ByteArray}(h:Dh s):fi s:=by
 rcases h with rfl|rfl|rfl<;>(unfold fi;decide)
theorem oA:fi ⟨#[]⟩:=by unfold fi;decide
def SpO (d:Nat)(h:Hp)(r:RTm)(t:Tm):Prop:=RmH (d+3) h r t∧SmT1 fi (d+3) t
theorem SpO.gw {d:Nat}{h h':Hp}{r:RTm}{t:Tm}(x:SpO d h r t)(u:Gw h h'):SpO d h' r t:=⟨x.1.gw u,x.2⟩
theorem eJ {d:Nat}{t:Tm}(w:WfT1 Dh d t):SmT1 fi d t:=w.sm (sm:=fi) (fun _ h=>At h) oA
theorem sY {α:Type}{l:List α}{k i:Nat}{x d:α}(p:α→Prop)(h:∀ i,i<l.length→p (l.getD i d))(a:p x)(hi:i<(l.set k x).length):p ((l.set k x).getD i d):=by
 rw[KP] at hi
 rw[Kl,ME]
 by_cases e:k=i
 ·subst e
  rw[MN rfl,MN hi];exact a
 ·rw[MM e,←Kl];exact h i hi
theorem p9 {α:Type}{l:List α}{i:Nat}{x d:α}(p:α→Prop)(h:∀ i,i<l.length→p (l.getD i d))(a:p x)(hi:i<(l++[x]).length):p ((l++[x]).getD i d):=by
 rw[zY,Mf] at hi
 rw[cO]
 by_cases e:i<l.length
 ·rw[MN e];exact h i e
 ·rw[MM e,MN oM];exact a
theorem gp {d:Nat}{op n:Int}{q:Rat}{s:ByteArray}{ks:List Tm}(c:ks.length≤3)(a : -1000≤op∧op≤1000)(b : -1000≤n∧n≤1000)(h:LQ 1 q)(e:fi s)(f:∀ i,i<ks.length→SmT1 fi d (ks.getD i bv)):SmT1 fi (d+1) (.mk op n q s ks):=⟨c,a,b,h,e,f⟩
theorem pR {d:Nat}{n:Int}{t:Tm}(a : -1000≤n∧n≤1000)(h:SmT1 fi d t):SmT1 fi (d+1) (.mk 8 n 0 ⟨#[]⟩ [t]) :=
 ⟨by show 1≤3;decide,by show (-1000:Int)≤8∧(8:Int)≤1000;decide,a,uk kD,oA,fun i hi=>by
  have:i=0:=by have:i<1:=hi;omega
  subst this;exact h⟩
theorem He (e:Int):aY e 4=0∨aY e 4=1∨aY e 4=2∨aY e 4=3:=by have:=cH e 4 oM;omega
theorem mi {s:ByteArray}(h:bI s=true):fi s:=by
 have:=oT h
 unfold fi;omega
theorem BY:∀ s,fi s→∀ (w:World) (h:Hp),G w h→Calls Tryz.prog 79 #[.string s] w (Ret w h (fun v _=>∃ b,v=.bool b∧b=bI s)):=fun s a w h g=>(En s (by unfold fi at a;omega) w h g).mono fun e w' ⟨v,h',e1,u,e2⟩=>⟨v,h',e1,u,_,e2,rfl⟩
theorem TmH.cut {ok:ByteArray→Prop}{h:Hp}:∀ {e d:Nat} {p:PTm} {t:Tm},TmH e h p t→WfT ok d t→TmH d h p t
 | _,0,_,_,_,x=>x.elim
 | 0,_,_,_,x,_=>x.elim
 | e+1,d+1,p,t,⟨h1,h2,h3,h4,h5,h6,ps,h7,h8,h9⟩,⟨_,_,_,_,_,_,_,_,k⟩=>⟨h1,h2,h3,h4,h5,h6,ps,h7,h8,fun i hi=>(h9 i hi).cut (k i hi)⟩
theorem PtH.cut {ok:ByteArray→Prop}{h:Hp}{d:Nat}{p:PTm}{t:Tm}(x:PtH h p t)(y:WfT ok d t):TmH d h p t:=by obtain ⟨e,x⟩:=x;exact x.cut y
theorem wh (s:ByteArray)(I:s.size≤65536)(n:Nat)(t:Tm)(b:Nat)(H:dO G8 (fun _=>none) s n .sum 0=some (.ok t b))(B:sk s b=s.size)(d:Nat)(L:d≤24)(k:WfT (fun s=>bI s=true) d t)(O:bp d t≤1000)(w:World)(h:Hp)(g:G w h):CR 26 #[.string s] w h (fun v h1=>∃ p,v=.tuple #[az p,.agg #[iV 0,iV 0,iV 0]]∧TmH d h1 p t):=by
 have a:=sS g;refine go Tryz.func26 [(0,.string s)] rfl (av (lA 2 43 dS a (fun y w2 Q a=>lA 3 76 ([iV 0,iV 0,iV 0]) a (fun C S M a=>ah (aa a [.m 7 0,.v 8 (nV s.size)] ?_)))));have u:(decide ((65536:Int)<(s.size:Int)))=false:=decide_eq_false oM;refine lB 9 u (af (cK (aa a [.m 12 0,.v 13 (.agg #[.string s,iV 0,iV 0])] (lA 14 116 ([.string s,iV 0,iV 0]) a (fun b8 U _ a=>lL a [.m 4 14] (aI (lL a [.m 15 4] (d6 16 ((Id Fk Fi n).1 b8 s oM 0 (K7 _) 0 t b H _ _ a.g (a.own 0) (a.jk 0)) ?_))))))));rintro _ _ _ e ⟨z,p,rfl,j,F,D,J⟩;replace a:=(a.stepM 0 e F).to [⟨b8,116,[.string s,nV b,iV 0]⟩,⟨C,76,[iV 0,iV 0,iV 0]⟩,⟨y,43,[iV 0,iV 0,qF,uV 0,eS,uV 0,eS,eS,sZ]⟩] [];replace a:=((a.a_Seg D).add (K:=fun l=>PtH l p t) J);refine lL a [.m 5 16] (ah (aa a [.m 17 5,.v 18 qT] (ak (aa a [.m 19 4] (d6 20 (oQ b8 s oM b j 0 _ _ a.g (a.own 0) (a.jk 0)) ?_)))));rintro _ _ _ i ⟨rfl,c⟩;rw[B] at c
 rw[B];replace a:=(a.stepM 0 i c).to [⟨b8,116,[.string s,nV s.size,iV 0]⟩,⟨C,76,[iV 0,iV 0,iV 0]⟩,⟨y,43,[iV 0,iV 0,qF,uV 0,eS,uV 0,eS,eS,sZ]⟩] [];refine aI (lL a [.m 21 4,.v 22 (pB b8),.v 23 (qP b8 1),.o 24 (nV s.size) 0 1 1,.m 25 0,.v 26 (nV s.size)] ?_);have za:(decide ((s.size:Int)<(s.size:Int)))=false:=decide_eq_false oM;refine lB 27 za (af (cK (cQ (aa a [.m 34 5,.v 35 qF] (af (cK (cQ (aa a [.m 42 5,.v 43 (pB z)] (lH 44 (az p) a a.f.2.1 ?_)))))))));refine ag 45 a ((by have x:=sf bI fi BY (fun s l=>mi l) oA d p t L _ _ a.g ((a.f.1).cut k) k;rw[MM oM] at x;exact x)) (fun _ _ a=>lL a [.m 6 45] (aI (lL a [.m 46 6,.v 47 qF] (af (cK (aa a [.m 51 5,.v 52 (pB z)] (lH 53 (az p) a a.f.2.1 ?_)))))));exact lL a [.v 54 (.agg #[iV 0,iV 0,iV 0])] (lP 2 0 (bg p) a (fun _ a=>lP 1 0 ([iV 0,iV 0,iV 0]) a (fun _ a=>ac a [(2,0,9),(1,0,3)] (.tuple #[az p,.agg #[iV 0,iV 0,iV 0]]) (⟨p,rfl,(a.f.1).cut k⟩))))
theorem jt (q:Rat)(w:World)(h:Hp)(g:G w h):CV 82 #[qv q] w h (az ⟨1,0,q,⟨#[]⟩,none,0,0⟩):=by
 have a:=sS g;exact go Tryz.func82 [(0,qv q)] rfl (av (lA 1 40 (qc q) a (fun b w2 f a=>lA 2 43 dS a (fun c i d a=>aI (lL a [.o 3 (qv q) 1 0 5,.v 4 (.agg #[iV 1,iV 0,.bool (ai q.num),uV (lo (ab q.num)),.string (hi (ab q.num)),uV (lo (qd q)),.string (hi (qd q)),eS,sZ])] (lP 0 0 ([iV 1,iV 0,.bool (ai q.num),uV (lo (ab q.num)),.string (hi (ab q.num)),uV (lo (qd q)),.string (hi (qd q)),eS,sZ]) a (fun e a=>ac a [(0,0,9)] (.agg #[iV 1,iV 0,.bool (ai q.num),uV (lo (ab q.num)),.string (hi (ab q.num)),uV (lo (qd q)),.string (hi (qd q)),eS,sZ]) rfl)))))))
theorem jR (n:Int)(h0 : -1000≤n)(h1:n≤1000)(w:World)(h:Hp)(g:G w h):CV 85 #[iV n] w h (az ⟨1,0,((n:Int):Rat),⟨#[]⟩,none,0,0⟩):=by
 have a:=sS g;exact go Tryz.func85 [(0,iV n)] rfl (av (lA 2 43 dS a (fun d w2 f a=>aI (lL a [.m 3 0] (ag 4 a (C5 (n) oM oM _ _ a.g) (fun e i a=>ag 5 a (jt (((n:Int):Rat)) _ _ a.g) (fun b j a=>lP 0 0 (bg (⟨1,0,((n:Int):Rat),⟨#[]⟩,none,0,0⟩:PTm)) a (fun c a=>ac a [(0,0,9)] (az (⟨1,0,((n:Int):Rat),⟨#[]⟩,none,0,0⟩:PTm)) rfl))))))))
theorem GL (p:PTm)(n:Int)(e:Bool)(h0 : -1000≤n)(h1:n≤1000)(f:LQ 100000000 p.q)(i:p.op=1→(cX p.q ((n:Int):Rat) == 0)=e)(c:p.op≠1→e=false)(w:World)(h:Hp)(g:G w h):CV 83 #[az p,iV n] w h (.bool e):=by
 have a:=sS g;refine go Tryz.func83 [(0,az p),(1,iV n)] rfl (av (lA 2 43 (bg p) a (fun j w2 o a=>lL a [.v 4 qF] (ah (cR 11 [] mixed a ar ?_)))));refine eV 0 5 (pB j) (eO 1 6 [(0,0,1)] (iV p.op) a ?_);cases b:((p.op:Int) == (1:Int))
 ·
  have d:=ae b;exact eB 2 7 b (eV 3 8 qF (eG 4 9 (eG 5 10 (eG 6 11 (eG 7 12 (eG 8 13 (eG 9 14 (eV 10 15 qF (ck a (fun u k a=>tV 11 4 qF (tN (kX (a.ret [] qF (congrArg Mg (by first|exact (c oM).symm|(rw[←i oM];exact (by assumption:(_ == _)=_).symm))))))))))))))))
 have d:=ML b;refine eB 2 7 b (eV 3 8 qT (eV 4 9 (qP j 2) (eO 5 10 [(0,2,5)] (qv p.q) a (eV 6 11 (iV n) (aq 7 12 a (fun _ _ a=>C5 (n) oM oM _ _ a.g) (fun l x a=>aq 8 13 a (fun _ _ a=>uE p.q ((n:Int):Rat) f ((LQ.int oM oM).mono oM) _ _ a.g) (fun y _ a=>?_)))))));cases za:((cX p.q ((n:Int):Rat):Int) == (0:Int))
 ·
  have zb:=ae za;exact eB 9 14 za (eV 10 15 qF (ck a (fun _ _ a=>tV 11 4 qF (tN (kX (a.ret [] qF (congrArg Mg (by first|exact (c oM).symm|(rw[←i oM];exact (by assumption:(_ == _)=_).symm)))))))))
 have zb:=ML za;exact eB 9 14 za (eV 10 15 qT (ck a (fun _ _ a=>tV 11 4 qT (tN (kX (a.ret [] qT (congrArg Mg (by first|exact (c oM).symm|(rw[←i oM];exact (by assumption:(_ == _)=_).symm)))))))))
theorem wH (op n:Int)(q:Rat)(s:ByteArray)(A:Option Addr)(c:Nat)(ps:List PTm)(z:ps.length≤2)(hnf:∃ i,i<ps.length∧(ps.getD i au).op≠1)(w:World)(h:Hp)(g:G w h)(I:SlO 9 bg au h A ps):CV 81 #[pW op n q s A ps.length c] w h (.tuple #[.agg #[.bool false,uV 0,eS,uV 0,eS],.bool false]):=by
 have a:=((sS g).aS I);refine go Tryz.func81 [(0,pW op n q s A ps.length c)] rfl (av (lA 1 43 (pG op n q s A ps.length c) a (fun l w2 O a=>lA 2 40 da a (fun x Q B a=>lL a [.v 3 qF] (ah (aa a [.v 8 (qP l 8),.o 9 (qS A ps.length c) 1 8 1,.v 10 (nV ps.length)] ?_))))));cases b:((ps.length:Int) == (0:Int))
 ·
  have d:=ae b;refine lB 11 b (af (cK (cQ (aa a [.v 13 (qP l 8),.o 14 (qS A ps.length c) 1 8 1,.v 15 (nV ps.length),.v 16 (iV 0)] (a8 ?_)))));refine bH _ (CG.loop (fun p Γ J=>∃ (k:Nat) (j:Hp),p=ps.length-k∧Γ=[(1,pB l),(2,pB x),(14,qS A ps.length c),(15,nV ps.length),(16,nV k)]∧SS w h J j [⟨x,40,[qF,uV 0,eS,uV 0,eS]⟩,⟨l,43,pG op n q s A ps.length c⟩] [] [fun j=>SlO 9 bg au j A ps]∧k≤ps.length∧(∀ i,i<k→(ps.getD i au).op=1)) _ ⟨0,B,rfl,rfl,a.to _ _,K7 _,(fun i hi=>MO hi (Mk i))⟩ ?_);rintro _ _ L ⟨k,U,y,rfl,a,S,e⟩;refine av ?_;cases za:(decide ((k:Int)<(ps.length:Int)))
  ·
   have C:=oF za;refine lB 17 za (ah (cv (CG.exit ?_)))
   show CG _ _ _ _ _ _ _ _
   refine av ?_
   exfalso
   obtain ⟨i,hi,u⟩:=hnf;exact u (e i oM)
  have C:=oT za;refine lB 17 za (ah (ce (cK (cQ (kZ (av (lX 18 A ps.length c 9 (k:Nat) k ((a.f.1).ok oM) ?_)))))));refine lH 19 (az (ps.getD k au)) a ((a.f.1).el k oM) (lA 5 43 dS a (fun K _ D a=>lP 0 0 (bg (ps.getD k au)) a (fun _ a=>aI (lL a [.v 20 (pB K),.o 21 (iV ((ps.getD k au).op)) 0 0 1] ?_))));cases zb:(((ps.getD k au).op:Int) != (1:Int))
  ·
   have F:=aJ zb;refine lB 22 zb (af (cK (kQ (bD 24 ((k:Nat)+1) (k+1) ?_))));refine lL a [.m 16 24] (lD ?_);intro M H;replace a:=a.drop 1 0;refine ⟨_,_,?_,⟨k+1,D,rfl,rfl,a.to _ _,oM,(fun i hi=>by rcases Mm.1 hi with j|rfl;exact e i j;omega)⟩,H.to _ kR⟩
   omega
  have F:=aW zb;exact lB 22 zb (ak (aa a [.v 23 eb] (lP 1 0 da a (fun _ a=>lL a [.v 3 qF] (ac a [(1,0,5)] (.tuple #[.agg #[qF,uV 0,eS,uV 0,eS],qF]) rfl)))))
 have d:=ML b;exact lB 11 b (ak (aa a [.v 12 eb] (lP 0 0 da a (fun _ a=>lL a [.v 3 qF] (ac a [(0,0,5)] (.tuple #[.agg #[qF,uV 0,eS,uV 0,eS],qF]) rfl)))))
theorem uK (n:Int)(q:Rat)(s:ByteArray)(A:Option Addr)(c:Nat)(b d:PTm)(hnf:∃ i,i<([b,d]:List PTm).length∧(([b,d]:List PTm).getD i au).op≠1)(e:Bool)(y:LQ 100000000 b.q)(x:LQ 100000000 d.q)(j:(((b):PTm).op=1→(cX ((b):PTm).q ((0:Int):Rat) == 0)=false)∧(((b):PTm).op≠1→false=false))(u:(((d):PTm).op=1→(cX ((d):PTm).q ((0:Int):Rat) == 0)=false)∧(((d):PTm).op≠1→false=false))(k:(((b):PTm).op=1→(cX ((b):PTm).q ((1:Int):Rat) == 0)=false)∧(((b):PTm).op≠1→false=false))(p:(((d):PTm).op=1→(cX ((d):PTm).q ((1:Int):Rat) == 0)=e)∧(((d):PTm).op≠1→e=false))  (w:World)(h:Hp)(g:G w h)(D:SlO 9 bg au h A ([b,d]:List PTm)):CV 50 #[pW 5 n q s A 2 c] w h (az (if e=true then b else ⟨5,n,q,s,A,2,c⟩)):=by
 have a:=((sS g).aS D);have z:([b,d]:List PTm).length=2:=rfl;refine go Tryz.func50 [(0,pW 5 n q s A 2 c)] rfl (av (lA 1 43 (pG 5 n q s A 2 c) a (fun l w2 J a=>lA 2 43 dS a (fun C K F a=>ah (aa a [.o 6 (pW 5 n q s A 2 c) 1 0 9] (ag 7 a (wH 5 n q s A c ([b,d]:List PTm) (by rw[z];omega) hnf _ _ a.g a.f.1) (fun H L a=>lL a [.m 5 7,.v 8 eb,.v 9 qF] (lA 3 40 da a (fun I _ _ a=>lP 0 0 da a (fun _ a=>lL a [.m 4 9] (aI (lL a [.m 10 4] (af (cK (cQ (aa a [.v 13 (pB l),.o 14 (iV 5) 2 0 1] (a8 (aa a [.v 16 qF,.m 15 16] (af (aa a [.v 36 qF,.m 35 36] (af (aa a [.v 58 qT,.m 57 58] (ak (cQ (aa a [.v 59 (qP l 8),.o 60 (qS A 2 c) 2 8 1] (lX 61 A 2 c 9 0 0 ((a.f.1).ok oM) ?_))))))))))))))))))))))))));refine lH 62 (az (([b,d]:List PTm).getD 0 au)) a ((a.f.1).el 0 oM) (ag 63 a (GL (([b,d]:List PTm).getD 0 au) 0 false kD kD y j.1 j.2 _ _ a.g) (fun _ _ a=>lL a [.m 64 63,.v 65 (qP l 8),.o 66 (qS A 2 c) 2 8 1] (lX 67 A 2 c 9 1 1 ((a.f.1).ok oM) ?_)));refine lH 68 (az (([b,d]:List PTm).getD 1 au)) a ((a.f.1).el 1 oM) (ag 69 a (GL (([b,d]:List PTm).getD 1 au) 0 false kD kD x u.1 u.2 _ _ a.g) (fun _ _ a=>lL a [.v 70 qF] (af (cK (cQ (aa a [.v 72 (qP l 8),.o 73 (qS A 2 c) 2 8 1] (lX 74 A 2 c 9 0 0 ((a.f.1).ok oM) ?_)))))));refine lH 75 (az (([b,d]:List PTm).getD 0 au)) a ((a.f.1).el 0 oM) (ag 76 a (GL (([b,d]:List PTm).getD 0 au) 1 false kD kD y k.1 k.2 _ _ a.g) (fun _ _ a=>af (cK (aa a [.v 81 (qP l 8),.o 82 (qS A 2 c) 2 8 1] (lX 83 A 2 c 9 1 1 ((a.f.1).ok oM) ?_)))));refine lH 84 (az (([b,d]:List PTm).getD 1 au)) a ((a.f.1).el 1 oM) (ag 85 a (GL (([b,d]:List PTm).getD 1 au) 1 e kD kD x p.1 p.2 _ _ a.g) (fun _ _ a=>?_));cases B:(e)
 ·
  refine lN (bH [(1,pB l),(2,pB C),(85,qF)] ?_);exact cv (cK (aa a [.o 129 (pW 5 n q s A 2 c) 2 0 9] (lP 1 0 (pG 5 n q s A 2 c) a (fun _ a=>ac a [(1,0,9)] (pW 5 n q s A 2 c) (by first|rfl|(rw[(by assumption:e=false)];rfl))))))
 refine lN (bH [(1,pB l),(2,pB C),(85,qT)] ?_);refine ce (aa a [.v 86 (qP l 8),.o 87 (qS A 2 c) 2 8 1] (lX 88 A 2 c 9 0 0 ((a.f.1).ok oM) ?_));exact lH 89 (az (([b,d]:List PTm).getD 0 au)) a ((a.f.1).el 0 oM) (lP 1 0 (bg (([b,d]:List PTm).getD 0 au)) a (fun _ a=>ac a [(1,0,9)] (az (([b,d]:List PTm).getD 0 au)) (by first|rfl|(rw[(by assumption:e=true)];rfl))))
theorem pA (n:Int)(q:Rat)(s:ByteArray)(A:Option Addr)(c:Nat)(b:PTm)(hnf:∃ i,i<([b]:List PTm).length∧(([b]:List PTm).getD i au).op≠1)(k:n≠0)(w:World)(h:Hp)(g:G w h)(l:SlO 9 bg au h A ([b]:List PTm)):CV 50 #[pW 8 n q s A 1 c] w h (az (if n=1 then b else ⟨8,n,q,s,A,1,c⟩)):=by
 have a:=((sS g).aS l);have e:([b]:List PTm).length=1:=rfl;refine go Tryz.func50 [(0,pW 8 n q s A 1 c)] rfl (av (lA 1 43 (pG 8 n q s A 1 c) a (fun d w2 y a=>lA 2 43 dS a (fun B z p a=>ah (aa a [.o 6 (pW 8 n q s A 1 c) 1 0 9] (ag 7 a (wH 8 n q s A c ([b]:List PTm) (by rw[e];omega) hnf _ _ a.g a.f.1) (fun u C a=>lL a [.m 5 7,.v 8 eb,.v 9 qF] (lA 3 40 da a (fun x _ _ a=>lP 0 0 da a (fun _ a=>lL a [.m 4 9] (aI (lL a [.m 10 4] (af (cK (cQ (aa a [.v 13 (pB d),.o 14 (iV 8) 2 0 1] (a8 (aa a [.v 16 qF,.m 15 16] (af (aa a [.v 36 qF,.m 35 36] (af (aa a [.v 58 qF,.m 57 58] (af (aa a [.v 91 qF,.m 90 91] (af (aa a [.v 102 qF,.m 101 102] (af (aa a [.v 117 qT,.m 116 117] (ak (cQ (aa a [.v 118 (qP d 1),.o 119 (iV n) 2 1 1] ?_)))))))))))))))))))))))))))))));have j:((n:Int) == (0:Int))=false:=bJ oM;refine lB 120 j (af (cK (aa a [.v 122 (qP d 1),.o 123 (iV n) 2 1 1] ?_)));cases za:((n:Int) == (1:Int))
 ·
  have zb:=ae za;exact lB 124 za (af (cK (aa a [.o 129 (pW 8 n q s A 1 c) 2 0 9] (lP 1 0 (pG 8 n q s A 1 c) a (fun _ a=>ac a [(1,0,9)] (pW 8 n q s A 1 c) (by rw[MM oM];rfl))))))
 have zb:=ML za;refine lB 124 za (ak (aa a [.v 125 (qP d 8),.o 126 (qS A 1 c) 2 8 1] (lX 127 A 1 c 9 0 0 ((a.f.1).ok oM) ?_)));exact lH 128 (az (([b]:List PTm).getD 0 au)) a ((a.f.1).el 0 oM) (lP 1 0 (bg (([b]:List PTm).getD 0 au)) a (fun _ a=>ac a [(1,0,9)] (az (([b]:List PTm).getD 0 au)) (by rw[MN oM];rfl)))
section
variable {M:Ms} {P:Program} {n:Nat} {N R:Po} {X:Nat→Po} {ops:Array Oper} {k0:Nat} {L:Array Bool} {Γ:bz} {w:World} {h:Hp} {w0:World} {h0:Hp} {B:List Bx} {Rs:List Rw} {F:List (Hp→Prop)}
def rK (ops:Array Oper)(k0:Nat)(L:Array Bool)(i j:Nat):Bool :=
  decide (i<ops.size) && decide (j<ops.size) && decide (k0≤i) && decide (k0≤j) && g9 ops && (Region.ready .any ops L == [i,j])
theorem A.two {a:Act}{i j:Nat}(h:rK ops k0 L i j=true){Q:Exit→Act→World→Prop}{e R2:Value→World→Prop}(h1:OpR P ops (ao ops i) a w e)(o:OpR P ops (ao ops j) a w R2)(k:∀ v w',e v w'→Tl M w w')(d:∀ v w',R2 v w'→Tl M w w')
  (c:∀ v w',e v w'→A M P ops Q k0 (L.setIfInBounds i true) (a.put (ao ops i).dst v) w')(f:∀ v w',R2 v w'→A M P ops Q k0 (L.setIfInBounds j true) (a.put (ao ops j).dst v) w'):A M P ops Q k0 L a w:=by
 unfold rK at h
 simp only[i1,decide_eq_true_eq,beq_iff_eq] at h
 obtain ⟨⟨⟨⟨⟨c1,c2⟩,p⟩,u⟩,_⟩,l⟩:=h;refine A.intro (fun h0=>by rw[l] at h0;cases h0) (fun q b=>?_);rw[l] at b
 rcases g7.1 b with rfl|b
 ·exact OpR.wpOp (bR c1) h1 (fun v w' hr=>⟨Rl.tl p (k v w' hr),c v w' hr⟩)
 ·rw[pa] at b
  subst b;exact OpR.wpOp (bR c2) o (fun v w' hr=>⟨Rl.tl u (d v w' hr),f v w' hr⟩)
def Hg (n:Nat)(ops:Array Oper)(Γ:bz)(i t:Nat):Bool:=g9 ops && decide (i<ops.size) && bj Γ (ao ops i) && ((ao ops i).dst == some t) && decide (t<n) && (bA ops Γ (ao ops i) == some true)
theorem qQ {i t:Nat}{v:Value}(b:Hg n ops Γ i t=true)(hr:(execOp (ev Γ) (ao ops i)).run P w=.ok (.value v) w){a:Act}(c:Kn n a Γ):OpR P ops (ao ops i) a w (fun u w1=>u=v∧w1=w)∧(ao ops i).dst=some t∧t<n:=by
 unfold Hg at b
 simp only[i1,decide_eq_true_eq,beq_iff_eq] at b
 obtain ⟨⟨⟨⟨⟨h,h0⟩,e⟩,d⟩,j⟩,f⟩:=b;exact ⟨⟨c.want f,.inl ⟨v,w,by rw[c.exec (hO h i _ · · (bR h0)) e];exact hr,rfl,rfl⟩⟩,d,j⟩
def IC (ops:Array Oper)(Γ:bz)(i:Nat):Bool:=g9 ops && decide (i<ops.size) && bj Γ (ao ops i) && ((ao ops i).dst == none) && (bA ops Γ (ao ops i) == some true)
theorem ES {i:Nat}{w':World}(b:IC ops Γ i=true)(hr:(execOp (ev Γ) (ao ops i)).run P w=.ok .skip w'){a:Act}(c:Kn n a Γ):OpR P ops (ao ops i) a w (fun u w1=>u=undef∧w1=w')∧(ao ops i).dst=none:=by
 unfold IC at b
 simp only[i1,decide_eq_true_eq,beq_iff_eq] at b
 obtain ⟨⟨⟨⟨h,h0⟩,e⟩,d⟩,f⟩:=b;exact ⟨⟨c.want f,.inr (.inl ⟨w',by rw[c.exec (hO h i _ · · (bR h0)) e];exact hr,rfl,rfl⟩)⟩,d⟩
theorem Js (i t:Nat)(ps:List (Nat × Nat × Nat))(v:Value)(j o:Nat)(b:List (Nat × Nat × Nat))(l:Value)(s:SS w0 h0 w h B Rs F)(H:AG M P n N R X ops k0 (L.setIfInBounds i true) ((t,v)::Γ) w)(C:AG M P n N R X ops k0 (L.setIfInBounds j true) ((o,l)::Γ) w)
  (d:(rK ops k0 L i j && Hg n ops Γ i t && Hg n ops Γ j o)=true:=by kernel_rfl)(k:(bY B ps && bY B b)=true:=by kernel_rfl)(z:bS P (execOp (ev Γ) (ao ops i)) (cA B ps)=some (.value v,bT B ps):=by kernel_rfl)(f:bS P (execOp (ev Γ) (ao ops j)) (cA B b)=some (.value l,bT B b):=by kernel_rfl):AG M P n N R X ops k0 L Γ w:=by
 simp only[i1] at d k
 intro a c;obtain ⟨x,p,u⟩:=qQ d.1.2 (bL _ _ _ _ z (cu s.st.own ps k.1)) c;obtain ⟨D,y,l2⟩:=qQ d.2 (bL _ _ _ _ f (cu s.st.own b k.2)) c;refine A.two d.1.1 x D (fun _ _ e=>e.2▸Tl.refl _ _) (fun _ _ e=>e.2▸Tl.refl _ _) ?_ ?_
 ·rintro _ _ ⟨rfl,rfl⟩;rw[p];exact H _ (c.put u _)
 ·rintro _ _ ⟨rfl,rfl⟩;rw[y];exact C _ (c.put l2 _)
theorem Ju (i t:Nat)(ps:List (Nat × Nat × Nat))(v:Value)(q j o:Nat)(cs:List Value)(s:SS w0 h0 w h B Rs F)(Q:AG M P n N R X ops k0 (L.setIfInBounds i true) ((t,v)::Γ) w)(K:∀ w',SS w0 h0 w' h (fY B j o cs) Rs F→AG M P n N R X ops k0 (L.setIfInBounds q true) Γ w')
  (p:(rK ops k0 L i q && Hg n ops Γ i t && IC ops Γ q)=true:=by kernel_rfl)(J:bY B ps=true:=by kernel_rfl)(I:bS P (execOp (ev Γ) (ao ops i)) (cA B ps)=some (.value v,bT B ps):=by kernel_rfl)
  (y:(decide (j<B.length) && decide (o+cs.length≤(aA B j).vs.length))=true:=by kernel_rfl)(u:dj P (execOp (ev Γ) (ao ops q))=some (.skip,mm (aA B j).b o cs):=by kernel_rfl)(hz:M.z=none:=by rfl):AG M P n N R X ops k0 L Γ w:=by
 simp only[i1] at p
 have c:=y
 simp only[i1,decide_eq_true_eq] at c
 intro a l;obtain ⟨D,x,C⟩:=qQ p.1.2 (bL _ _ _ _ I (cu s.st.own ps J)) l;obtain ⟨w',f,d,k⟩:=eh _ _ _ _ _ w u (s.st.own _ (bB c.1)) c.2;obtain ⟨O,H⟩:=ES p.2 f l;refine A.two p.1.1 D O (fun _ _ e=>e.2▸Tl.refl _ _) (fun _ _ _=>Tl.none hz _ _) ?_ ?_
 ·rintro _ _ ⟨rfl,rfl⟩;rw[x];exact Q _ (l.put C _)
 ·rintro _ _ ⟨rfl,rfl⟩
  rw[H];exact K _ (s.put0 c.1 d (s.st.put s.g0 c.1 d k) (kN c.1)) _ l
end
theorem HL (c d:PTm)(hnf:∃ i,i<([c,d]:List PTm).length∧(([c,d]:List PTm).getD i au).op≠1)(e:Bool)(z:LQ 100000000 c.q)(x:LQ 100000000 d.q)(j:(((c):PTm).op=1→(cX ((c):PTm).q ((0:Int):Rat) == 0)=false)∧(((c):PTm).op≠1→false=false))(p:(((d):PTm).op=1→(cX ((d):PTm).q ((0:Int):Rat) == 0)=false)∧(((d):PTm).op≠1→false=false))(k:(((c):PTm).op=1→(cX ((c):PTm).q ((1:Int):Rat) == 0)=false)∧(((c):PTm).op≠1→false=false))(l:(((d):PTm).op=1→(cX ((d):PTm).q ((1:Int):Rat) == 0)=e)∧(((d):PTm).op≠1→e=false))  (w:World)(h:Hp)(g:G w h):CR 106 #[iV 5,az c,az d] w h (fun v h1=>∃ b,v=az (if e=true then c else ⟨5,0,0,⟨#[]⟩,sB b,2,2⟩)∧SlO 9 bg au h1 (sB b) ([c,d]:List PTm)):=by
 have a:=sS g;refine go Tryz.func106 [(0,iV 5),(1,az c),(2,az d)] rfl (av (lA 4 43 (bg c) a (fun D w2 F a=>lA 5 43 (bg d) a (fun I H C a=>lA 6 43 dS a (fun K B J a=>aI (lL a [.m 7 0,.o 8 (az c) 2 0 9,.o 9 (az d) 1 0 9] (lC 10 a (Dp 5 c d _ _ a.g) ?_)))))));rintro _ _ _ a ⟨u,rfl,y⟩;replace a:=a.aS y;exact ag 11 a (uK 0 0 ⟨#[]⟩ (sB u) 2 c d hnf e z x j p k l _ _ a.g a.f.1) (fun _ _ a=>lP 0 0 (bg (if e=true then c else ⟨5,0,0,⟨#[]⟩,sB u,2,2⟩)) a (fun _ a=>ac a [(0,0,9)] (az (if e=true then c else ⟨5,0,0,⟨#[]⟩,sB u,2,2⟩)) (⟨u,rfl,a.f.1⟩)))
theorem Bw (b:PTm)(i:b.op≠1)(w:World)(h:Hp)(g:G w h):CV 107 #[az b,iV 1] w h (az b):=by
 have a:=sS g;refine go Tryz.func107 [(0,az b),(1,iV 1)] rfl (av (lA 2 43 (bg b) a (fun d w2 u a=>lA 4 43 dS a (fun k x l a=>aI (lL a [.o 6 (az b) 1 0 9] (lC 7 a (xe 8 b _ _ a.g) ?_))))));rintro _ p y a ⟨d,rfl,e⟩;replace a:=a.aS e;exact lA 5 43 dS a (fun j _ _ a=>lP 0 0 (bg (⟨8,0,0,⟨#[]⟩,sB d,1,1⟩:PTm)) a (fun _ a=>aI (lL a [.m 8 1,.v 9 (qP j 1)] (lP 0 1 ([iV 1]) a (fun _ a=>aI (lL a [.o 10 (pW ((⟨8,0,0,⟨#[]⟩,sB d,1,1⟩:PTm).op) 1 ((⟨8,0,0,⟨#[]⟩,sB d,1,1⟩:PTm).q) ((⟨8,0,0,⟨#[]⟩,sB d,1,1⟩:PTm).s) ((⟨8,0,0,⟨#[]⟩,sB d,1,1⟩:PTm).A) ((⟨8,0,0,⟨#[]⟩,sB d,1,1⟩:PTm).m) ((⟨8,0,0,⟨#[]⟩,sB d,1,1⟩:PTm).c)) 0 0 9] (ag 11 a (pA 1 0 ⟨#[]⟩ (sB d) 1 b ⟨0,My,i⟩ kD _ _ a.g a.f.1) (fun _ _ a=>lP 1 0 (bg b) a (fun _ a=>ac a [(1,0,9)] (az b) rfl)))))))))
theorem CQ (s:ByteArray)(b:Option Addr)(c:Nat)(w:World)(h:Hp)(g:G w h):CV 65 #[.agg #[iV 2,iV 0,.bool false,uV 0,eS,uV 0,eS,.string s,.slice b 0 c],.string s] w h (.tuple #[.agg #[iV 2,iV 0,.bool false,uV 0,eS,uV 0,eS,.string s,.slice b 0 c],az (⟨1,0,((1:Int):Rat),⟨#[]⟩,none,0,0⟩:PTm)]):=by
 have a:=sS g;refine go Tryz.func65 [(0,.agg #[iV 2,iV 0,qF,uV 0,eS,uV 0,eS,.string s,qS b 0 c]),(1,.string s)] rfl (av (lA 2 43 ([iV 2,iV 0,qF,uV 0,eS,uV 0,eS,.string s,qS b 0 c]) a (fun d w2 k a=>lA 4 43 dS a (fun f l i a=>lA 5 43 dS a (fun p e j a=>ah (aa a [.v 12 (qP d 8),.o 13 (qS b 0 c) 2 8 1,.v 14 (iV 0),.v 15 qT] (ak (cQ (aa a [.v 16 (pB d),.o 17 (iV 2) 2 0 1,.v 18 qT,.m 19 18,.v 20 (qP d 7),.o 21 (.string s) 2 7 1,.m 22 1] (lV 23 qT ?_ (hr:=rb kR (E9 s))))))))))));refine lL a [.v 24 qT] (ak (cQ (cR 2 [] mixed a ar ?_)));exact eO 0 25 [(2,0,9)] (.agg #[iV 2,iV 0,qF,uV 0,eS,uV 0,eS,.string s,qS b 0 c]) a (aq 1 26 a (fun _ _ a=>jR 1 kD kD _ _ a.g) (fun _ _ a=>ck a (fun _ _ a=>tP 2 1 0 ([iV 2,iV 0,qF,uV 0,eS,uV 0,eS,.string s,qS b 0 c]) a (fun _ a=>tP 3 0 0 (bg (⟨1,0,((1:Int):Rat),⟨#[]⟩,none,0,0⟩:PTm)) a (fun _ a=>tN (kX (a.ret [(1,0,9),(0,0,9)] (.tuple #[.agg #[iV 2,iV 0,qF,uV 0,eS,uV 0,eS,.string s,qS b 0 c],az (⟨1,0,((1:Int):Rat),⟨#[]⟩,none,0,0⟩:PTm)]) rfl)))))))
theorem Gg:LQ 100000000 (0:Rat):=uk kD
theorem IN:LQ 100000000 (((1:Int)):Rat):=(LQ.int kD kD).mono kD
theorem IR:LQ 100000000 (((2:Int)):Rat):=(LQ.int kD kD).mono kD
theorem AY (s:ByteArray)(i:Option Addr)(j:Nat)(A:Option Addr)(c:Nat)(w:World)(h:Hp)(g:G w h)(B:SlO 9 bg au h A ([(⟨2,0,0,s,i,0,j⟩:PTm)]:List PTm)):CR 65 #[.agg #[iV 8,iV 2,.bool false,uV 0,eS,uV 0,eS,eS,.slice A 1 c],.string s] w h (fun v h1=>∃ C b,v=.tuple #[az ⟨8,2,0,⟨#[]⟩,sB C,1,1⟩,az ⟨5,0,0,⟨#[]⟩,sB b,2,2⟩]∧SlO 9 bg au h1 (sB b) [(⟨1,0,((2:Int):Rat),⟨#[]⟩,none,0,0⟩:PTm),(⟨2,0,0,s,i,0,j⟩:PTm)]):=by
 have a:=((sS g).aS B);have x:([(⟨2,0,0,s,i,0,j⟩:PTm)]:List PTm).length=1:=rfl;refine go Tryz.func65 [(0,.agg #[iV 8,iV 2,qF,uV 0,eS,uV 0,eS,eS,qS A 1 c]),(1,.string s)] rfl (av (lA 2 43 ([iV 8,iV 2,qF,uV 0,eS,uV 0,eS,eS,qS A 1 c]) a (fun p w2 K a=>lA 4 43 dS a (fun D L J a=>lA 5 43 dS a (fun H I M a=>ah (aa a [.v 12 (qP p 8),.o 13 (qS A 1 c) 2 8 1,.v 14 (iV 1),.v 15 qF] (af (cK (aa a [.v 30 (qP p 8),.o 31 (qS A 1 c) 2 8 1] (lX 32 A 1 c 9 0 0 ((a.f.1).ok oM) ?_))))))))));refine lH 33 (az (([(⟨2,0,0,s,i,0,j⟩:PTm)]:List PTm).getD 0 au)) a ((a.f.1).el 0 oM) (lL a [.m 34 1] (ag 35 a (CQ s i j _ _ a.g) (fun _ _ a=>lL a [.m 29 35,.v 36 (.agg #[iV 2,iV 0,qF,uV 0,eS,uV 0,eS,.string s,qS i 0 j]),.v 37 (az (⟨1,0,((1:Int):Rat),⟨#[]⟩,none,0,0⟩:PTm))] (lA 6 43 dS a (fun zb _ _ a=>lA 7 43 dS a (fun y _ _ a=>lP 1 0 ([iV 2,iV 0,qF,uV 0,eS,uV 0,eS,.string s,qS i 0 j]) a (fun _ a=>lP 0 0 (bg (⟨1,0,((1:Int):Rat),⟨#[]⟩,none,0,0⟩:PTm)) a (fun _ a=>aI (lL a [.o 38 (.agg #[iV 2,iV 0,qF,uV 0,eS,uV 0,eS,.string s,qS i 0 j]) 1 0 9] (lR 39 43 1 ([iV 2,iV 0,qF,uV 0,eS,uV 0,eS,.string s,qS i 0 j]) a (fun za _ _ a=>?_)))))))))));replace a:=a.aS (SlO.of_flat (sz:=9) (f:=bg) (d:=au) (b:=za) (o:=0) (l:=([(⟨2,0,0,s,i,0,j⟩:PTm)]:List PTm)) (fun _=>rfl) a.f.1);refine lL a [.m 8 39] (aI (lL a [.v 40 (.agg #[iV 0,iV 0,qF,uV 0,eS,uV 0,eS,eS,sZ]),.v 41 (.agg #[iV 0,iV 0,qF,uV 0,eS,uV 0,eS,eS,sZ])] (lA 9 43 dS a (fun z _ _ a=>lA 10 43 dS a (fun F _ _ a=>lP 1 0 dS a (fun _ a=>lP 0 0 dS a (fun _ a=>ah (aa a [.v 42 (qP p 8),.o 43 (qS A 1 c) 6 8 1,.v 44 (iV 1),.v 45 qF] (af (cK (aa a [.v 59 (pB p),.o 60 (iV 8) 6 0 1,.v 61 (qP p 1),.o 62 (iV 2) 6 1 1,.m 63 8,.v 64 (.agg #[iV 8,iV 2,qF,uV 0,eS,uV 0,eS,eS,qS (sB za) 1 1])] (ag 65 a (pA 2 0 ⟨#[]⟩ (sB za) 1 (⟨2,0,0,s,i,0,j⟩:PTm) ⟨0,My,by show ¬(2:Int)=1;decide⟩ kD _ _ a.g a.f.1) (fun _ _ a=>lP 5 0 (bg (⟨8,2,0,⟨#[]⟩,sB za,1,1⟩:PTm)) a (fun _ a=>ah (aa a [.v 66 (pB p),.o 67 (iV 8) 6 0 1] (a8 (cQ (aa a [.v 69 qF,.m 68 69] (lN (bH [(2,pB p),(4,pB D),(5,pB H),(6,pB zb),(7,pB y),(9,pB z),(10,pB F),(67,iV 8),(68,qF)] ?_))))))))))))))))))));refine cv (kQ (lL a [.v 70 qF,.m 68 70] (af (aa a [.v 77 qF,.m 76 77] (af (aa a [.v 86 qF,.m 85 86] (af (aa a [.v 98 qF,.m 97 98] (af (aa a [.v 102 qT,.m 101 102] (ak (av (ag 103 a (jR 0 kD kD _ _ a.g) (fun _ _ a=>lP 4 0 (bg (⟨1,0,((0:Int):Rat),⟨#[]⟩,none,0,0⟩:PTm)) a (fun _ a=>aI (lL a [.v 104 (qP p 1),.o 105 (iV 2) 6 1 1,.v 106 qT] (ak (cR 11 [] mixed a ar ?_))))))))))))))))));refine eV 0 107 (qP p 1) (eO 1 108 [(6,1,1)] (iV 2) a (eO 3 110 [(3,0,9)] (.agg #[iV 2,iV 0,qF,uV 0,eS,uV 0,eS,.string s,qS i 0 j]) a (eV 4 111 (qP p 1) (eO 5 112 [(6,1,1)] (iV 2) a (eV 6 113 (iV 1) (eO 9 116 [(2,0,9)] (az (⟨1,0,((1:Int):Rat),⟨#[]⟩,none,0,0⟩:PTm)) a (aq 2 109 a (fun _ _ a=>jR 2 kD kD _ _ a.g) (fun _ _ a=>aq 7 114 a (fun _ _ a=>Bw (⟨2,0,0,s,i,0,j⟩:PTm) (by show ¬(2:Int)=1;decide) _ _ a.g) (fun _ _ a=>eC 8 115 a (fun _ _ a=>HL (⟨1,0,((2:Int):Rat),⟨#[]⟩,none,0,0⟩:PTm) (⟨2,0,0,s,i,0,j⟩:PTm) ⟨1,Nat.one_lt_two,by show ¬(2:Int)=1;decide⟩ false IR Gg ⟨fun _=>by decide +kernel,fun e=>MO rfl e⟩ ⟨fun e=>MO e (by show ¬(2:Int)=1;decide),fun _=>rfl⟩ ⟨fun _=>by decide +kernel,fun e=>MO rfl e⟩ ⟨fun e=>MO e (by show ¬(2:Int)=1;decide),fun _=>rfl⟩ _ _ a.g) ?_)))))))));rintro _ _ _ _ _ a ⟨k,rfl,u⟩;replace a:=a.aS u;refine eC 10 117 a (fun _ _ a=>HL (⟨5,0,0,⟨#[]⟩,sB k,2,2⟩:PTm) (⟨1,0,((1:Int):Rat),⟨#[]⟩,none,0,0⟩:PTm) ⟨0,Nat.zero_lt_two,by show ¬(5:Int)=1;decide⟩ true Gg IN ⟨fun e=>MO e (by show ¬(5:Int)=1;decide),fun _=>rfl⟩ ⟨fun _=>by decide +kernel,fun e=>MO rfl e⟩ ⟨fun e=>MO e (by show ¬(5:Int)=1;decide),fun _=>rfl⟩ ⟨fun _=>by decide +kernel,fun e=>MO rfl e⟩ _ _ a.g) ?_;rintro _ _ _ _ _ a ⟨_,rfl,-⟩;refine ck a (fun _ _ a=>tP 11 4 0 (bg (⟨5,0,0,⟨#[]⟩,sB k,2,2⟩:PTm)) a (fun _ a=>tN (cQ (xD ⟨[],none⟩ 0 mixed ?_))));replace a:=a.drew;refine Js 0 182 [(5,0,9)] (az (⟨8,2,0,⟨#[]⟩,sB za,1,1⟩:PTm)) 1 183 [(4,0,9)] (az (⟨5,0,0,⟨#[]⟩,sB k,2,2⟩:PTm)) a ?_ ?_
 ·
  refine Ju 1 183 [(4,0,9)] (az (⟨5,0,0,⟨#[]⟩,sB k,2,2⟩:PTm)) 2 5 0 (bg (⟨8,2,0,⟨#[]⟩,sB za,1,1⟩:PTm)) a ?_ (fun _ a=>?_)
  ·
   exact tP 2 5 0 (bg (⟨8,2,0,⟨#[]⟩,sB za,1,1⟩:PTm)) a (fun _ a=>tP 3 4 0 (bg (⟨5,0,0,⟨#[]⟩,sB k,2,2⟩:PTm)) a (fun _ a=>tN (kX (a.ret [(5,0,9),(4,0,9)] (.tuple #[az (⟨8,2,0,⟨#[]⟩,sB za,1,1⟩:PTm),az (⟨5,0,0,⟨#[]⟩,sB k,2,2⟩:PTm)]) (⟨za,k,rfl,a.f.1⟩)))))
  exact tO 1 183 [(4,0,9)] (az (⟨5,0,0,⟨#[]⟩,sB k,2,2⟩:PTm)) a (tP 3 4 0 (bg (⟨5,0,0,⟨#[]⟩,sB k,2,2⟩:PTm)) a (fun _ a=>tN (kX (a.ret [(5,0,9),(4,0,9)] (.tuple #[az (⟨8,2,0,⟨#[]⟩,sB za,1,1⟩:PTm),az (⟨5,0,0,⟨#[]⟩,sB k,2,2⟩:PTm)]) (⟨za,k,rfl,a.f.1⟩)))))
 exact tO 0 182 [(5,0,9)] (az (⟨8,2,0,⟨#[]⟩,sB za,1,1⟩:PTm)) a (tP 2 5 0 (bg (⟨8,2,0,⟨#[]⟩,sB za,1,1⟩:PTm)) a (fun _ a=>tP 3 4 0 (bg (⟨5,0,0,⟨#[]⟩,sB k,2,2⟩:PTm)) a (fun _ a=>tN (kX (a.ret [(5,0,9),(4,0,9)] (.tuple #[az (⟨8,2,0,⟨#[]⟩,sB za,1,1⟩:PTm),az (⟨5,0,0,⟨#[]⟩,sB k,2,2⟩:PTm)]) (⟨za,k,rfl,a.f.1⟩))))))
theorem vF  (ok:ByteArray→Prop)(d:Nat)(Y:∀ (p:PTm) (t:Tm) (w:World) (h:Hp),G w h→TmH d h p t→WfT ok d t →  Calls Tryz.prog 21 #[az p] w (Ret w h (fun v h1=>∃ C,v=az C∧TmH d h1 C t)))(op n:Int)(q:Rat)(s:ByteArray)(A:Option Addr)(c:Nat)(ps:List PTm)(ks:List Tm)(hc:ps.length≤c)(U:ps.length≤2)(S:d8 op=(ks.length:Nat))(hq0:op≠1→q=0)(hq:LQ 3000 q)(hok:op=2→ok s)(hs0:op≠2→s=⟨#[]⟩)(hn0:op≠8→n=0)(hn1 : -12≤n)(V:n≤12)(Z:∀ i,i<ks.length→WfT ok d (ks.getD i bv))(w:World)(h:Hp)(g:G w h)(hK:SlO 9 bg au h A ps)(I:Tms d h ps ks):CR 21 #[pW op n q s A ps.length c] w h (fun v h1=>∃ C,v=az C∧TmH (d+1) h1 C (.mk op n q s ks)):=by
 have a:=(((sS g).aS hK).add (K:=fun e=>Tms d e ps ks) I);have W:=(a.f.1).len;refine go Tryz.func21 [(0,pW op n q s A ps.length c)] rfl (av (lA 1 43 (pG op n q s A ps.length c) a (fun j w2 h3 a=>lA 2 43 dS a (fun D w5 h6 a=>ah (aa a [.v 6 (qP j 8),.o 7 (qS A ps.length c) 1 8 1,.v 8 (nV ps.length)] ?_)))));cases u:((ps.length:Int) == (0:Int))
 ·
  have z:=ae u;refine lB 9 u (af (cK (aa a [.v 12 (qP j 8),.o 13 (qS A ps.length c) 1 8 1,.v 14 (nV ps.length)] (lK 15 43 ps.length 9 112 (.agg #[iV 0,iV 0,qF,uV 0,eS,uV 0,eS,eS,sZ]) bg au a (fun b8 w9 zd a=>?_)))));have M:(Am ps.length au).length=ps.length:=by simp
  refine lL a [.m 3 15] (ah (aa a [.v 16 (qP j 8),.o 17 (qS A ps.length c) 2 8 1,.v 18 (nV ps.length),.v 19 (iV 0)] (a8 ?_)));replace a:=a.add (K:=fun e=>TmsU d e 0 (Am ps.length au) ks) ((fun i hi=>MO hi (Mk i)));refine bH _ (CG.loop (fun H Γ w_=>∃ (k:Nat) (L:List PTm) (e:Hp),H=ps.length-k∧Γ=[(1,pB j),(2,pB D),(3,qS (sB b8) ps.length ps.length),(17,qS A ps.length c),(18,nV ps.length),(19,nV k)]∧SS w h w_ e [⟨b8,43,(L).flatMap bg⟩,⟨D,43,[iV 0,iV 0,qF,uV 0,eS,uV 0,eS,eS,sZ]⟩,⟨j,43,pG op n q s A ps.length c⟩] [] [fun e=>TmsU d e k L ks,fun e=>Tms d e ps ks,fun e=>SlO 9 bg au e A ps]∧k≤ps.length∧L.length=ps.length) _ ⟨0,Am ps.length au,zd,rfl,rfl,a.to _ _,K7 _,(by simp)⟩ ?_);rintro _ _ _ ⟨k,L,_,J,rfl,a,hk,B⟩;refine av ?_;cases za:(decide ((k:Int)<(ps.length:Int)))
  ·
   have zb:=oF za;refine lB 20 za (ah (cv (CG.exit ?_)))
   show CG _ _ _ _ _ _ _ _
   refine aa a [.m 30 3,.v 31 (qP j 8)] (lP 2 8 ([qS (sB b8) ps.length ps.length]) a (fun _ a=>aI ?_));have hkn:k=ps.length:=by omega
   obtain ⟨_,a,y,Q,O⟩:=a.pub 0;replace a:=(a.to [⟨D,43,[iV 0,iV 0,qF,uV 0,eS,uV 0,eS,eS,sZ]⟩,⟨j,43,pG op n q s (sB b8) ps.length ps.length⟩] []).aS (SlO.of_flat (sz:=9) (f:=bg) (d:=au) (b:=b8) (o:=0) (l:=L) (fun _=>rfl) y);replace a:=a.to [⟨D,43,[iV 0,iV 0,qF,uV 0,eS,uV 0,eS,eS,sZ]⟩,⟨j,43,pG op n q s (sB b8) ps.length ps.length⟩] [];exact lL a [.o 32 (pW op n q s (sB b8) ps.length ps.length) 1 0 9] (lP 0 0 (pG op n q s (sB b8) ps.length ps.length) a (fun _ a=>ac a [(0,0,9)] (pW op n q s (sB b8) ps.length ps.length) (⟨⟨op,n,q,s,sB b8,ps.length,ps.length⟩,rfl,by have e:=TmH.mk (op:=op) (n:=n) (q:=q) (s:=s) (c:=L.length) (Tms.of_u oM oM a.f.2.1) (nR _) (a.f.1);rw[B] at e;exact e⟩)))
  have zb:=oT za;refine lB 20 za (ah (ce (cK (cQ (kZ (aa a [.m 21 19] (lX 22 A ps.length c 9 (k:Nat) k ((a.f.r.1).ok oM) ?_)))))));refine lH 23 (az (ps.getD k au)) a ((a.f.r.1).el k oM) (lA 5 43 dS a (fun ze _ _ a=>lL a [.m 4 21] (lP 0 0 (bg (ps.getD k au)) a (fun _ a=>lN (kQ (lL a [.m 24 3,.m 25 4,.o 26 (az (ps.getD k au)) 0 0 9] (lC 27 a (Y (ps.getD k au) (ks.getD k bv) _ _ a.g ((a.f.2.1).at_ k oM) (Z k oM)) ?_)))))));rintro _ _ zf a ⟨x,rfl,F⟩;replace a:=(a.add (K:=fun e=>TmH d e x (ks.getD k bv)) F);refine lX 28 (sB b8) ps.length ps.length 9 (k:Nat) k rfl (lW 1 L bg 9 k x a oM (fun _ a=>?_));have X:((L).set k x).length=ps.length:=by rw[KP];exact B
  replace a:=a.to [⟨ze,43,bg (ps.getD k au)⟩,⟨b8,43,((L).set k x).flatMap bg⟩,⟨D,43,[iV 0,iV 0,qF,uV 0,eS,uV 0,eS,eS,sZ]⟩,⟨j,43,pG op n q s A ps.length c⟩] [];refine lN (kQ (bD 29 ((k:Nat)+1) (k+1) ?_));refine lL a [.m 19 29] (lD ?_);intro a_ ka;replace a:=(a.tl.tl.add (K:=fun e=>TmsU d e (k+1) ((L).set k x) ks) ((a.f.2.1).set oM a.f.1));replace a:=a.drop 1 0;refine ⟨_,_,?_,⟨k+1,(L).set k x,zf,rfl,rfl,a.to _ _,oM,X⟩,ka.to _ kR⟩
  omega
 have z:=ML u;exact lB 9 u (ak (aa a [.v 10 (qP j 8)] (lP 1 8 ([sZ]) a (fun _ a=>aI (lL a [.o 11 (.agg #[iV op,iV n,.bool (ai q.num),uV (lo (ab q.num)),.string (hi (ab q.num)),uV (lo (qd q)),.string (hi (qd q)),.string s,sZ]) 1 0 9] (lP 0 0 ([iV op,iV n,.bool (ai q.num),uV (lo (ab q.num)),.string (hi (ab q.num)),uV (lo (qd q)),.string (hi (qd q)),.string s,sZ]) a (fun _ a=>ac a [(0,0,9)] (.agg #[iV op,iV n,.bool (ai q.num),uV (lo (ab q.num)),.string (hi (ab q.num)),uV (lo (qd q)),.string (hi (qd q)),.string s,sZ]) (⟨⟨op,n,q,s,none,0,0⟩,rfl,by have e:ks=[]:=List.length_eq_zero_iff.1 oM;subst e;exact TmH.mk (ps:=[]) Tms.nil (nR _) SlO.nil⟩))))))))
theorem su (ok:ByteArray→Prop):∀ (d:Nat) (p:PTm) (t:Tm) (w:World) (h:Hp),G w h→TmH d h p t→WfT ok d t →  Calls Tryz.prog 21 #[az p] w (Ret w h (fun v h1=>∃ e,v=az e∧TmH d h1 e t))
  | 0,_,_,_,_,_,x,_=>x.elim
  | d + 1,p,t,w,h,g,x,wf=>by
    obtain ⟨op,n,q,s,A,c,ps,ks,rfl,rfl,l,u,a⟩:=x.open;obtain ⟨w1,w2,w3,i,o,j,k,f,y⟩:=wf
    have b:ps.length≤2:=by
      have e1:d8 op=ks.length:=w1;have:=aE op;have:=a.len
      omega
    exact vF ok d (fun p t w h=>su ok d p t w h) op n q s A c ps ks l b w1 w2 w3 i o j k f y w h g u a
theorem AC (n:Nat)(a:n<100)(w:World)(h:Hp)(g:G w h):Calls Tryz.prog 216 #[nV n] w (Ret w h (fun v _=>v=.string ⟨(Lib.decDigits n).toArray⟩)):=Ret.of_same g (Tryz.internal_strconv_small n a w)
theorem FV (n:Nat)(a:n<100)(w:World)(h:Hp)(g:G w h):Calls Tryz.prog 104 #[nV n] w (Ret w h (fun v _=>v=.string ⟨(Lib.decDigits n).toArray⟩)):=Ret.of_same g (Tryz.strconv_Itoa_small n a w)
theorem Fb (z:Int)(n:Nat)(hz:z=(n:Nat))(a:n<100)(w:World)(h:Hp)(g:G w h):Calls Tryz.prog 104 #[iV z] w (Ret w h (fun v _=>v=.string ⟨(Lib.decDigits n).toArray⟩)):=by
 subst hz;exact FV n a w h g
theorem FP (n:Nat)(d:n<100)(w:World)(h:Hp)(g:G w h):CV 207 #[mV n,iV 10] w h (.string ⟨(Lib.decDigits n).toArray⟩):=by
 have a:=sS g;refine go Tryz.func207 [(0,mV n),(1,iV 10)] rfl (aa a [.v 4 (eS)] (ah (aa a [.m 9 1,.v 10 qT] (ak (cQ (aa a [.m 11 0] ?_))))));have ⟨b,c⟩:=dT (p:=(n:Int)<(100:Int)) oM;refine lB 12 b (ak (aa a [.m 13 0] (lV 14 (nV n) ?_ (hr:=rS ((n:Int)) kR (iY oM oM)))));exact ag 15 a (AC n d _ _ a.g) (fun w2 e a=>lL a [.m 4 15] (ac a [] (.string (⟨(Lib.decDigits n).toArray⟩)) rfl))
theorem GZ (n:Nat)(b:n<100)(w:World)(h:Hp)(g:G w h):CV 182 #[mV n,iV 10] w h (.string ⟨(Lib.decDigits n).toArray⟩):=by
 have a:=sS g;exact go Tryz.func182 [(0,mV n),(1,iV 10)] rfl (aa a [.v 4 (eS)] (aI (lL a [.m 5 0,.m 6 1] (ag 7 a (FP n b _ _ a.g) (fun w1 c a=>lL a [.m 4 7] (ac a [] (.string (⟨(Lib.decDigits n).toArray⟩)) rfl))))))
theorem vy (z:Int)(n:Nat)(hz:z=(n:Nat))(a:n<100)(w:World)(h:Hp)(g:G w h):Calls Tryz.prog 182 #[uV z,iV 10] w (Ret w h (fun v _=>v=.string ⟨(Lib.decDigits n).toArray⟩)):=by
 subst hz;exact GZ n a w h g
theorem Ag (n:Nat)(h0:0<n)(k:n<100)(w:World)(h:Hp)(g:G w h):CV 156 #[nv n] w h (.string ⟨(Lib.decDigits n).toArray⟩):=by
 have a:=sS g;have c:=jo (show n<18446744073709551616 by omega);have e:=congrArg List.length (jO h0 (show n<18446744073709551616 by omega))
 simp only[Mf] at e
 refine go Tryz.func156 [(0,nv n)] rfl (av (lA 1 36 (nc n) a (fun l w2 B a=>lL a [.v 2 (eS)] (aI (lL a [.o 9 (nv n) 0 0 2] (lC 10 a (eK n oM oM _ _ a.g) ?_))))));rintro _ u x a ⟨z,rfl,f,j,b⟩;replace a:=a.aS b;refine lL a [.m 3 10] (ah (aa a [.m 11 3,.v 12 (nV ((wds n).length))] ?_));have ⟨d,i⟩:=dT (p:=(((wds n).length:Nat):Int)≤(1:Int)) oM;exact lB 13 d (ak (aa a [.v 14 (pB l),.o 15 (mV (n%18446744073709551616)) 0 0 1] (ag 16 a (vy _ n c k _ _ a.g) (fun y C a=>lL a [.m 2 16] (ac a [] (.string (⟨(Lib.decDigits n).toArray⟩)) rfl)))))
theorem CS (n:Nat)(d:n<100)(b:(0:Int)=(n:Nat))(w:World)(h:Hp)(g:G w h):CV 156 #[nv 0] w h (.string ⟨(Lib.decDigits n).toArray⟩):=by
 have a:=sS g;exact go Tryz.func156 [(0,nv 0)] rfl (av (lA 1 36 ([uV 0,eS]) a (fun c w2 i a=>lL a [.v 2 (eS)] (aI (lL a [.o 9 (.agg #[uV 0,eS]) 0 0 2] (ag 10 a (jr _ _ a.g) (fun f j a=>lL a [.m 3 10] (ah (aa a [.m 11 3,.v 12 (iV 0),.v 13 qT] (ak (aa a [.v 14 (pB c),.o 15 (uV 0) 0 0 1] (ag 16 a (vy _ n b d _ _ a.g) (fun e k a=>lL a [.m 2 16] (ac a [] (.string (⟨(Lib.decDigits n).toArray⟩)) rfl))))))))))))))
theorem Ek (n:Nat)(a:n<100)(w:World)(h:Hp)(g:G w h):Calls Tryz.prog 156 #[nv n] w (Ret w h (fun v _=>v=.string ⟨(Lib.decDigits n).toArray⟩)):=by
 rcases Nat.eq_zero_or_pos n with rfl|h0
 ·exact CS 0 a rfl w h g
 ·exact Ag n h0 a w h g
theorem EL (n:Nat)(c:n<100)(w:World)(h:Hp)(g:G w h):CV 155 #[wX (.bool false) n] w h (.string ⟨(Lib.decDigits n).toArray⟩):=by
 have a:=sS g;exact go Tryz.func155 [(0,wX qF n)] rfl (av (lA 1 38 (wC qF n) a (fun b w2 e a=>lL a [.v 2 (eS)] (ah (aa a [.v 3 (pB b),.o 4 qF 0 0 1] (af (cK (aa a [.v 9 (qP b 1),.o 10 (.agg #[uV (lo n),.string (hi n)]) 0 1 2] (ag 11 a (Ek n c _ _ a.g) (fun d f a=>lL a [.m 2 11] (ac a [] (.string (⟨(Lib.decDigits n).toArray⟩)) rfl)))))))))))
theorem EH (z:Int)(n:Nat)(hz:z=(n:Nat))(a:n<100)(w:World)(h:Hp)(g:G w h):Calls Tryz.prog 155 #[iv z] w (Ret w h (fun v _=>v=.string ⟨(Lib.decDigits n).toArray⟩)):=by
 subst hz;exact EL n a w h g
theorem Ei (n:Nat)(d:n<100)(w:World)(h:Hp)(g:G w h):CV 101 #[qv ((n:Nat):Rat)] w h (.string ⟨(Lib.decDigits n).toArray⟩):=by
 have a:=sS g;have e:LQ 100000000 ((n:Nat):Rat):=(by have b:=LQ.int (z:=(n:Int)) oM oM;exact (b.mono oM));exact go Tryz.func101 [(0,qv ((n:Nat):Rat))] rfl (av (lA 1 40 (qc ((n:Nat):Rat)) a (fun c w2 j a=>lL a [.v 2 (eS)] (ah (aa a [.o 3 (qv ((n:Nat):Rat)) 0 0 5] (ag 4 a ((by have b:=jh ((n:Nat):Rat) e _ _ a.g;rw[decide_eq_true (MD n)] at b;exact b)) (fun i k a=>ak (aa a [.v 5 (pB c),.o 6 (iv (((n:Nat):Rat).num)) 0 0 3] (ag 7 a (EH ((n:Nat):Rat).num n (MC n) d _ _ a.g) (fun f l a=>lL a [.m 2 7] (ac a [] (.string (⟨(Lib.decDigits n).toArray⟩)) rfl)))))))))))
section tcs
variable {M:Ms} {P:Program} {n:Nat} {N R:Po} {X:Nat→Po} {ops:Array Oper} {k0:Nat} {L:Array Bool} {Γ:bz} {w:World}
variable {h:Hp} {w0:World} {h0 hr:Hp} {AL:List Al} {B:List Bx} {Rs:List Rw} {F:List (Hp→Prop)}
end tcs
section
variable {T8 TB:TypeId} {K b:Nat}
def J8 (T8:TypeId)(K b:Nat)(h:Hp):Prop:=∀ c o,K≤c→h[c]?=some o→o=junk∨(c≠b∧∀ cs fz,o≠.cells cs T8 fz)
theorem qm {a:Nat}{ty:TypeId}{sz n:Nat}{v:Value}{cs:List Value}{w w':World}(o:w.ownsRowF a ty sz v n cs)(c:∀ b,v.ownBlock=some b→w'.heap[b]?=w.heap[b]?):w'.ownsRowF a ty sz v n cs:=by
 rcases o with ⟨h1,h2|⟨g,cap,cur,fz,hv,hb',hg,rest⟩⟩
 ·exact ⟨h1,.inl h2⟩
 ·exact ⟨h1,.inr ⟨g,cap,cur,fz,hv,hb',(c g (by rw[hv];rfl)).trans hg,rest⟩⟩
theorem tM {bs:List Value}{w w1:World}(h:Lib.IsBuilderF TB T8 K b bs w)(x:Ext w w1):Lib.IsBuilderF TB T8 K b bs w1:=by
 have key:∀ p,Lib.BuilderAtF TB T8 K b p bs w→Lib.BuilderAtF TB T8 K b p bs w1:=by
  intro p d;have a:=d.lt;obtain ⟨h1,v,i,e,j⟩:=d;exact ⟨h1,v,(Below.block x b a).trans i,qm e (fun c f=>Below.block x c (e.lt c f).2),j⟩
 rcases h with h|h
 ·exact .inl (key _ h)
 ·exact .inr (key _ h)
theorem Bz {bs:List Value}{w:World}(h:Lib.IsBuilderF TB T8 K b bs w):K≤b∧b<w.heap.size:=by
 rcases h with h|h
 ·exact ⟨h.1,h.lt⟩
 ·exact ⟨h.1,h.lt⟩
theorem Ce {w w':World}(x:Ext w w'):Lib.OthersKept T8 (some b) w w':=fun k o c _ _=>by
 have a:k<w.heap.size:=(Array.getElem?_eq_some_iff.1 c).1;exact (Below.block x k a).trans c
theorem tY {w w':World}(x:Ext w w')(a:K≤w.heap.size):Below K w w':=⟨x.os,x.tape,x.output,x.size,fun k b=>Below.block x k oM⟩
structure BSt (TB T8:TypeId) (K b:Nat) (wa:World) (l:List UInt8) (w:World) (h:Hp):Prop where
  hK:K≤w.heap.size
  j8:J8 T8 K b h
  ib:Lib.IsBuilderF TB T8 K b (Lib.byteCells l) w
  be:Below K wa w
  ok:Lib.OthersKept T8 (some b) wa w
def nO (TB T8:TypeId)(K b:Nat)(V:Value)(l out:List UInt8)(w:World):Ending→World→Prop:=fun e w'=>e=.returned V∧(Lib.IsBuilderF TB T8 K b (Lib.byteCells (l++out)) w'∧Below K w w'∧Lib.OthersKept T8 (some b) w w')
def AllNe (T8:TypeId)(b:Nat):List Bx→Prop
  | []=>True
  | x::B=>(x.b≠b∧(x.t != T8)=true)∧AllNe T8 b B
theorem AllNe.mem {B:List Bx}(h:AllNe T8 b B):∀ x∈B,x.b≠b∧x.t≠T8:=by
  induction B with
  | nil=>intro x a;cases a
  | cons y B ih =>
    intro x a
    rcases g7.1 a with rfl|a
    · exact ⟨h.1.1,by simpa using h.1.2⟩
    · exact ih h.2 x a
variable {wz w w' wa:World} {hz h:Hp} {B:List Bx} {F:List (Hp→Prop)} {l:List UInt8}
theorem BSt.start (a:K≤w.heap.size)(j:J8 T8 K b h)(c:Lib.IsBuilderF TB T8 K b (Lib.byteCells l) w):BSt TB T8 K b w l w h:=⟨a,j,c,Below.refl _ _,Lib.OthersKept.refl _ _ _⟩
theorem BSt.ext (s:BSt TB T8 K b wa l w h)(x:Ext w w'){h':Hp}(j:J8 T8 K b h'):BSt TB T8 K b wa l w' h':=⟨ez s.hK x.size,j,tM s.ib x,s.be.trans (tY x s.hK),s.ok.trans (Ce x)⟩
theorem SS.atKb (g:G w h)(f:K≤w.heap.size):∃ w0 h0,SS w0 h0 w h [] [] []∧h0.size=K:=by
 have e:=g.size;refine ⟨{ w with heap:=w.heap.extract 0 K },h.extract 0 K,⟨⟨by simp;omega,fun c=>?_⟩,⟨⟨⟨rfl,rfl,rfl,by simp;omega,fun c b=>?_⟩,⟨by simp;omega,fun c b=>?_⟩,g⟩,fun _ a=>(by cases a),fun _ a=>(by cases a),fun _ a=>(by cases a),by simp⟩,fun _ a=>(by cases a),.nil,fun _ a=>(by cases a),trivial⟩,by simp;omega⟩
 ·show (h.extract 0 K)[c]?=(w.heap.extract 0 K)[c]?∨_
  rw[B2,B2]
  by_cases hb:c<K
  ·rw[MN oM,MN oM];simpa using g.blk c
  ·rw[MM oM,MM oM];exact .inl rfl
 ·have d:c<K:=by have:c<(w.heap.extract 0 K).size:=b;simp at this;omega
  show w.heap[c]?=(w.heap.extract 0 K)[c]?
  rw[B2,MN oM];simp
 ·have d:c<K:=by simp at b;omega
  rw[B2,MN oM];simp
def jx (h:Hp)(n:Nat):Hp:=h++Array.replicate (n-h.size) junk
theorem m0 {n c:Nat}(a:c<h.size):(jx h n)[c]?=h[c]?:=Array.getElem?_append_left a
theorem q7 {n c:Nat}(h1:h.size≤c)(a:c<n):(jx h n)[c]?=some junk:=by
 unfold jx
 rw[A9 h1,Bs,MN oM]
theorem jd {n:Nat}(a:h.size≤n):(jx h n).size=n:=by unfold jx;simp;omega
theorem DI {n:Nat}(a:h.size≤n):Gr h (jx h n):=⟨by rw[jd a];exact a,fun c b=>m0 b⟩
theorem Dq {n:Nat}(j:J8 T8 K b h):J8 T8 K b (jx h n):=by
 intro c o a e
 rcases ep c h.size with h1|h1
 ·rw[m0 h1] at e;exact j c o a e
 ·rcases ep c n with h2|h2
  ·rw[q7 h1 h2] at e;injection e with e;exact .inl e.symm
  ·unfold jx at e
   rw[A9 h1,Bs,MM oM] at e;cases e
theorem SS.junk (s:SS wz hz w h B [] F)(j:J8 T8 K b h){h':Hp}{B':List Bx}(u:Up w h w' h')(d:St wz hz w' h' B'):∃ a,SS wz hz w' a B' [] F∧J8 T8 K b a∧Up w h w' a:=by
  have e0:=s.g.size;have e1:=u.g.size;have o:=u.ext.size;have e:h.size≤w'.heap.size:=by omega
  have i:=DI e
  have l:G w' (jx h w'.heap.size):=⟨(jd e).symm,fun c=>by
    rcases ep c h.size with h1|h1
    · rw[m0 h1]
      rcases s.g.blk c with h2|h2
      · exact .inl (h2.trans (Below.block u.ext c oM).symm)
      · exact .inr h2
    · rcases ep c w'.heap.size with h2|h2
      · exact .inr (q7 h1 h2)
      · left
        rw[et (by rw[jd e];exact h2),et h2]⟩
  refine ⟨jx h w'.heap.size,⟨s.g0,⟨⟨d.up.ext,s.st.up.gr.trans i,l⟩,d.own,fun x k=>?_,d.lo,d.nd⟩,fun _ hr=>(by cases hr),.nil,s.mo,s.f.gw s.mo i.gw⟩,Dq j,⟨u.ext,i,l⟩⟩;have h1:=d.jk x k
  rcases ep x.b h.size with h2|h2
  · rw[m0 h2,←u.gr.blk _ h2];exact h1
  · exact q7 h2 (by have:=a7 h1;omega)
theorem SS.oth (s:SS wz hz w h B [] F)(I:hz.size=K)(j:J8 T8 K b h)(i:Below K w w')(ok:Lib.OthersKept T8 (some b) w w')(hB:AllNe T8 b B):∃ h',SS wz hz w' h' B [] F∧J8 T8 K b h':=by
  have e0:=s.g.size;have D:=s.g0.size;have H:=i.size;have k:h.size≤w'.heap.size:=by omega
  have u:=DI k
  have y : G w' (jx h w'.heap.size):=⟨(jd k).symm,fun c=>by
    rcases ep c h.size with h1|h1
    · rw[m0 h1]
      rcases s.g.blk c with a|a
      · rcases ep c K with h3|h3
        · exact .inl (a.trans (i.block c h3).symm)
        · cases l:h[c]? with
          | none=>rw[Array.getElem?_eq_none_iff] at l;omega
          | some o =>
            rcases j c o h3 l with rfl|⟨h4,h5⟩
            · exact .inr rfl
            · left;exact (ok c o (a.symm.trans l) (fun e=>h4 (Option.some.inj e)) h5).symm
      · exact .inr a
    · rcases ep c w'.heap.size with a|a
      · exact .inr (q7 h1 a)
      · left
        rw[et (by rw[jd k];exact a),et a]⟩
  have p:Ext wz w':=⟨i.os.trans s.st.up.ext.os,i.tape.trans s.st.up.ext.tape,i.output.trans s.st.up.ext.output,ez s.st.up.ext.size i.size,fun c z=>(i.block c oM).trans (Below.block s.st.up.ext c z)⟩;refine ⟨jx h w'.heap.size,⟨s.g0,⟨⟨p,s.st.up.gr.trans u,y⟩,fun x d=>?_,fun x d=>?_,s.st.lo,s.st.nd⟩,fun _ hr=>(by cases hr),.nil,s.mo,s.f.gw s.mo u.gw⟩,Dq j⟩
  · have h1:=s.st.own x d
    have a:=hB.mem x d;exact ok x.b _ h1 (fun e=>a.1 (Option.some.inj e)) (fun cs C e=>by injection e with _ e2;exact a.2 e2)
  · have h1:=s.st.jk x d
    rw[m0 (a7 h1)];exact h1
end
section laws
variable {T8 TB:TypeId} {K b:Nat} {M:Ms} {P:Program} {n:Nat} {N R:Po} {X:Nat→Po} {ops:Array Oper} {k k0:Nat} {hr:Hp} {AL:List Al} {L:Array Bool} {Γ:bz} {wz w w' wa:World} {hz h:Hp} {B:List Bx} {F:List (Hp→Prop)} {l out:List UInt8}
theorem Ex (t:Nat){f:FuncId}{args:Array Value}{Φ:Value→Hp→Prop}(s:SS wz hz w h B [] F)(bs:BSt TB T8 K b wa l w h)(c:Calls P f args w (Ret w h Φ))(H:∀ v w' h' a,SS wz hz w' h' B [] F→BSt TB T8 K b wa l w' h'→Φ v a→LG P n N R X ops (k+1) ((t,v)::Γ) w')(i:cL ops Γ k t n=true:=by kernel_rfl)(hr:(execOp (ev Γ) (ao ops k)).run P w=.ok (.enter f args) w:=by kernel_rfl):LG P n N R X ops k Γ w :=
 LG.call t f args (bK i).1 (bK i).2 hr (c.mono fun e w' ⟨v,h',j,u,d⟩=>by
  obtain ⟨a,o,j2,_⟩:=s.junk bs.j8 u (s.st.step u);exact ⟨v,j,H v w' a h' o (bs.ext u.ext j2) d⟩)
theorem I9 (t:Nat)(ty:TypeId)(vs:List Value)(s:SS wz hz w h B [] F)(bs:BSt TB T8 K b wa l w h)(H:∀ c w' h',c≠b→SS wz hz w' h' (⟨c,ty,vs⟩::B) [] F→BSt TB T8 K b wa l w' h'→LG P n N R X ops (k+1) ((t,.pointer (some ⟨c,0,none⟩))::Γ) w')(a:cL ops Γ k t n=true:=by kernel_rfl)
  (hr:(execOp (ev Γ) (ao ops k)).run P w=.ok (.value (.pointer (some ⟨w.heap.size,0,none⟩))) (w.alloc (.cells vs.toArray ty (0,0))):=by kernel_rfl):LG P n N R X ops k Γ w :=
 LG.var t ty vs s.st (bK a).1 (bK a).2 hr (fun c w' h' j u d=>by
  obtain ⟨e,i,j2,_⟩:=s.junk bs.j8 u d;have f:=(Bz bs.ib).2;have:=s.g.size;exact H c w' e oM i (bs.ext u.ext j2))
theorem xY (t:Nat){f:FuncId}{args:Array Value}{V:Value}(s:SS wz hz w h B [] F)(bs:BSt TB T8 K b wa l w h)(p:hz.size=K)(hB:AllNe T8 b B)(c:Calls P f args w (nO TB T8 K b V l out w))(H:∀ w' h',SS wz hz w' h' B [] F→BSt TB T8 K b wa (l++out) w' h'→LG P n N R X ops (k+1) ((t,V)::Γ) w')(d:cL ops Γ k t n=true:=by kernel_rfl)(hr:(execOp (ev Γ) (ao ops k)).run P w=.ok (.enter f args) w:=by kernel_rfl):LG P n N R X ops k Γ w :=
 LG.call t f args (bK d).1 (bK d).2 hr (c.mono fun e w' ⟨j,o,a,ok⟩=>by
  obtain ⟨i,u,j2⟩:=s.oth p bs.j8 a ok hB;exact ⟨V,j,H w' i u ⟨ez bs.hK a.size,j2,o,bs.be.trans a,bs.ok.trans ok⟩⟩)
theorem Jh (i t:Nat){f:FuncId}{args:Array Value}{V:Value}(s:SS wz hz w h B [] F)(bs:BSt TB T8 K b wa l w h)(x:hz.size=K)(hB:AllNe T8 b B)(c:Calls P f args w (nO TB T8 K b V l out w))(H:∀ w' h',SS wz hz w' h' B [] F→BSt TB T8 K b wa (l++out) w' h'→AG M P n N R X ops k0 (L.setIfInBounds i true) ((t,V)::Γ) w')(o:(gm ops k0 L i && bj Γ (ao ops i) && ((ao ops i).dst == some t) && decide (t<n))=true:=by kernel_rfl)(j:bA ops Γ (ao ops i)=some true:=by kernel_rfl)
  (hr:(execOp (ev Γ) (ao ops i)).run P w=.ok (.enter f args) w:=by kernel_rfl)(d:M.z=none:=by rfl):AG M P n N R X ops k0 L Γ w :=
 tC i t (c.mono fun e w' ⟨p,u,a,ok⟩=>by
  obtain ⟨k,y,j2⟩:=s.oth x bs.j8 a ok hB;exact ⟨V,p,Tl.none d _ _,H w' k y ⟨ez bs.hK a.size,j2,u,bs.be.trans a,bs.ok.trans ok⟩⟩) o j hr
theorem Hm {wr:World}{a:Hp}(s:SS wz hz w h B [] F)(m:UpM [] wr a w h)(H:∀ w' h',UpM [] wr a w' h'→SS wz hz w' h' B [] F→AG M P n N R X ops k0 L Γ w')(b:fv ops [] L=true:=by kernel_rfl):EG M P n N R X ops k0 hr [] L Γ w h:=Rg.fin0 b (fun w' h' u=>H w' h' (m.trans (u.m _)) (s.step u))
theorem BSt.back {wr:World}{a:Hp}(bs:BSt TB T8 K b wa l wr a)(s:SS wz hz wr a B [] F)(m:UpM [] wr a w h):∃ h',SS wz hz w h' B [] F∧BSt TB T8 K b wa l w h':=by
 obtain ⟨c,d,j2,_⟩:=s.junk bs.j8 m.up (s.st.step m.up);exact ⟨c,d,bs.ext m.up.ext j2⟩
end laws
section ret
variable {T8 TB:TypeId} {K b:Nat} {P:Program} {n:Nat} {Γ:bz} {wz w wa:World} {hz h:Hp} {B:List Bx} {F:List (Hp→Prop)} {l l0 out:List UInt8}
theorem SS.retB {d:Func}{V:Value}(s:SS wz hz w h B [] F)(bs:BSt TB T8 K b wa l w h)(ps:List (Nat × Nat × Nat))(i:l=l0++out)(c:(mA d Γ && bY B ps)=true:=by kernel_rfl)(f:bS P (nJ d Γ) (cA B ps)=some (V,bT B ps):=by kernel_rfl):∀ a,Kn n a Γ→mt P d (nO TB T8 K b V l0 out wa) a w:=by
 intro a e;rw[i1] at c
 refine ⟨e.df.trans (nB c.1),V,?_,rfl,by rw[←i];exact bs.ib,bs.be,bs.ok⟩;rw[gX e c.1];exact bL _ _ _ _ f (cu s.st.own ps c.2)
end ret
def wg:Go.Shelf.Ren:=⟨fun|166=>100|240=>154|276=>181|n=>n,fun|0=>0|3=>3|4=>4|5=>5|9=>9|20=>20|37=>122|70=>121|72=>124|75=>162|164=>221|80=>126|n=>n,fun n=>n⟩
theorem Bl:Go.Proofs.Lays.n166 Tryz.prog wg:={
 mixed:=by kernel_rfl
 f166:=Tryz.func100.trans (congrArg some kR)
 f240:=Tryz.func154.trans (congrArg some kR)
 f276:=Tryz.func181.trans (congrArg some kR)
 t0:=Tryz.underlying0
 a0:=Tryz.isAgg0
 z0:=Tryz.sizeOf0
 v0:=Tryz.zeroValue0
 t3:=Tryz.underlying3
 a3:=Tryz.isAgg3
 z3:=Tryz.sizeOf3
 v3:=Tryz.zeroValue3
 t4:=Tryz.underlying4
 a4:=Tryz.isAgg4
 z4:=Tryz.sizeOf4
 v4:=Tryz.zeroValue4
 t9:=Tryz.underlying9
 a9:=Tryz.isAgg9
 z9:=Tryz.sizeOf9
 v9:=Tryz.zeroValue9
 t20:=Tryz.underlying20
 a20:=Tryz.isAgg20
 z20:=Tryz.sizeOf20
 v20:=Tryz.zeroValue20
 t37:=Tryz.underlying122
 a37:=Tryz.isAgg122
 z37:=Tryz.sizeOf122
 v37:=Tryz.zeroValue122
 t70:=Tryz.underlying121
 a70:=Tryz.isAgg121
 z70:=Tryz.sizeOf121
 v70:=Tryz.zeroValue121
 t72:=Tryz.underlying124
 a72:=Tryz.isAgg124
 z72:=Tryz.sizeOf124
 v72:=Tryz.zeroValue124
 t75:=Tryz.underlying162
 a75:=Tryz.isAgg162
 z75:=Tryz.sizeOf162
 v75:=Tryz.zeroValue162
 t164:=Tryz.underlying221
 a164:=Tryz.isAgg221
 z164:=Tryz.sizeOf221
 v164:=Tryz.zeroValue221 }
theorem xd:Builder.Extra Tryz.prog wg:={
 sizeBuilder:=by kernel_rfl
 liesBuilder:=by kernel_rfl
 t5:=Tryz.underlying5
 a5:=Tryz.isAgg5
 z5:=Tryz.sizeOf5
 v5:=Tryz.zeroValue5
 infoByte:=by kernel_rfl
 cellsByte:=by kernel_rfl
 sizeByte:=by kernel_rfl
 neB5:=by decide }
theorem Fy {P:Program}{Γ:bz}{o:Oper}{w:World}{a b:ByteArray}(h:execOp (ev Γ) o=(do pure (.value (←Op.stringOp .add a b))))(c:a.size+b.size≤9223372036854775807):(execOp (ev Γ) o).run P w=.ok (.value (.string (a++b))) w:=by
 rw[h];simp[run_string_add_sum w a b c,A6]
def ke (op:Int):Int:=if op=3∨op=4 then 1 else if op=5∨op=6 then 2 else if op=7 then 3 else if op=8 then 4 else 5
theorem dK (op:Int):((op=3∨op=4)∧ke op=1)∨((op=5∨op=6)∧ke op=2)∨(op=7∧ke op=3)∨(op=8∧ke op=4)∨((op<3∨8<op)∧ke op=5):=by
 unfold ke
 repeat' split
 all_goals omega
def Bk (op:Int):ByteArray:=if op=3 then ⟨#[32,43,32]⟩ else if op=4 then ⟨#[32,45,32]⟩ else if op=5 then ⟨#[32,42,32]⟩ else ⟨#[32,47,32]⟩
def uu (n:Nat):ByteArray:=⟨(Lib.decDigits n).toArray⟩
def ms (wr:Tm→Int→List UInt8):Tm→List UInt8
  | .mk op n q s ks=>if op=1 then (uu q.num.toNat).data.toList else if op=2 then s.data.toList
    else if op=7 then (⟨#[45]⟩:ByteArray).data.toList++wr (ks.getD 0 bv) 3
    else if op=8 then wr (ks.getD 0 bv) 5++((⟨#[94]⟩:ByteArray)++uu n.toNat).data.toList
    else wr (ks.getD 0 bv) (ke op)++(Bk op).data.toList++wr (ks.getD 1 bv) (ke op+1)
def gx:Nat→Tm→Int→List UInt8
  | 0,_,_=>[]
  | d+1,t,l=>if ke t.op<l then (⟨#[40]⟩:ByteArray).data.toList++ms (gx d) t++(⟨#[41]⟩:ByteArray).data.toList else ms (gx d) t
def rt:Nat→Tm→Prop
  | 0,_=>False
  | d+1,.mk op n q _ ks=>d8 op=ks.length∧(1≤op∧op≤8)∧(op=1→∃ k:Nat,k<100∧q=((k:Nat):Rat))∧(0≤n∧n<100)∧∀ i,i<ks.length→rt d (ks.getD i bv)
theorem Ci:∀ n,n<100→(uu n).size≤3:=by decide +kernel
theorem FG:∀ n,n<100→(Lib.decDigits n).all (fun b=>b != 47)=true:=by decide +kernel
theorem qG (k:Nat)(c:k<100)(w:World)(h:Hp)(g:G w h):CV 102 #[.string (uu k),.string ⟨#[47]⟩] w h (.bool false):=by
 have q:=Ret.of_same g (Tryz.strings_Contains_one (uu k) 47 w)
 rw[p7 (uu k).data.toList (fun b a=>by
  have h1:=List.all_eq_true.1 (FG k c) b a
  simpa using h1)] at q
 exact q
theorem DN (K b:Nat)(l:List UInt8)(x:ByteArray)(w:World)(a:Lib.IsBuilderF 124 5 K b (Lib.byteCells (l)) w)(d:K≤w.heap.size)(i:l.length+x.data.toList.length≤140737488355328):Calls Tryz.prog 100 #[pB b,.string x] w (nO 124 5 K b (.tuple #[iV x.size,.nilIface]) l x.data.toList w) :=
 (Any.Builder_WriteString_k Bl xd K b (Lib.byteCells l) x w a (by rw[Lib.byteCells_length];exact i) d).mono fun e w' ⟨h,h1,f,c⟩=>⟨h,by
  have e2:Lib.byteCells (l++x.data.toList)=Lib.byteCells l++Lib.strCells x:=by unfold Lib.byteCells;rw[List.map_append];rfl
  rw[e2];exact .inr h1,f,c⟩
theorem rD (p:PTm)(w:World)(h:Hp)(g:G w h):CV 99 #[az p] w h (iV (ke p.op)):=by
 have a:=sS g;refine go Tryz.func99 [(0,az p)] rfl (av (lA 1 43 (bg p) a (fun z w2 B a=>lL a [.v 2 (iV 0)] (ah (aa a [.v 3 (pB z),.o 4 (iV p.op) 0 0 1] (a8 (cQ (av ?_))))))));cases c:((p.op:Int) == (3:Int))
 ·
  have j:=ae c;refine lB 6 c (lL a [.m 5 6] (af (kQ ?_)));cases f:((p.op:Int) == (4:Int))
  ·
   have u:=ae f;refine lB 7 f (lL a [.m 5 7] (af (cQ (av ?_))));cases b:((p.op:Int) == (5:Int))
   ·
    have l:=ae b;refine lB 9 b (lL a [.m 8 9] (af (kQ ?_)));cases e:((p.op:Int) == (6:Int))
    ·
     have k:=ae e;refine lB 10 e (lL a [.m 8 10] (af (av ?_)));cases i:((p.op:Int) == (7:Int))
     ·
      have y:=ae i;refine lB 12 i (lL a [.m 11 12] (af (av ?_)));cases d:((p.op:Int) == (8:Int))
      ·
       have x:=ae d;exact lB 14 d (lL a [.m 13 14] (af (cK (aa a [.v 2 (iV 5)] (ac a [] (iV 5) (congrArg (Lp .i64) (by have:=dK p.op;omega)))))))
      have x:=ML d;exact lB 14 d (lL a [.m 13 14] (ak (aa a [.v 2 (iV 4)] (ac a [] (iV 4) (congrArg (Lp .i64) (by have:=dK p.op;omega))))))
     have y:=ML i;exact lB 12 i (lL a [.m 11 12] (ak (aa a [.v 2 (iV 3)] (ac a [] (iV 3) (congrArg (Lp .i64) (by have:=dK p.op;omega))))))
    have k:=ML e;exact lB 10 e (lL a [.m 8 10] (ak (aa a [.v 2 (iV 2)] (ac a [] (iV 2) (congrArg (Lp .i64) (by have:=dK p.op;omega))))))
   have l:=ML b;exact lB 9 b (lL a [.m 8 9] (ak (cK (ce (aa a [.v 2 (iV 2)] (ac a [] (iV 2) (congrArg (Lp .i64) (by have:=dK p.op;omega))))))))
  have u:=ML f;exact lB 7 f (lL a [.m 5 7] (ak (aa a [.v 2 (iV 1)] (ac a [] (iV 1) (congrArg (Lp .i64) (by have:=dK p.op;omega))))))
 have j:=ML c;exact lB 6 c (lL a [.m 5 6] (ak (cK (ce (aa a [.v 2 (iV 1)] (ac a [] (iV 1) (congrArg (Lp .i64) (by have:=dK p.op;omega))))))))
theorem GE (op:Int)(w:World)(h:Hp)(g:G w h):CV 103 #[iV op] w h (.string (Bk op)):=by
 have a:=sS g;refine go Tryz.func103 [(0,iV op)] rfl (aa a [.v 2 (eS)] (ah (aa a [.m 3 0] (a8 (av ?_)))));cases c:((op:Int) == (3:Int))
 ·
  have i:=ae c;refine lB 5 c (lL a [.m 4 5] (af (av ?_)));cases d:((op:Int) == (4:Int))
  ·
   have e:=ae d;refine lB 7 d (lL a [.m 6 7] (af (av ?_)));cases b:((op:Int) == (5:Int))
   ·
    have f:=ae b;exact lB 9 b (lL a [.m 8 9] (af (cK (aa a [.v 2 (.string (⟨#[32,47,32]⟩))] (ac a [] (.string (⟨#[32,47,32]⟩)) (congrArg MF (by unfold Bk;repeat first|rw[MN oM]|rw[MM oM])))))))
   have f:=ML b;exact lB 9 b (lL a [.m 8 9] (ak (aa a [.v 2 (.string (⟨#[32,42,32]⟩))] (ac a [] (.string (⟨#[32,42,32]⟩)) (congrArg MF (by unfold Bk;repeat first|rw[MN oM]|rw[MM oM]))))))
  have e:=ML d;exact lB 7 d (lL a [.m 6 7] (ak (aa a [.v 2 (.string (⟨#[32,45,32]⟩))] (ac a [] (.string (⟨#[32,45,32]⟩)) (congrArg MF (by unfold Bk;repeat first|rw[MN oM]|rw[MM oM]))))))
 have i:=ML c;exact lB 5 c (lL a [.m 4 5] (ak (aa a [.v 2 (.string (⟨#[32,43,32]⟩))] (ac a [] (.string (⟨#[32,43,32]⟩)) (congrArg MF (by unfold Bk;repeat first|rw[MN oM]|rw[MM oM]))))))
theorem A3 (d:Nat)(K b:Nat)(bs:List UInt8)(ih:∀ (K b:Nat) (bs:List UInt8) (p:PTm) (t:Tm) (u:Int) (w:World) (h:Hp),G w h→K≤w.heap.size→J8 5 K b h→Lib.IsBuilderF 124 5 K b (Lib.byteCells (bs)) w→TmH d h p t→rt d t→bs.length+(gx d t u).length≤100000000000→Calls Tryz.prog 63 #[pB b,az p,iV u] w (nO 124 5 K b (.tuple #[]) bs (gx d t u) w))(op n:Int)(q:Rat)(s:ByteArray)(A:Option Addr)(c:Nat)(ps:List PTm)(ks:List Tm)(hc:ps.length≤c)(bd:d8 op=(ks.length:Nat))(hop:1≤op∧op≤8)(hq1:op=1→∃ k:Nat,k<100∧q=((k:Nat):Rat))(hn:0≤n∧n<100)(hW:∀ i,i<ks.length→rt d (ks.getD i bv))(u:Int)(hle:u≤ke op)(F:bs.length+(ms (gx d) (.mk op n q s ks)).length≤100000000000)(w:World)(h:Hp)(g:G w h)(hKb:K≤w.heap.size)(hj8:J8 5 K b h)(hib:Lib.IsBuilderF 124 5 K b (Lib.byteCells (bs)) w)(hA:SlO 9 bg au h A ps)(hT:Tms d h ps ks):Calls Tryz.prog 63 #[pB b,pW op n q s A ps.length c,iV u] w (nO 124 5 K b (.tuple #[]) bs (ms (gx d) (.mk op n q s ks)) w):=by
 obtain ⟨wz,bb,j,C⟩:=SS.atKb g hKb;have e:=BSt.start hKb hj8 hib;have hln:=hT.len;have hac:=aE op;have hrk:=dK op;replace j:=((j.aS hA).add (K:=fun D=>Tms d D ps ks) hT);refine go Tryz.func63 [(0,pB b),(1,pW op n q s A ps.length c),(2,iV u)] rfl (av (I9 4 43 (pG op n q s A ps.length c) j e (fun H w2 h3 l j e=>ah (aa j [.o 9 (pW op n q s A ps.length c) 0 0 9] (Ex 10 j e (rD ⟨op,n,q,s,A,ps.length,c⟩ _ _ j.g) ?_)))));rintro _ w4 S _ j e rfl;refine lL j [.m 11 2] ?_;have hb6:(decide ((ke op:Int)<(u:Int)))=false:=decide_eq_false oM;refine lB 12 hb6 (af (cK (aa j [.v 20 (pB H),.o 21 (iV op) 0 0 1] (a8 (av ?_)))));cases J:((op:Int) == (1:Int))
 ·
  have W:=ae J;refine lB 47 J (lL j [.m 46 47] (af (av ?_)));cases O:((op:Int) == (2:Int))
  ·
   have Y:=ae O;refine lB 66 O ?_;refine lL j [.m 65 66] (af (CG.join (fun Γ w_=>∃ (Z:Bool) (D:Hp),Γ=[(0,pB b),(4,pB H),(21,iV op),(71,.bool Z)]∧SS wz bb w_ D [⟨H,43,pG op n q s A ps.length c⟩] [] [fun D=>Tms d D ps ks,fun D=>SlO 9 bg au D A ps]∧BSt 124 5 K b w bs w_ D∧(Z=true→3≤op∧op≤6)∧(Z=false→7≤op)) ?_ ?_))
   ·
    refine av ?_;cases L:((op:Int) == (3:Int))
    ·
     have X:=ae L;refine lB 72 L (lL j [.m 71 72] (af (av ?_)));cases za:((op:Int) == (4:Int))
     ·
      have zg:=ae za;refine lB 73 za (lL j [.m 71 73] (af (av ?_)));cases zb:((op:Int) == (5:Int))
      ·
       have zi:=ae zb;refine lB 74 zb (lL j [.m 71 74] (af (kQ ?_)));cases zc:((op:Int) == (6:Int))
       ·
        have zj:=ae zc;refine lB 75 zc (lL j [.m 71 75] (lD ?_));intro a_ I;exact ⟨_,⟨false,S,rfl,j.to _ _,e,(fun D=>MO D kD),(fun _=>by omega)⟩,I.to _ kR⟩
       have zj:=ML zc;refine lB 75 zc (lL j [.m 71 75] (lD ?_));intro a_ I;exact ⟨_,⟨true,S,rfl,j.to _ _,e,(fun _=>by omega),(fun D=>MO D kD)⟩,I.to _ kR⟩
      have zi:=ML zb;refine lB 74 zb (lL j [.m 71 74] (ak (CG.skip ?_)));intro a_ I;exact ⟨_,⟨true,S,rfl,j.to _ _,e,(fun _=>by omega),(fun D=>MO D kD)⟩,I.to _ kR⟩
     have zg:=ML za;refine lB 73 za (lL j [.m 71 73] (ak (CG.skip ?_)));intro a_ I;exact ⟨_,⟨true,S,rfl,j.to _ _,e,(fun _=>by omega),(fun D=>MO D kD)⟩,I.to _ kR⟩
    have X:=ML L;refine lB 72 L (lL j [.m 71 72] (ak (CG.skip ?_)));intro a_ I;exact ⟨_,⟨true,S,rfl,j.to _ _,e,(fun _=>by omega),(fun D=>MO D kD)⟩,I.to _ kR⟩
   rintro _ zl ⟨Z,zm,rfl,j,e,zp,V⟩;cases zd:(Z)
   ·
    try rw[zd] at j
    try rw[zd]
    refine cv (av ?_);have hF_:=V aM;cases ze:((op:Int) == (7:Int))
    ·
     have zk:=ae ze;refine lB 99 ze (lL j [.m 98 99] (af (av ?_)));have zq:((op:Int) == (8:Int))=true:=fg oM;refine lB 109 zq (lL j [.m 108 109] (ak ?_));have y:ms (gx d) (.mk op n q s ks)=gx d (ks.getD 0 bv) 5++((⟨#[94]⟩:ByteArray)++uu n.toNat).data.toList:=by simp only[ms];repeat first|rw[MN oM]|rw[MM oM]
     have x:=F;rw[y] at x
     try simp only[zY] at x
     refine aa j [.m 110 0,.v 111 (qP H 8),.o 112 (qS A ps.length c) 0 8 1] (lX 113 A ps.length c 9 0 0 ((j.f.2.1).ok oM) ?_);refine lH 114 (az (ps.getD 0 au)) j ((j.f.2.1).el 0 oM) (xY 115 j e C ⟨⟨l,rfl⟩,trivial⟩ (ih K b bs (ps.getD 0 au) (ks.getD 0 bv) (5) _ _ j.g e.hK e.j8 e.ib ((j.f.1).at_ 0 oM) (hW 0 oM) (by first|omega|(simp only[zY];omega))) (fun _ _ j e=>lN (kQ (lL j [.m 116 0,.v 117 (qP H 1),.o 118 (iV n) 0 1 1] (Ex 119 j e (Fb n n.toNat oM oM _ _ j.g) ?_)))));rintro _ _ _ _ j e rfl;refine lV 120 (.string ((⟨#[94]⟩:ByteArray)++(uu n.toNat))) ?_ (hr:=Fy (a:=⟨#[94]⟩) (b:=(uu n.toNat)) kR (by have h1_:=Ci n.toNat oM;have h2_:(⟨#[94]⟩:ByteArray).size=1:=rfl;omega));exact xY 121 j e C ⟨⟨l,rfl⟩,trivial⟩ (DN K b (bs++(gx d (ks.getD 0 bv) (5))) ((⟨#[94]⟩:ByteArray)++(uu n.toNat)) _ e.ib e.hK (by first|omega|(simp only[zY];omega))) (fun _ _ j e=>lD (j.retB e [] (by rw[y];try simp only[MG])))
    have zk:=ML ze;refine lB 99 ze (lL j [.m 98 99] (ak ?_));have y:ms (gx d) (.mk op n q s ks)=(⟨#[45]⟩:ByteArray).data.toList++gx d (ks.getD 0 bv) 3:=by simp only[ms];repeat first|rw[MN oM]|rw[MM oM]
    have x:=F;rw[y] at x
    try simp only[zY] at x
    refine aa j [.m 100 0] (xY 101 j e C ⟨⟨l,rfl⟩,trivial⟩ (DN K b bs (⟨#[45]⟩) _ e.ib e.hK (by first|omega|(simp only[zY];omega))) (fun _ _ j e=>lN (kQ (lL j [.m 102 0,.v 103 (qP H 8),.o 104 (qS A ps.length c) 0 8 1] (lX 105 A ps.length c 9 0 0 ((j.f.2.1).ok oM) ?_)))));exact lH 106 (az (ps.getD 0 au)) j ((j.f.2.1).el 0 oM) (xY 107 j e C ⟨⟨l,rfl⟩,trivial⟩ (ih K b (bs++((⟨#[45]⟩:ByteArray).data.toList)) (ps.getD 0 au) (ks.getD 0 bv) (3) _ _ j.g e.hK e.j8 e.ib ((j.f.1).at_ 0 oM) (hW 0 oM) (by first|omega|(simp only[zY];omega))) (fun _ _ j e=>lD (j.retB e [] (by rw[y];try simp only[MG]))))
   try rw[zd] at j
   try rw[zd]
   refine ce (cQ ?_);have Q:=j;have B:UpM [] zl zm zl zm:=UpM.refl j.g;have hT_:=zp aM;have y:ms (gx d) (.mk op n q s ks)=gx d (ks.getD 0 bv) (ke op)++(Bk op).data.toList++gx d (ks.getD 1 bv) (ke op+1):=by simp only[ms];repeat first|rw[MN oM]|rw[MM oM]
   have x:=F;rw[y] at x
   try simp only[zY] at x
   refine cR 7 [] mixed j ar (eV 0 76 (pB b) (eV 1 77 (qP H 8) (HX 2 78 [3,4,7] [(0,8,1)] (qS A ps.length c) j (eX 3 79 A ps.length c 9 0 0 ((j.f.2.1).ok oM) (eH 4 80 (az (ps.getD 0 au)) j ((j.f.2.1).el 0 oM) (HX 5 81 [6,7] [(0,0,9)] (pW op n q s A ps.length c) j (FY 6 82 j B (fun _ _ j=>rD ⟨op,n,q,s,A,ps.length,c⟩ _ _ j.g) ?_)))))));rintro _ _ _ _ _ B j rfl;refine Hm j B (fun _ _ B j=>?_);obtain ⟨_,j,e⟩:=e.back Q B;refine Jh 7 83 j e C ⟨⟨l,rfl⟩,trivial⟩ (ih K b bs (ps.getD 0 au) (ks.getD 0 bv) (ke op) _ _ j.g e.hK e.j8 e.ib ((j.f.1).at_ 0 oM) (hW 0 oM) (by first|omega|(simp only[zY];omega))) (fun _ _ j e=>th (lL j [.m 84 0,.v 85 (pB H),.o 86 (iV op) 0 0 1] (Ex 87 j e (GE op _ _ j.g) ?_)));rintro _ _ _ _ j e rfl;refine xY 88 j e C ⟨⟨l,rfl⟩,trivial⟩ (DN K b (bs++(gx d (ks.getD 0 bv) (ke op))) (Bk op) _ e.ib e.hK (by first|omega|(simp only[zY];omega))) (fun zn zo j e=>lN ?_);have Q:=j;have B:UpM [] zn zo zn zo:=UpM.refl j.g;refine cR 8 [] mixed j ar (eV 0 89 (pB b) (eV 1 90 (qP H 8) (HX 2 91 [3,4,8] [(0,8,1)] (qS A ps.length c) j (eX 3 92 A ps.length c 9 1 1 ((j.f.2.1).ok oM) (eH 4 93 (az (ps.getD 1 au)) j ((j.f.2.1).el 1 oM) (HX 5 94 [6,7,8] [(0,0,9)] (pW op n q s A ps.length c) j (FY 6 95 j B (fun _ _ j=>rD ⟨op,n,q,s,A,ps.length,c⟩ _ _ j.g) ?_)))))));rintro _ _ _ _ _ B j rfl;refine eI 7 96 ((ke op)+1) (Hm j B (fun _ _ B j=>?_));obtain ⟨_,j,e⟩:=e.back Q B;exact Jh 8 97 j e C ⟨⟨l,rfl⟩,trivial⟩ (ih K b ((bs++(gx d (ks.getD 0 bv) (ke op)))++((Bk op).data.toList)) (ps.getD 1 au) (ks.getD 1 bv) ((ke op)+1) _ _ j.g e.hK e.j8 e.ib ((j.f.1).at_ 1 oM) (hW 1 oM) (by first|omega|(simp only[zY];omega))) (fun _ _ j e=>tD (j.retB e [] (by rw[y];try simp only[MG])))
  have Y:=ML O;refine lB 66 O (lL j [.m 65 66] (ak ?_));have y:ms (gx d) (.mk op n q s ks)=s.data.toList:=by simp only[ms];repeat first|rw[MN oM]|rw[MM oM]
  have x:=F;rw[y] at x
  try simp only[zY] at x
  exact kQ (lL j [.m 67 0,.v 68 (qP H 7),.o 69 (.string s) 0 7 1] (xY 70 j e C ⟨⟨l,rfl⟩,trivial⟩ (DN K b bs s _ e.ib e.hK (by first|omega|(simp only[zY];omega))) (fun _ _ j e=>lD (j.retB e [] (by rw[y];try simp only[MG])))))
 have W:=ML J;refine lB 47 J (lL j [.m 46 47] (ak ?_));obtain ⟨k,U,M⟩:=hq1 oM;have hlq:LQ 100000000 q:=by rw[M];exact (LQ.int (z:=(k:Int)) oM oM).mono oM
 have hsg:0≤q.num.sign:=by rw[M];rw[MC];cases k<;>simp[Int.sign]
 have y:ms (gx d) (.mk op n q s ks)=(uu k).data.toList:=by simp only[ms];rw[MN (show op=1 by omega),M];rfl
 have x:=F;rw[y] at x
 try simp only[zY] at x
 refine aa j [.v 48 (qP H 2),.o 49 (qv q) 0 2 5] (Ex 50 j e ((by have q_:=Ei k U _ _ j.g;rw[←M] at q_;exact q_)) ?_);rintro _ _ _ _ j e rfl;refine lL j [.m 6 50] (ah (aa j [.v 51 (qP H 2),.o 52 (qv q) 0 2 5] (Ex 53 j e (jc q hlq _ _ j.g) ?_)));rintro _ _ _ _ j e rfl;have zr:(decide ((q.num.sign:Int)<(0:Int)))=false:=decide_eq_false oM;refine lB 54 zr (lL j [.m 55 54,.m 56 6] (Ex 57 j e (qG k U _ _ j.g) ?_));rintro _ _ _ _ j e rfl;exact lL j [.v 58 qF] (af (cK (kQ (lL j [.m 62 0,.m 63 6] (xY 64 j e C ⟨⟨l,rfl⟩,trivial⟩ (DN K b bs (uu k) _ e.ib e.hK (by first|omega|(simp only[zY];omega))) (fun _ _ j e=>lD (j.retB e [] (by rw[y];try simp only[MG]))))))))
theorem Bp (d:Nat)(K b:Nat)(bs:List UInt8)(op n:Int)(q:Rat)(s:ByteArray)(A:Option Addr)(c:Nat)(ps:List PTm)(ks:List Tm)(V:ps.length≤c)(hB:∀ (bs:List UInt8) (w:World) (h:Hp),G w h→K≤w.heap.size→J8 5 K b h→Lib.IsBuilderF 124 5 K b (Lib.byteCells (bs)) w→SlO 9 bg au h A ps→Tms d h ps ks→bs.length+(ms (gx d) (.mk op n q s ks)).length≤100000000000→Calls Tryz.prog 63 #[pB b,az ⟨op,n,q,s,A,ps.length,c⟩,iV 0] w (nO 124 5 K b (.tuple #[]) bs (ms (gx d) (.mk op n q s ks)) w))(i:Int)(L:ke op<i)(p:bs.length+((⟨#[40]⟩:ByteArray).data.toList++ms (gx d) (.mk op n q s ks)++(⟨#[41]⟩:ByteArray).data.toList).length≤100000000000)(w:World)(h:Hp)(g:G w h)(l:K≤w.heap.size)(z:J8 5 K b h)(x:Lib.IsBuilderF 124 5 K b (Lib.byteCells (bs)) w)(H:SlO 9 bg au h A ps)(C:Tms d h ps ks):Calls Tryz.prog 63 #[pB b,pW op n q s A ps.length c,iV i] w (nO 124 5 K b (.tuple #[]) bs ((⟨#[40]⟩:ByteArray).data.toList++ms (gx d) (.mk op n q s ks)++(⟨#[41]⟩:ByteArray).data.toList) w):=by
 obtain ⟨wz,B,e,k⟩:=SS.atKb g l;have a:=BSt.start l z x;have D:=C.len;have I:=aE op;have J:=dK op;replace e:=((e.aS H).add (K:=fun F=>Tms d F ps ks) C);have y:=p
 simp only[zY] at y
 refine go Tryz.func63 [(0,pB b),(1,pW op n q s A ps.length c),(2,iV i)] rfl (av (I9 4 43 (pG op n q s A ps.length c) e a (fun S w2 U j e a=>ah (aa e [.o 9 (pW op n q s A ps.length c) 0 0 9] (Ex 10 e a (rD ⟨op,n,q,s,A,ps.length,c⟩ _ _ e.g) ?_)))));rintro _ M O _ e a rfl;refine lL e [.m 11 2] ?_;have u:(decide ((ke op:Int)<(i:Int)))=true:=decide_eq_true oM;exact lB 12 u (ak (aa e [.m 13 0] (xY 14 e a k ⟨⟨j,rfl⟩,trivial⟩ (DN K b bs (⟨#[40]⟩) _ a.ib a.hK (by first|omega|(simp only[zY];omega))) (fun Q W e a=>aI (lL e [.m 15 0,.o 16 (pW op n q s A ps.length c) 0 0 9] (xY 17 e a k ⟨⟨j,rfl⟩,trivial⟩ (hB (bs++((⟨#[40]⟩:ByteArray).data.toList)) _ _ e.g a.hK a.j8 a.ib e.f.2.1 e.f.1 (by first|omega|(simp only[zY];omega))) (fun X _ e a=>aI (lL e [.m 18 0] (xY 19 e a k ⟨⟨j,rfl⟩,trivial⟩ (DN K b ((bs++((⟨#[40]⟩:ByteArray).data.toList))++(ms (gx d) (.mk op n q s ks))) (⟨#[41]⟩) _ a.ib a.hK (by first|omega|(simp only[zY];omega))) (fun _ _ e a=>lN (kX (e.retB a [] (by simp only[MG])))))))))))))
theorem HV {d:Nat}{t:Tm}{l:Int}(h:ke t.op<l):gx (d+1) t l=(⟨#[40]⟩:ByteArray).data.toList++ms (gx d) t++(⟨#[41]⟩:ByteArray).data.toList:=MN h
theorem HH {d:Nat}{t:Tm}{l:Int}(h:l≤ke t.op):gx (d+1) t l=ms (gx d) t:=MM oM
theorem xA:∀ d:Nat,∀ (K b:Nat) (bs:List UInt8) (p:PTm) (t:Tm) (least:Int) (w:World) (h:Hp),G w h→K≤w.heap.size→J8 5 K b h→Lib.IsBuilderF 124 5 K b (Lib.byteCells (bs)) w→TmH d h p t→rt d t→bs.length+(gx d t least).length≤100000000000→Calls Tryz.prog 63 #[pB b,az p,iV least] w (nO 124 5 K b (.tuple #[]) bs (gx d t least) w)
  | 0,_,_,_,_,_,_,_,_,_,_,_,_,x,_,_=>x.elim
  | d + 1,K,b,bs,p,t,least,w,h,g,k,j,i,x,tx,a=>by
    obtain ⟨op,n,q,s,A,c,ps,ks,rfl,rfl,o,e,f⟩:=x.open;obtain ⟨z,u,C,y,B⟩:=tx;have l:=fun (bs:List UInt8) (least:Int) (hle:least≤ke op) (w:World) (h:Hp) (g:G w h) (k:K≤w.heap.size) (j:J8 5 K b h) (i:Lib.IsBuilderF 124 5 K b (Lib.byteCells (bs)) w) (e:SlO 9 bg au h A ps) (f:Tms d h ps ks) (a:bs.length+(ms (gx d) (.mk op n q s ks)).length≤100000000000)=>A3 d K b bs (xA d) op n q s A c ps ks o z u C y B least hle a w h g k j i e f
    by_cases hr:ke op<least
    · rw[HV (t:=(.mk op n q s ks)) hr] at a ⊢
      exact Bp d K b bs op n q s A c ps ks o (fun bs w h g k j i e f a=>l bs 0 (by have:=dK op;omega) w h g k j i e f a) least hr a w h g k j i e f
    · rw[HH (t:=(.mk op n q s ks)) (by show least≤ke op;omega)] at a ⊢
      exact l bs least oM w h g k j i e f a
theorem Dm (d:Nat)(Q:d≤24)(p:PTm)(t:Tm)(J:WfT (fun s=>bI s=true) d t)(W:bp d t≤1000)(D:rt d t)(S:(gx d t 0).length≤100000000000)(w:World)(h:Hp)(g:G w h)(M:TmH d h p t):CV 27 #[az p] w h (.tuple #[.string ⟨(gx d t 0).toArray⟩,iV 0]):=by
 have a:=((sS g).add (K:=fun j=>TmH d j p t) M);refine go Tryz.func27 [(0,az p)] rfl (av (lA 1 43 (bg p) a (fun X w2 Y a=>lL a [.v 2 (eS),.v 3 (iV 0)] (ah (aa a [.o 5 (az p) 0 0 9] (ag 6 a ((by have F:=sf bI fi BY (fun s j=>mi j) oA d p t Q _ _ a.g a.f.1 J;rw[MM oM] at F;exact F)) (fun i V a=>lL a [.v 7 qF] (af (cK (av ?_))))))))));have l:=a;refine Je 4 124 [.pointer none,sZ] a (fun H k B z=>?_);obtain ⟨L,a,I⟩:=l.liftJ k
 have C:J8 5 i.heap.size i.heap.size L:=fun c o O e=>by
  rcases ep c H.heap.size with h1|h1
  ·rw[I c O h1] at e;injection e with e;exact .inl e.symm
  ·rw[et (by have:=a.g.size;omega)] at e;cases e
 have y:Lib.IsBuilderF 124 5 i.heap.size i.heap.size (Lib.byteCells []) H:=.inl ⟨nR _,_,z,World.ownsRowF_nil _ _ _ _,by simp[Value.ownBlock]⟩;refine aI (lL a [.o 8 (az p) 0 0 9] (H4 9 l k ((xA d i.heap.size i.heap.size [] p t 0 _ _ a.g B C y a.f.1 D (by simpa using S)).mono fun _ _ j=>⟨j.1,j.2.1,j.2.2.1⟩) (fun U Z a b x=>?_)))
 clear k
 have k:=b;clear b;have u:Lib.IsBuilderF 124 5 i.heap.size i.heap.size (Lib.byteCells (gx d t 0)) _:=x;refine aI (H4 10 l k ((Any.Builder_String_any_f Tryz.lays169 Tryz.Builder_Extra_169 i.heap.size i.heap.size (gx d t 0) _ u k.size).mono fun _ _ j=>⟨j.1,True.intro,j.2.2⟩) (fun _ _ a b x=>?_))
 clear k
 have k:=b;clear b;exact lL a [.m 2 10,.v 3 (iV 0)] (ac a [] (.tuple #[.string (⟨(gx d t 0).toArray⟩),iV 0]) rfl)
section
variable {ok:ByteArray→Prop} {d:Nat}
theorem xJ {q:Rat}(h:LQ 1 q):WfT ok (d+1) (fx q):=⟨rfl,fun h=>MO rfl h,h.mono kD,fun h=>MO (show (1:Int)=2 from h) kD,fun _=>rfl,fun _=>rfl,by show (-12:Int)≤0;decide,by show (0:Int)≤12;decide,fun i hi=>MO hi (Mk i)⟩
theorem nz {s:ByteArray}(h:ok s):WfT ok (d+1) (dV s):=⟨rfl,fun _=>rfl,uk kD,fun _=>h,fun h=>MO rfl h,fun _=>rfl,by show (-12:Int)≤0;decide,by show (0:Int)≤12;decide,fun i hi=>MO hi (Mk i)⟩
theorem xQ {n:Int}{t:Tm}(x:WfT ok d t)(h1 : -12≤n)(a:n≤12):WfT ok (d+1) (.mk 8 n 0 ⟨#[]⟩ [t]):=⟨rfl,fun _=>rfl,uk kD,fun h=>MO (show (8:Int)=2 from h) kD,fun _=>rfl,fun h=>MO rfl h,h1,a,fun i hi=>by
 have:i=0:=by have:i<1:=hi;omega
 subst this;exact x⟩
theorem qi {op:Int}{t u:Tm}(x:WfT ok d t)(y:WfT ok d u)(ha:d8 op=2)(a:op≠2):WfT ok (d+1) (dH op t u):=⟨ha,fun _=>rfl,uk kD,fun h=>MO (show op=2 from h) a,fun _=>rfl,fun _=>rfl,by show (-12:Int)≤0;decide,by show (0:Int)≤12;decide,fun i hi=>by
 have:i=0∨i=1:=by have:i<2:=hi;omega
 rcases this with rfl|rfl
 ·exact x
 ·exact y⟩
end
theorem Dt {s:ByteArray}(h:bI s=true):WfT (fun s=>bI s=true) 2 (.mk 8 2 0 ⟨#[]⟩ [dV s]):=xQ (nz h) kD kD
theorem vr {s:ByteArray}(h:bI s=true):WfT (fun s=>bI s=true) 2 (dH 5 (fx ((2:Int):Rat)) (dV s)):=qi (xJ (LQ.int kD kD)) (nz h) kD kD
theorem C4 {s:ByteArray}:bp 2 (.mk 8 2 0 ⟨#[]⟩ [dV s])=2:=rfl
theorem Ds {s:ByteArray}:bp 2 (dH 5 (fx ((2:Int):Rat)) (dV s))=2:=rfl
theorem I1 {h:Hp}{b:Nat}{s:ByteArray}{a:Option Addr}{c:Nat}(e:SlO 9 bg au h (some ⟨b,0,none⟩) [(⟨1,0,((2:Int):Rat),⟨#[]⟩,none,0,0⟩:PTm),(⟨2,0,0,s,a,0,c⟩:PTm)]):TmH 2 h (⟨5,0,0,⟨#[]⟩,some ⟨b,0,none⟩,2,2⟩:PTm) (dH 5 (fx ((2:Int):Rat)) (dV s)) :=
 TmH.mk (ps:=[(⟨1,0,((2:Int):Rat),⟨#[]⟩,none,0,0⟩:PTm),(⟨2,0,0,s,a,0,c⟩:PTm)]) (ks:=[_,_]) ⟨rfl,fun i hi=>by
  have:i=0∨i=1:=by have:i<2:=hi;omega
  rcases this with rfl|rfl
  ·exact TmH.mk (ps:=[]) (ks:=[]) Tms.nil (ey _) SlO.nil
  ·exact ⟨rfl,rfl,rfl,rfl,rfl,K7 _,[],rfl,⟨fun d=>MO d (Nat.lt_irrefl 0),fun i hi=>MO hi (Mk i)⟩,fun i hi=>MO hi (Mk i)⟩⟩ (ey _) e
theorem xh {h:Hp}{p:PTm}{s:ByteArray}(x:TmH 2 h p (.mk 8 2 0 ⟨#[]⟩ [dV s])):∃ (A:Option Addr) (c:Nat) (Ax:Option Addr) (cx:Nat),p=⟨8,2,0,⟨#[]⟩,A,1,c⟩∧SlO 9 bg au h A [(⟨2,0,0,s,Ax,0,cx⟩:PTm)]:=by
  obtain ⟨h1,y,D,B,o,M,ps,C,a,J⟩:=x;obtain ⟨op,n,q,i,A,m,c⟩:=p;have k:=J 0 (by show 0<1;decide)
  match ps,C,a,k with
  | [px],_,a,k =>
    obtain ⟨I,k2,u,H,l,_⟩:=k;obtain ⟨b,K,F,L,z,j,c'⟩:=px;refine ⟨A,c,z,c',?_,?_⟩
    · have e1:op=8:=h1
      have e2:n=2:=y;have f:q=0:=D;have e:i=⟨#[]⟩:=B;have d:m=1:=o;rw[e1,e2,f,e,d]
    · have e1:b=2:=I
      have e2:K=0:=k2;have f:F=0:=u;have e:L=s:=H;have d:j=0:=l;rw[e1,e2,f,e,d] at a;exact a
theorem EP (s:ByteArray)(i:bI s=true)(p:Option Addr)(u:Nat)(A:Option Addr)(c:Nat)(w:World)(h:Hp)(g:G w h)(z:SlO 9 bg au h A ([(⟨2,0,0,s,p,0,u⟩:PTm)]:List PTm))(B:TmH 2 h ⟨8,2,0,⟨#[]⟩,A,1,c⟩ (.mk 8 2 0 ⟨#[]⟩ [dV s])):CR 28 #[.agg #[iV 8,iV 2,.bool false,uV 0,eS,uV 0,eS,eS,.slice A 1 c],.string s] w h (fun v h1=>∃ e,v=.tuple #[az e,iV 0]∧TmH 2 h1 e (dH 5 (fx ((2:Int):Rat)) (dV s))):=by
 have a:=(((sS g).aS z).add (K:=fun b=>TmH 2 b ⟨8,2,0,⟨#[]⟩,A,1,c⟩ (.mk 8 2 0 ⟨#[]⟩ [dV s])) B);refine go Tryz.func28 [(0,.agg #[iV 8,iV 2,qF,uV 0,eS,uV 0,eS,eS,qS A 1 c]),(1,.string s)] rfl (av (lA 2 43 ([iV 8,iV 2,qF,uV 0,eS,uV 0,eS,eS,qS A 1 c]) a (fun H w2 I a=>lA 4 43 dS a (fun L J D a=>lL a [.v 5 (iV 0)] (ah (aa a [.o 9 (.agg #[iV 8,iV 2,qF,uV 0,eS,uV 0,eS,eS,qS A 1 c]) 1 0 9] (ag 10 a ((by have j:=sf bI fi BY (fun s b=>mi b) oA 2 ⟨8,2,0,⟨#[]⟩,A,1,c⟩ (.mk 8 2 0 ⟨#[]⟩ [dV s]) oM _ _ a.g a.f.1 (Dt i);rw[MM (by rw[C4];omega)] at j;exact j)) (fun F M a=>lL a [.v 11 qF] (af (cK (aa a [.o 14 (.agg #[iV 8,iV 2,qF,uV 0,eS,uV 0,eS,eS,qS A 1 c]) 1 0 9,.m 15 1] (lC 16 a (AY s p u A c _ _ a.g a.f.2.1) ?_))))))))))));rintro _ O _ a ⟨x,d,rfl,k⟩;replace a:=a.aS k;refine lL a [.m 13 16,.v 17 (az (⟨8,2,0,⟨#[]⟩,sB x,1,1⟩:PTm)),.v 18 (az (⟨5,0,0,⟨#[]⟩,sB d,2,2⟩:PTm))] (lA 6 43 dS a (fun y _ _ a=>lA 7 43 dS a (fun C _ _ a=>lP 1 0 (bg (⟨8,2,0,⟨#[]⟩,sB x,1,1⟩:PTm)) a (fun _ a=>lP 0 0 (bg (⟨5,0,0,⟨#[]⟩,sB d,2,2⟩:PTm)) a (fun _ a=>ah ?_)))));replace a:=a.add (K:=fun b=>TmH 2 b (⟨5,0,0,⟨#[]⟩,sB d,2,2⟩:PTm) (dH 5 (fx ((2:Int):Rat)) (dV s))) (I1 a.f.1);refine aa a [.o 19 (az (⟨5,0,0,⟨#[]⟩,sB d,2,2⟩:PTm)) 0 0 9] (ag 20 a ((by have j:=sf bI fi BY (fun s b=>mi b) oA 2 (⟨5,0,0,⟨#[]⟩,sB d,2,2⟩:PTm) (dH 5 (fx ((2:Int):Rat)) (dV s)) oM _ _ a.g a.f.1 (vr i);rw[MM (by rw[Ds];omega)] at j;exact j)) (fun _ _ a=>lL a [.m 8 20] (aI (lL a [.m 21 8,.v 22 qF] (af (cK (aa a [.o 25 (az (⟨5,0,0,⟨#[]⟩,sB d,2,2⟩:PTm)) 0 0 9] (lC 26 a (su (fun s=>bI s=true) 2 (⟨5,0,0,⟨#[]⟩,sB d,2,2⟩:PTm) (dH 5 (fx ((2:Int):Rat)) (dV s)) _ _ a.g a.f.1 (vr i)) ?_))))))));rintro _ _ _ a ⟨e,rfl,l⟩;replace a:=(a.add (K:=fun b=>TmH 2 b e (dH 5 (fx ((2:Int):Rat)) (dV s))) l);exact lP 2 0 (bg e) a (fun _ a=>lL a [.v 5 (iV 0)] (ac a [(2,0,9)] (.tuple #[az e,iV 0]) (⟨e,rfl,a.f.1⟩)))
theorem Fh (s:ByteArray)(a:bI s=true)(p:PTm)(w:World)(h:Hp)(g:G w h)(b:TmH 2 h p (.mk 8 2 0 ⟨#[]⟩ [dV s])):CR 28 #[az p,.string s] w h (fun v h1=>∃ d,v=.tuple #[az d,iV 0]∧TmH 2 h1 d (dH 5 (fx ((2:Int):Rat)) (dV s))):=by
 obtain ⟨A,c,e,i,rfl,f⟩:=xh b;exact EP s a e i A c w h g f b
def kf:Tm:=(dH 5 (dV ⟨#[97]⟩) (.mk 8 2 0 ⟨#[]⟩ [dH 3 (dV ⟨#[98]⟩) (fx (((1:Nat):Rat)))]))
theorem GN:dO G8 (fun _=>none) ⟨#[97,42,40,98,43,49,41,94,50]⟩ 40 .sum 0=some (.ok kf 9):=by kernel_rfl
theorem HP:dO G8 (fun _=>none) ⟨#[120,94,50]⟩ 40 .sum 0=some (.ok (.mk 8 2 0 ⟨#[]⟩ [dV ⟨#[120]⟩]) 3):=by kernel_rfl
theorem Fx:bI ⟨#[120]⟩=true:=by decide +kernel
theorem Dn:WfT (fun s=>bI s=true) 4 kf:=qi (nz (by decide +kernel)) (xQ (qi (nz (by decide +kernel)) (xJ (LQ.int (z:=1) kD kD)) kD kD) kD kD) kD kD
theorem De:bp 4 kf=5:=rfl
theorem Du:gx 4 kf 0=[97,32,42,32,40,98,32,43,32,49,41,94,50]:=by decide +kernel
theorem Df:gx 2 (dH 5 (fx ((2:Int):Rat)) (dV ⟨#[120]⟩)) 0=[50,32,42,32,120]:=by decide +kernel
section
variable {d:Nat}
theorem vz {k:Nat}(h:k<100):rt (d+1) (fx ((k:Nat):Rat)):=⟨rfl,⟨by decide,by decide⟩,fun _=>⟨k,h,rfl⟩,⟨by decide,by decide⟩,fun i hi=>MO hi (Mk i)⟩
theorem p6 {s:ByteArray}:rt (d+1) (dV s):=⟨rfl,⟨by decide,by decide⟩,fun h=>MO h kD,⟨by decide,by decide⟩,fun i hi=>MO hi (Mk i)⟩
theorem EA {n:Int}{t:Tm}(h:0≤n∧n<100)(x:rt d t):rt (d+1) (.mk 8 n 0 ⟨#[]⟩ [t]):=⟨rfl,⟨by decide,by decide⟩,fun h=>MO h kD,h,fun i hi=>by
 have:i=0:=by have:i<1:=hi;omega
 subst this;exact x⟩
theorem pQ {op:Int}{t u:Tm}(a:1<op∧op≤8)(ha:d8 op=2)(x:rt d t)(y:rt d u):rt (d+1) (dH op t u):=⟨ha,⟨by omega,a.2⟩,fun h=>by omega,⟨by decide,by decide⟩,fun i hi=>by
 have:i=0∨i=1:=by have:i<2:=hi;omega
 rcases this with rfl|rfl
 ·exact x
 ·exact y⟩
end
theorem GD:rt 4 kf:=pQ kD kD p6 (EA kD (pQ kD kD p6 (vz kD)))
theorem F6:rt 2 (dH 5 (fx ((2:Int):Rat)) (dV ⟨#[120]⟩)):=pQ kD kD (vz (k:=2) kD) p6
theorem uO  (w:World)(h:Hp)(g:G w h):CV 9 #[] w h (.bool true):=by
 have a:=sS g;refine go Tryz.func9 [] rfl (aa a [.v 0 qF] (aI (lC 12 a (wh ⟨#[97,42,40,98,43,49,41,94,50]⟩ kD 40 kf 9 GN kD 4 kD Dn (by rw[De];decide) _ _ a.g) ?_)));rintro _ w1 F a ⟨i,rfl,l⟩;replace a:=(a.add (K:=fun e=>TmH 4 e i kf) l);refine lL a [.m 11 12,.v 13 (az i),.v 14 (.agg #[iV 0,iV 0,iV 0])] (lA 1 43 dS a (fun C z B a=>lA 2 76 ([iV 0,iV 0,iV 0]) a (fun u D H a=>lP 1 0 (bg i) a (fun I a=>lP 0 0 ([iV 0,iV 0,iV 0]) a (fun _ a=>aI (lL a [.o 16 (az i) 1 0 9] (ag 17 a ((by have b:=Dm 4 kD i kf Dn (by rw[De];decide) GD (by rw[Du];decide) _ _ a.g (a.f.1);rw[Du] at b;exact b)) (fun _ _ a=>lL a [.m 15 17,.v 18 (.string (⟨#[97,32,42,32,40,98,32,43,32,49,41,94,50]⟩)),.v 19 (iV 0),.m 3 18,.m 4 19] (aI (lC 21 a (wh ⟨#[120,94,50]⟩ kD 40 (.mk 8 2 0 ⟨#[]⟩ [dV ⟨#[120]⟩]) 3 HP kD 2 kD (Dt Fx) (by rw[C4];decide) _ _ a.g) ?_))))))))));rintro _ _ _ a ⟨c,rfl,k⟩;replace a:=(a.add (K:=fun e=>TmH 2 e c (.mk 8 2 0 ⟨#[]⟩ [dV ⟨#[120]⟩])) k);refine lL a [.m 20 21,.v 22 (az c),.v 23 (.agg #[iV 0,iV 0,iV 0])] (lA 5 43 dS a (fun p _ _ a=>lA 6 76 ([iV 0,iV 0,iV 0]) a (fun y _ _ a=>lP 1 0 (bg c) a (fun _ a=>lP 0 0 ([iV 0,iV 0,iV 0]) a (fun _ a=>aI (lL a [.o 25 (az c) 1 0 9] (lC 26 a (Fh ⟨#[120]⟩ Fx c _ _ a.g a.f.1) ?_)))))));rintro _ _ _ a ⟨d,rfl,j⟩;replace a:=(a.add (K:=fun e=>TmH 2 e d (dH 5 (fx ((2:Int):Rat)) (dV ⟨#[120]⟩))) j);refine lL a [.m 24 26,.v 27 (az d),.v 28 (iV 0)] (lA 7 43 dS a (fun x _ _ a=>lP 0 0 (bg d) a (fun _ a=>lL a [.m 8 28] (aI (lL a [.o 30 (az d) 0 0 9] (ag 31 a ((by have b:=Dm 2 kD d (dH 5 (fx ((2:Int):Rat)) (dV ⟨#[120]⟩)) (vr Fx) (by rw[Ds];decide) F6 (by rw[Df];decide) _ _ a.g (a.f.1);rw[Df] at b;exact b)) (fun _ _ a=>lL a [.m 29 31,.v 32 (.string (⟨#[50,32,42,32,120]⟩)),.v 33 (iV 0),.m 9 32,.m 10 33] (aI (lL a [.v 34 (pB u),.o 35 (iV 0) 3 0 1,.v 36 qT,.m 37 36,.m 38 4,.v 39 qT,.v 40 qT,.m 41 40,.m 42 3,.v 43 qT,.v 44 qT,.m 45 44,.m 46 8,.v 47 qT,.v 48 qT,.m 49 48,.m 50 10,.v 51 qT,.v 52 qT,.m 53 52,.m 54 9,.v 55 qT,.v 56 qT,.m 0 56] (lN (bH [(0,qT)] ?_)))))))))));exact kX (a.ret [] qT rfl)
instance (s:ByteArray) (ns:List ByteArray):Decidable (s∈ns):=@List.instDecidableMemOfLawfulBEq ByteArray instBEqOfDecidableEq inferInstance s ns
structure LaidO (pl:ByteArray→Int) (d:Nat) (h:Hp) (rl:List RSt) (ss:List OSt) (l:List Stp):Prop where
  rs:RSs h rl ss
  mp:ss.map OSt.stp=l
  sm:Iw ss
section
variable {pl:ByteArray→Int} {d k:Nat} {l:List Stp} {ks:List Tm} {za zb:Int}
end
theorem IV (b:Bool)(f:Option Addr)(a e:Nat)(c:Option Addr)(j i:Nat)(w:World)(h:Hp)(g:G w h):CV 42 #[.agg #[.bool b,.slice f a e,.slice c j i]] w h (bE ⟨1,0,b,f,a,e,c,j,i,⟨#[]⟩,none,0,0⟩):=by
 have d:=sS g;exact go Tryz.func42 [(0,.agg #[.bool b,qS f a e,qS c j i])] rfl (av (lA 1 28 ([.bool b,qS f a e,qS c j i]) d (fun k w2 x d=>lA 2 31 ea d (fun l y p d=>aI (lL d [.o 3 (.agg #[.bool b,qS f a e,qS c j i]) 1 0 3,.v 4 (.agg #[iV 1,iV 0,.bool b,qS f a e,qS c j i,eS,sZ])] (lP 0 0 ([iV 1,iV 0,.bool b,qS f a e,qS c j i,eS,sZ]) d (fun u d=>ac d [(0,0,7)] (.agg #[iV 1,iV 0,.bool b,qS f a e,qS c j i,eS,sZ]) rfl)))))))
theorem Gl (op:Int)(a rb:RTm)(w:World)(h:Hp)(g:G w h):CR 45 #[iV op,bE a,bE rb] w h (fun v h1=>∃ b,v=bE ⟨op,0,false,none,0,0,none,0,0,⟨#[]⟩,sB b,2,2⟩∧SlO 7 bU aN h1 (sB b) [a,rb]):=by
 have e:=sS g;refine go Tryz.func45 [(0,iV op),(1,bE a),(2,bE rb)] rfl (av (lA 4 31 (bU a) e (fun k w2 p e=>lA 5 31 (bU rb) e (fun x u j e=>lA 6 31 ea e (fun z i y e=>aI (lL e [.m 7 0,.o 8 (bE a) 2 0 7,.o 9 (bE rb) 1 0 7] (lR 10 31 2 ([iV a.op,iV a.n,.bool a.neg,qS a.zA a.zn a.zc,qS a.dA a.dn a.dc,.string a.s,qS a.A a.m a.c,iV rb.op,iV rb.n,.bool rb.neg,qS rb.zA rb.zn rb.zc,qS rb.dA rb.dn rb.dc,.string rb.s,qS rb.A rb.m rb.c]) e (fun za _ _ e=>?_))))))));replace e:=e.aS (SlO.of_flat (sz:=7) (f:=bU) (d:=aN) (b:=za) (o:=0) (l:=([(⟨a.op,a.n,a.neg,a.zA,a.zn,a.zc,a.dA,a.dn,a.dc,a.s,a.A,a.m,a.c⟩:RTm),(⟨rb.op,rb.n,rb.neg,rb.zA,rb.zn,rb.zc,rb.dA,rb.dn,rb.dc,rb.s,rb.A,rb.m,rb.c⟩:RTm)]:List RTm)) (fun _=>rfl) e.f.1);exact lL e [.v 11 (.agg #[iV op,iV 0,qF,sZ,sZ,eS,qS (sB za) 2 2])] (lP 0 0 ([iV op,iV 0,qF,sZ,sZ,eS,qS (sB za) 2 2]) e (fun _ e=>ac e [(0,0,7)] (.agg #[iV op,iV 0,qF,sZ,sZ,eS,qS (sB za) 2 2]) (⟨_,rfl,e.f.1⟩)))
section
variable {nm:Int→ByteArray} {l:List Stp} {inp:Int} {h:Hp} {k:Nat} {dp:Nat→Nat}
variable (hdp:DpS dp l) (hF:∀ k,k<l.length→iP inp k (l.getD k ew))
include hdp hF
end
section
variable {okb amb:Nat→Bool} {n i:Nat}
end
theorem wm:∀ s,fi s→∀ (w:World) (h:Hp),G w h→Calls Tryz.prog 79 #[.string s] w (Ret w h (fun v _=>∃ b,v=.bool b∧b=bI s)):=fun s a w h g =>
 (En s (by unfold fi at a;omega) w h g).mono fun e w' ⟨v,h',e1,u,e2⟩=>⟨v,h',e1,u,_,e2,rfl⟩
theorem H6:∀ s,fi s→∀ (w:World) (h:Hp),G w h→Calls Tryz.prog 92 #[.string s] w (Ret w h (fun v _=>∃ b,v=.bool b∧b=bI s)):=fun s a w h g =>
 (IJ s (by unfold fi at a;omega) w h g).mono fun e w' ⟨v,h',e1,u,e2⟩=>⟨v,h',e1,u,_,e2,rfl⟩
theorem pU  (w:World)(h:Hp)(g:G w h):CR 30 #[] w h (fun v h1=>∃ b,v=.slice (sB b) 3 3∧SlO 1 GW ⟨#[]⟩ h1 (sB b) ek):=by
 have a:=sS g;refine go Tryz.func30 [] rfl (aa a [.v 0 (sZ)] (aI (lR 1 9 3 ([.string (⟨#[120]⟩),.string (⟨#[121]⟩),.string (⟨#[122]⟩)]) a (fun c w2 e a=>?_))));replace a:=a.aS (SlO.of_flat (sz:=1) (f:=GW) (d:=⟨#[]⟩) (b:=c) (o:=0) (l:=ek) (fun _=>rfl) a.f.1);exact lL a [.m 0 1] (ac a [] (qS (sB c) 3 3) (⟨_,rfl,a.f.1⟩))
theorem DK (op:Int)(a:RTm)(w:World)(h:Hp)(g:G w h):CR 46 #[iV op,bE a] w h (fun v h1=>∃ b,v=bE ⟨op,0,false,none,0,0,none,0,0,⟨#[]⟩,sB b,1,1⟩∧SlO 7 bU aN h1 (sB b) [a]):=by
 have e:=sS g;refine go Tryz.func46 [(0,iV op),(1,bE a)] rfl (av (lA 3 31 (bU a) e (fun k w2 y e=>lA 4 31 ea e (fun p z u e=>aI (lL e [.m 5 0,.o 6 (bE a) 1 0 7] (lR 7 31 1 ([iV a.op,iV a.n,.bool a.neg,qS a.zA a.zn a.zc,qS a.dA a.dn a.dc,.string a.s,qS a.A a.m a.c]) e (fun i j x e=>?_)))))));replace e:=e.aS (SlO.of_flat (sz:=7) (f:=bU) (d:=aN) (b:=i) (o:=0) (l:=([(⟨a.op,a.n,a.neg,a.zA,a.zn,a.zc,a.dA,a.dn,a.dc,a.s,a.A,a.m,a.c⟩:RTm)]:List RTm)) (fun _=>rfl) e.f.1);exact lL e [.v 8 (.agg #[iV op,iV 0,qF,sZ,sZ,eS,qS (sB i) 1 1])] (lP 0 0 ([iV op,iV 0,qF,sZ,sZ,eS,qS (sB i) 1 1]) e (fun _ e=>ac e [(0,0,7)] (.agg #[iV op,iV 0,qF,sZ,sZ,eS,qS (sB i) 1 1]) (⟨_,rfl,e.f.1⟩)))
theorem F9 (a:RTm)(nn:Int)(w:World)(h:Hp)(g:G w h):CR 18 #[bE a,iV nn] w h (fun v h1=>∃ b,v=bE ⟨8,nn,false,none,0,0,none,0,0,⟨#[]⟩,sB b,1,1⟩∧SlO 7 bU aN h1 (sB b) [a]):=by
 have e:=sS g;refine go Tryz.func18 [(0,bE a),(1,iV nn)] rfl (av (lA 2 31 (bU a) e (fun k w2 y e=>lA 4 31 ea e (fun p z u e=>aI (lL e [.m 5 1,.o 6 (bE a) 1 0 7] (lR 7 31 1 ([iV a.op,iV a.n,.bool a.neg,qS a.zA a.zn a.zc,qS a.dA a.dn a.dc,.string a.s,qS a.A a.m a.c]) e (fun i j x e=>?_)))))));replace e:=e.aS (SlO.of_flat (sz:=7) (f:=bU) (d:=aN) (b:=i) (o:=0) (l:=([(⟨a.op,a.n,a.neg,a.zA,a.zn,a.zc,a.dA,a.dn,a.dc,a.s,a.A,a.m,a.c⟩:RTm)]:List RTm)) (fun _=>rfl) e.f.1);exact lL e [.v 8 (.agg #[iV 8,iV nn,qF,sZ,sZ,eS,qS (sB i) 1 1])] (lP 0 0 ([iV 8,iV nn,qF,sZ,sZ,eS,qS (sB i) 1 1]) e (fun _ e=>ac e [(0,0,7)] (.agg #[iV 8,iV nn,qF,sZ,sZ,eS,qS (sB i) 1 1]) (⟨_,rfl,e.f.1⟩)))
section
variable {d:Nat}
theorem Fu (b:Bool)(k:Option Addr)(i c:Nat)(a:Option Addr)(j f:Nat){q:Rat}(w:World)(h:Hp)(g:G w h)(hz:RZ h (b,.slice k i c,.slice a j f) q):CR 42 #[.agg #[.bool b,.slice k i c,.slice a j f]] w h (fun v h1=>∃ r,v=bE r∧RmH (d+1) h1 r (.mk 1 0 q ⟨#[]⟩ [])) :=
 (IV b k i c a j f w h g).mono fun e w' ⟨v,h',e1,u,e2⟩=>⟨v,h',e1,u,_,e2,EB (hz.gw u.gr.gw)⟩
theorem mY (op:Int)(a rb:RTm)(t u:Tm)(w:World)(h:Hp)(g:G w h)(x:RmH d h a t)(y:RmH d h rb u):CR 45 #[iV op,bE a,bE rb] w h (fun v h1=>∃ r,v=bE r∧RmH (d+1) h1 r (.mk op 0 0 ⟨#[]⟩ [t,u])) :=
 (Gl op a rb w h g).mono fun e w' ⟨v,h',e1,up,b,e2,c⟩=>⟨v,h',e1,up,_,e2,FN (x.gw up.gr.gw) (y.gw up.gr.gw) c⟩
theorem r8 (op:Int)(a:RTm)(t:Tm)(w:World)(h:Hp)(g:G w h)(x:RmH d h a t):CR 46 #[iV op,bE a] w h (fun v h1=>∃ r,v=bE r∧RmH (d+1) h1 r (.mk op 0 0 ⟨#[]⟩ [t])) :=
 (DK op a w h g).mono fun e w' ⟨v,h',e1,up,b,e2,c⟩=>⟨v,h',e1,up,_,e2,xm (x.gw up.gr.gw) c⟩
theorem qy (a:RTm)(t:Tm)(nn:Int)(w:World)(h:Hp)(g:G w h)(x:RmH d h a t):CR 18 #[bE a,iV nn] w h (fun v h1=>∃ r,v=bE r∧RmH (d+1) h1 r (.mk 8 nn 0 ⟨#[]⟩ [t])) :=
 (F9 a nn w h g).mono fun e w' ⟨v,h',e1,up,b,e2,c⟩=>⟨v,h',e1,up,_,e2,xm (x.gw up.gr.gw) c⟩
end
theorem xT (e:Nat)(A:Option Addr)(l:Nat)(o:List Int)(hl:o.length≤9223372036854775807)(hz:kM o)(dp:Nat)(hdp:dp≤1000)(M:∀ z:Int,z+1=(dp:Nat)→0≤z→∀ at_:Nat,at_≤o.length→∀ (w:World) (h:Hp),G w h→Own w e 68 [.slice A o.length l,nV at_]→h[e]?=some junk→Si A o h→Calls Tryz.prog 19 #[pB e,iV z,.bool false] w (ef e w h (fun v w' h'=>∃ (r:RTm) (t:Tm) (at2:Nat),v=bE r∧at2≤o.length∧Own w' e 68 [.slice A o.length l,nV at2]∧RmH dp h' r t∧GrT dp t)))(at_:Nat)(ha:at_≤o.length)(w:World)(h:Hp)(g:G w h)(ho:Own w e 68 [.slice A o.length l,nV at_])(hj:h[e]?=some junk)(hA:Si A o h):Calls Tryz.prog 19 #[pB e,nV dp,.bool false] w (ef e w h (fun v w' h'=>∃ (r:RTm) (t:Tm) (at2:Nat),v=bE r∧at2≤o.length∧Own w' e 68 [.slice A o.length l,nV at2]∧RmH (dp+1) h' r t∧GrT (dp+1) t)):=by
 have b:UpM [e] w h w h:=UpM.refl g;obtain ⟨wz,s6,a⟩:=SS.at_ g ho hj;replace a:=a.aS hA;refine go Tryz.func19 [(0,pB e),(1,nV dp),(2,qF)] rfl (av (x4 6 31 ea a (fun u w2 h3 u4 c a=>?_)));replace c:=ez b.gr.size c;replace b:=b.trans (u4.m _);refine aI (lL a [.m 10 0] (d6 11 (wN A l o hl hz e at_ oM _ _ a.g (a.own 1) (a.jk 1) a.f.1) ?_));rintro _ w6 h7 u8 ⟨y,k,rfl,v0,pr,s5⟩;replace a:=(a.stepM 1 u8 s5).to [⟨u,31,[iV 0,iV 0,qF,sZ,sZ,eS,sZ]⟩,⟨e,68,[qS A o.length l,nV k]⟩] [];replace b:=b.trans u8;have t5:=pr.1;have t9:=pr.2;refine gy 12 (en (y) 19 oM oM _ _ a.g) ?_;rintro _ _ zr u12 rfl;replace b:=b.trans (u12.m _);replace a:=a.step u12;have lp9:=cH (y) 19 oM;refine lL a [.m 7 12] (ah (aa a [.m 13 2,.m 14 13] (lG 15 ?_)));refine lG 16 ?_;refine lL a [.v 17 qF] (af (cK (cQ (kZ (CG.join (fun Γ w_=>∃ (zq:Bool) (i:Hp),Γ=[(0,pB e),(1,nV dp),(2,qF),(6,pB u),(7,nV (aY (y) 19)),(20,.bool zq)]∧SS wz s6 w_ i [⟨u,31,[iV 0,iV 0,qF,sZ,sZ,eS,sZ]⟩,⟨e,68,[qS A o.length l,nV k]⟩] [] [Si A o]∧(zq=true→¬(1≤dp∧2≤(aY (y) 19)∧(aY (y) 19)<17))∧(zq=false→(1≤dp∧2≤(aY (y) 19)∧(aY (y) 19)<17))∧UpM [e] w h w_ i) ?_ ?_)))))
 ·
  refine kQ (lL a [.m 21 1] ?_);cases zb:(decide ((dp:Int)<(1:Int)))
  ·
   have zu:=oF zb;refine lB 22 zb (lL a [.m 23 22,.m 24 7] ?_);cases zc:(decide (((aY (y) 19:Nat):Int)<(2:Int)))
   ·
    have zv:=oF zc;refine lB 25 zc (lL a [.v 26 qF,.m 27 26,.m 28 7] ?_);cases zd:(decide ((17:Int)≤((aY (y) 19:Nat):Int)))
    ·
     have zw:=oF zd;refine lB 29 zd (lL a [.v 30 qF,.m 20 30] (lD ?_));intro a_ ka;exact ⟨_,⟨false,zr,rfl,a.to _ _,(fun i=>MO i kD),(fun _=>by omega),b⟩,ka.to _ kR⟩
    have zw:=oT zd;refine lB 29 zd (lL a [.v 30 qT,.m 20 30] (lD ?_));intro a_ ka;exact ⟨_,⟨true,zr,rfl,a.to _ _,(fun _=>by omega),(fun i=>MO i kD),b⟩,ka.to _ kR⟩
   have zv:=oT zc;refine lB 25 zc (lL a [.v 26 qT,.m 27 26] (lG 28 ?_));refine lG 29 (lL a [.v 30 qT,.m 20 30] (lD ?_));intro a_ ka;exact ⟨_,⟨true,zr,rfl,a.to _ _,(fun _=>by omega),(fun i=>MO i kD),b⟩,ka.to _ kR⟩
  have zu:=oT zb;refine lB 22 zb (lL a [.m 23 22] (lG 24 ?_));refine lG 25 (lL a [.v 26 qT,.m 27 26] (lG 28 ?_));refine lG 29 (lL a [.v 30 qT,.m 20 30] (lD ?_));intro a_ ka;exact ⟨_,⟨true,zr,rfl,a.to _ _,(fun _=>by omega),(fun i=>MO i kD),b⟩,ka.to _ kR⟩
 rintro _ _ ⟨zq,_,rfl,a,vl,s4,b⟩;cases ze:(zq)
 ·
  try rw[ze] at a
  try rw[ze]
  refine cv (av ?_);have t1:=s4 aM;refine lL a [.m 48 7] ?_;cases zf:(decide (((aY (y) 19:Nat):Int)<(4:Int)))
  ·
   have zx:=oF zf;refine lB 49 zf (lL a [.m 47 49] (af (aa a [.m 62 7] ?_)));cases zg:(decide (((aY (y) 19:Nat):Int)<(5:Int)))
   ·
    have zA:=oF zg;refine lB 63 zg (lL a [.m 61 63] (af (aa a [.m 76 7] ?_)));cases zi:(decide (((aY (y) 19:Nat):Int)<(7:Int)))
    ·
     have zB:=oF zi;refine lB 77 zi (lL a [.m 75 77] (af (aa a [.m 90 7] ?_)));cases zj:(decide (((aY (y) 19:Nat):Int)<(8:Int)))
     ·
      have zD:=oF zj;refine lB 91 zj (lL a [.m 89 91] (af (aa a [.m 99 7] ?_)));cases zk:(decide (((aY (y) 19:Nat):Int)<(9:Int)))
      ·
       have zE:=oF zk;refine lB 100 zk (lL a [.m 98 100] (af (aa a [.m 116 7] ?_)));cases zl:(decide (((aY (y) 19:Nat):Int)<(11:Int)))
       ·
        have zG:=oF zl;refine lB 117 zl (lL a [.m 115 117] (af (aa a [.m 130 7] ?_)));cases zm:(decide (((aY (y) 19:Nat):Int)<(12:Int)))
        ·
         have zH:=oF zm;refine lB 131 zm (lL a [.m 129 131] (af (aa a [.m 139 7] ?_)));cases zn:(decide (((aY (y) 19:Nat):Int)<(13:Int)))
         ·
          have zI:=oF zn;refine lB 140 zn (lL a [.m 138 140] (af (aa a [.m 148 7] ?_)));cases zo:(decide (((aY (y) 19:Nat):Int)<(15:Int)))
          ·
           have zJ:=oF zo;refine lB 149 zo (lL a [.m 147 149] (af (aa a [.m 157 7] ?_)));cases zp:(decide (((aY (y) 19:Nat):Int)<(16:Int)))
           ·
            have zK:=oF zp;refine lB 158 zp (lL a [.m 156 158] (af (cK (aa a [.m 170 0,.m 171 1] (lI 172 ((dp:Nat)-1) ?_)))));refine lL a [.m 173 2] (d6 174 (M ((dp:Nat)-1) oM oM k oM _ _ a.g (a.own 1) (a.jk 1) a.f.1) ?_);rintro _ _ _ u44 ⟨mx,b9,br,rfl,tv,q8,ss,p3⟩;replace a:=(a.stepM 1 u44 q8).to [⟨u,31,[iV 0,iV 0,qF,sZ,sZ,eS,sZ]⟩,⟨e,68,[qS A o.length l,nV br]⟩] [];replace b:=b.trans u44;replace a:=(a.add (K:=fun i=>RmH dp i mx b9) ss);refine lL a [.m 175 0,.m 176 1] (lI 177 ((dp:Nat)-1) ?_);refine lL a [.m 178 2] (d6 179 (M ((dp:Nat)-1) oM oM br oM _ _ a.g (a.own 1) (a.jk 1) a.f.2.1) ?_);rintro _ _ _ u48 ⟨m3,cm,b3,rfl,ql,s0,r2,qq⟩;replace a:=(a.stepM 1 u48 s0).to [⟨u,31,[iV 0,iV 0,qF,sZ,sZ,eS,sZ]⟩,⟨e,68,[qS A o.length l,nV b3]⟩] [];replace b:=b.trans u48;replace a:=(a.add (K:=fun i=>RmH dp i m3 cm) r2);refine gy 180 (mY 13 mx m3 b9 cm _ _ a.g a.f.2.1 a.f.1) ?_;rintro _ _ _ u52 ⟨r49,rfl,p2⟩;replace b:=b.trans (u52.m _);replace a:=a.step u52;replace a:=(a.add (K:=fun i=>RmH (dp+1) i r49 (.mk 13 0 0 ⟨#[]⟩ [b9,cm])) p2);refine jv 0 0 (bU r49) a (fun _ p a=>?_);replace b:=b.put2 p c g a.g;refine lN (bH [(6,pB u)] ?_);exact kX (a.retM b [(0,0,7)] (bE r49) ⟨_,_,b3,rfl,ql,a.own 1,a.f.1,p3.two qq rfl⟩)
           have zK:=oT zp;refine lB 158 zp (lL a [.m 156 158] (ak (aa a [.m 159 0,.m 160 1] (lI 161 ((dp:Nat)-1) ?_))));refine lL a [.m 162 2] (d6 163 (M ((dp:Nat)-1) oM oM k oM _ _ a.g (a.own 1) (a.jk 1) a.f.1) ?_);rintro _ _ _ u57 ⟨k1,cz,bl,rfl,t4,rk,rs,rc⟩;replace a:=(a.stepM 1 u57 rk).to [⟨u,31,[iV 0,iV 0,qF,sZ,sZ,eS,sZ]⟩,⟨e,68,[qS A o.length l,nV bl]⟩] [];replace b:=b.trans u57;replace a:=(a.add (K:=fun i=>RmH dp i k1 cz) rs);refine lL a [.m 164 0,.m 165 1] (lI 166 ((dp:Nat)-1) ?_);refine lL a [.m 167 2] (d6 168 (M ((dp:Nat)-1) oM oM bl oM _ _ a.g (a.own 1) (a.jk 1) a.f.2.1) ?_);rintro _ _ _ u61 ⟨m1,c8,bt,rfl,r0,rf,p4,st⟩;replace a:=(a.stepM 1 u61 rf).to [⟨u,31,[iV 0,iV 0,qF,sZ,sZ,eS,sZ]⟩,⟨e,68,[qS A o.length l,nV bt]⟩] [];replace b:=b.trans u61;replace a:=(a.add (K:=fun i=>RmH dp i m1 c8) p4);refine gy 169 (mY 12 k1 m1 cz c8 _ _ a.g a.f.2.1 a.f.1) ?_;rintro _ _ _ u65 ⟨r62,rfl,sy⟩;replace b:=b.trans (u65.m _);replace a:=a.step u65;replace a:=(a.add (K:=fun i=>RmH (dp+1) i r62 (.mk 12 0 0 ⟨#[]⟩ [cz,c8])) sy);refine jv 0 0 (bU r62) a (fun _ p a=>?_);replace b:=b.put2 p c g a.g;refine lN (bH [(0,pB e),(1,nV dp),(2,qF),(6,pB u)] ?_);exact kX (a.retM b [(0,0,7)] (bE r62) ⟨_,_,bt,rfl,r0,a.own 1,a.f.1,rc.two st rfl⟩)
          have zJ:=oT zo;refine lB 149 zo (lL a [.m 147 149] (ak (aa a [.m 150 0,.m 151 1] (lI 152 ((dp:Nat)-1) ?_))));refine lL a [.m 153 2] (d6 154 (M ((dp:Nat)-1) oM oM k oM _ _ a.g (a.own 1) (a.jk 1) a.f.1) ?_);rintro _ _ _ u70 ⟨pc,b6,b0,rfl,r3,qb,sp,sc⟩;replace a:=(a.stepM 1 u70 qb).to [⟨u,31,[iV 0,iV 0,qF,sZ,sZ,eS,sZ]⟩,⟨e,68,[qS A o.length l,nV b0]⟩] [];replace b:=b.trans u70;replace a:=(a.add (K:=fun i=>RmH dp i pc b6) sp);refine gy 155 (r8 11 pc b6 _ _ a.g a.f.1) ?_;rintro _ _ _ u74 ⟨r71,rfl,s1⟩;replace b:=b.trans (u74.m _);replace a:=a.step u74;replace a:=(a.add (K:=fun i=>RmH (dp+1) i r71 (.mk 11 0 0 ⟨#[]⟩ [b6])) s1);refine jv 0 0 (bU r71) a (fun _ p a=>?_);replace b:=b.put2 p c g a.g;exact lN (kX (a.retM b [(0,0,7)] (bE r71) ⟨_,_,b0,rfl,r3,a.own 1,a.f.1,sc.one rfl (fun _=>rfl) kD kD⟩))
         have zI:=oT zn;refine lB 140 zn (lL a [.m 138 140] (ak (aa a [.m 141 0,.m 142 1] (lI 143 ((dp:Nat)-1) ?_))));refine lL a [.m 144 2] (d6 145 (M ((dp:Nat)-1) oM oM k oM _ _ a.g (a.own 1) (a.jk 1) a.f.1) ?_);rintro _ _ _ u79 ⟨kt,dx,bm,rfl,q4,r4,q3,sr⟩;replace a:=(a.stepM 1 u79 r4).to [⟨u,31,[iV 0,iV 0,qF,sZ,sZ,eS,sZ]⟩,⟨e,68,[qS A o.length l,nV bm]⟩] [];replace b:=b.trans u79;replace a:=(a.add (K:=fun i=>RmH dp i kt dx) q3);refine gy 146 (r8 10 kt dx _ _ a.g a.f.1) ?_;rintro _ _ _ u83 ⟨r80,rfl,rl⟩;replace b:=b.trans (u83.m _);replace a:=a.step u83;replace a:=(a.add (K:=fun i=>RmH (dp+1) i r80 (.mk 10 0 0 ⟨#[]⟩ [dx])) rl);refine jv 0 0 (bU r80) a (fun _ p a=>?_);replace b:=b.put2 p c g a.g;exact lN (kX (a.retM b [(0,0,7)] (bE r80) ⟨_,_,bm,rfl,q4,a.own 1,a.f.1,sr.one rfl (fun _=>rfl) kD kD⟩))
        have zH:=oT zm;refine lB 131 zm (lL a [.m 129 131] (ak (aa a [.m 132 0,.m 133 1] (lI 134 ((dp:Nat)-1) ?_))));refine lL a [.m 135 2] (d6 136 (M ((dp:Nat)-1) oM oM k oM _ _ a.g (a.own 1) (a.jk 1) a.f.1) ?_);rintro _ _ _ u88 ⟨k3,cq,bn,rfl,q0,p0,p1,qs⟩;replace a:=(a.stepM 1 u88 p0).to [⟨u,31,[iV 0,iV 0,qF,sZ,sZ,eS,sZ]⟩,⟨e,68,[qS A o.length l,nV bn]⟩] [];replace b:=b.trans u88;replace a:=(a.add (K:=fun i=>RmH dp i k3 cq) p1);refine gy 137 (r8 9 k3 cq _ _ a.g a.f.1) ?_;rintro _ _ _ u92 ⟨r89,rfl,r9⟩;replace b:=b.trans (u92.m _);replace a:=a.step u92;replace a:=(a.add (K:=fun i=>RmH (dp+1) i r89 (.mk 9 0 0 ⟨#[]⟩ [cq])) r9);refine jv 0 0 (bU r89) a (fun _ p a=>?_);replace b:=b.put2 p c g a.g;exact lN (kX (a.retM b [(0,0,7)] (bE r89) ⟨_,_,bn,rfl,q0,a.own 1,a.f.1,qs.one rfl (fun _=>rfl) kD kD⟩))
       have zG:=oT zl;refine lB 117 zl (lL a [.m 115 117] (ak (aa a [.m 118 0,.m 119 1] (lI 120 ((dp:Nat)-1) ?_))));refine lL a [.m 121 2] (d6 122 (M ((dp:Nat)-1) oM oM k oM _ _ a.g (a.own 1) (a.jk 1) a.f.1) ?_);rintro _ _ _ u97 ⟨mp,c6,bq,rfl,tt,sw,s2,q1⟩;replace a:=(a.stepM 1 u97 sw).to [⟨u,31,[iV 0,iV 0,qF,sZ,sZ,eS,sZ]⟩,⟨e,68,[qS A o.length l,nV bq]⟩] [];replace b:=b.trans u97;replace a:=(a.add (K:=fun i=>RmH dp i mp c6) s2);refine lL a [.m 123 0,.m 124 1] (lI 125 ((dp:Nat)-1) ?_);refine lL a [.m 126 2] (d6 127 (M ((dp:Nat)-1) oM oM bq oM _ _ a.g (a.own 1) (a.jk 1) a.f.2.1) ?_);rintro _ _ _ lx ⟨n2,ds,bd,rfl,rp,rh,r1,q2⟩;replace a:=(a.stepM 1 lx rh).to [⟨u,31,[iV 0,iV 0,qF,sZ,sZ,eS,sZ]⟩,⟨e,68,[qS A o.length l,nV bd]⟩] [];replace b:=b.trans lx;replace a:=(a.add (K:=fun i=>RmH dp i n2 ds) r1);refine gy 128 (mY 6 mp n2 c6 ds _ _ a.g a.f.2.1 a.f.1) ?_;rintro _ _ _ ls ⟨db,rfl,kq⟩;replace b:=b.trans (ls.m _);replace a:=a.step ls;replace a:=(a.add (K:=fun i=>RmH (dp+1) i db (.mk 6 0 0 ⟨#[]⟩ [c6,ds])) kq);refine jv 0 0 (bU db) a (fun _ p a=>?_);replace b:=b.put2 p c g a.g;exact lN (kX (a.retM b [(0,0,7)] (bE db) ⟨_,_,bd,rfl,rp,a.own 1,a.f.1,q1.two q2 rfl⟩))
      have zE:=oT zk;refine lB 100 zk (lL a [.m 98 100] (ak (aa a [.m 101 0] (d6 102 (wN A l o hl hz e k oM _ _ a.g (a.own 1) (a.jk 1) a.f.1) ?_))));rintro _ _ _ m5 ⟨I,Q,rfl,tk,bk,h2⟩;replace a:=(a.stepM 1 m5 h2).to [⟨u,31,[iV 0,iV 0,qF,sZ,sZ,eS,sZ]⟩,⟨e,68,[qS A o.length l,nV Q]⟩] [];replace b:=b.trans m5;have s9:=bk.1;have s3:=bk.2;refine gy 103 (en (I) 6 oM oM _ _ a.g) ?_;rintro _ _ _ l1 rfl;replace b:=b.trans (l1.m _);replace a:=a.step l1;have t3:=cH (I) 6 oM;refine lI 104 ((aY (I) 6:Nat)-2) (lL a [.m 9 104] (ah (aa a [.m 105 2] (af (cK (aa a [.m 108 0,.m 109 1] (lI 110 ((dp:Nat)-1) ?_)))))));refine lL a [.m 111 2] (d6 112 (M ((dp:Nat)-1) oM oM Q oM _ _ a.g (a.own 1) (a.jk 1) a.f.1) ?_);rintro _ _ _ k5 ⟨b5,X,B,rfl,fm,h4,hc,fn⟩;replace a:=(a.stepM 1 k5 h4).to [⟨u,31,[iV 0,iV 0,qF,sZ,sZ,eS,sZ]⟩,⟨e,68,[qS A o.length l,nV B]⟩] [];replace b:=b.trans k5;replace a:=(a.add (K:=fun i=>RmH dp i b5 X) hc);refine lL a [.m 113 9] (gy 114 (qy b5 X ((aY (I) 6:Nat)-2) _ _ a.g a.f.1) ?_);rintro _ _ _ pt ⟨c5,rfl,hq⟩;replace b:=b.trans (pt.m _);replace a:=a.step pt;replace a:=(a.add (K:=fun i=>RmH (dp+1) i c5 (.mk 8 ((aY (I) 6:Nat)-2) 0 ⟨#[]⟩ [X])) hq);refine jv 0 0 (bU c5) a (fun _ p a=>?_);replace b:=b.put2 p c g a.g;exact lN (kX (a.retM b [(0,0,7)] (bE c5) ⟨_,_,B,rfl,fm,a.own 1,a.f.1,fn.one rfl (fun i=>MO rfl i) oM oM⟩))
     have zD:=oT zj;refine lB 91 zj (lL a [.m 89 91] (ak (aa a [.m 92 0,.m 93 1] (lI 94 ((dp:Nat)-1) ?_))));refine lL a [.m 95 2] (d6 96 (M ((dp:Nat)-1) oM oM k oM _ _ a.g (a.own 1) (a.jk 1) a.f.1) ?_);rintro _ _ _ pk ⟨cc,Y,C,rfl,hk,hn,h5,ht⟩;replace a:=(a.stepM 1 pk hn).to [⟨u,31,[iV 0,iV 0,qF,sZ,sZ,eS,sZ]⟩,⟨e,68,[qS A o.length l,nV C]⟩] [];replace b:=b.trans pk;replace a:=(a.add (K:=fun i=>RmH dp i cc Y) h5);refine gy 97 (r8 7 cc Y _ _ a.g a.f.1) ?_;rintro _ _ _ nd ⟨b4,rfl,fz⟩;replace b:=b.trans (nd.m _);replace a:=a.step nd;replace a:=(a.add (K:=fun i=>RmH (dp+1) i b4 (.mk 7 0 0 ⟨#[]⟩ [Y])) fz);refine jv 0 0 (bU b4) a (fun _ p a=>?_);replace b:=b.put2 p c g a.g;exact lN (kX (a.retM b [(0,0,7)] (bE b4) ⟨_,_,C,rfl,hk,a.own 1,a.f.1,ht.one rfl (fun _=>rfl) kD kD⟩))
    have zB:=oT zi;refine lB 77 zi (lL a [.m 75 77] (ak (aa a [.m 78 0,.m 79 1] (lI 80 ((dp:Nat)-1) ?_))));refine lL a [.m 81 2] (d6 82 (M ((dp:Nat)-1) oM oM k oM _ _ a.g (a.own 1) (a.jk 1) a.f.1) ?_);rintro _ _ _ m4 ⟨ch,Z,H,rfl,tn,d2,h6,d4⟩;replace a:=(a.stepM 1 m4 d2).to [⟨u,31,[iV 0,iV 0,qF,sZ,sZ,eS,sZ]⟩,⟨e,68,[qS A o.length l,nV H]⟩] [];replace b:=b.trans m4;replace a:=(a.add (K:=fun i=>RmH dp i ch Z) h6);refine lL a [.m 83 0,.m 84 1] (lI 85 ((dp:Nat)-1) ?_);refine lL a [.m 86 2] (d6 87 (M ((dp:Nat)-1) oM oM H oM _ _ a.g (a.own 1) (a.jk 1) a.f.2.1) ?_);rintro _ _ _ pv ⟨d0,S,J,rfl,f3,h9,f1,j1⟩;replace a:=(a.stepM 1 pv h9).to [⟨u,31,[iV 0,iV 0,qF,sZ,sZ,eS,sZ]⟩,⟨e,68,[qS A o.length l,nV J]⟩] [];replace b:=b.trans pv;replace a:=(a.add (K:=fun i=>RmH dp i d0 S) f1);refine gy 88 (mY 5 ch d0 Z S _ _ a.g a.f.2.1 a.f.1) ?_;rintro _ _ _ ly ⟨c4,rfl,ft⟩;replace b:=b.trans (ly.m _);replace a:=a.step ly;replace a:=(a.add (K:=fun i=>RmH (dp+1) i c4 (.mk 5 0 0 ⟨#[]⟩ [Z,S])) ft);refine jv 0 0 (bU c4) a (fun _ p a=>?_);replace b:=b.put2 p c g a.g;exact lN (kX (a.retM b [(0,0,7)] (bE c4) ⟨_,_,J,rfl,f3,a.own 1,a.f.1,d4.two j1 rfl⟩))
   have zA:=oT zg;refine lB 63 zg (lL a [.m 61 63] (ak (aa a [.m 64 0,.m 65 1] (lI 66 ((dp:Nat)-1) ?_))));refine lL a [.m 67 2] (d6 68 (M ((dp:Nat)-1) oM oM k oM _ _ a.g (a.own 1) (a.jk 1) a.f.1) ?_);rintro _ _ _ mz ⟨b7,W,O,rfl,ts,fb,hw,j8⟩;replace a:=(a.stepM 1 mz fb).to [⟨u,31,[iV 0,iV 0,qF,sZ,sZ,eS,sZ]⟩,⟨e,68,[qS A o.length l,nV O]⟩] [];replace b:=b.trans mz;replace a:=(a.add (K:=fun i=>RmH dp i b7 W) hw);refine lL a [.m 69 0,.m 70 1] (lI 71 ((dp:Nat)-1) ?_);refine lL a [.m 72 2] (d6 73 (M ((dp:Nat)-1) oM oM O oM _ _ a.g (a.own 1) (a.jk 1) a.f.2.1) ?_);rintro _ _ _ n1 ⟨c3,V,L,rfl,d1,j4,hp,hy⟩;replace a:=(a.stepM 1 n1 j4).to [⟨u,31,[iV 0,iV 0,qF,sZ,sZ,eS,sZ]⟩,⟨e,68,[qS A o.length l,nV L]⟩] [];replace b:=b.trans n1;replace a:=(a.add (K:=fun i=>RmH dp i c3 V) hp);refine gy 74 (mY 4 b7 c3 W V _ _ a.g a.f.2.1 a.f.1) ?_;rintro _ _ _ kx ⟨cx,rfl,f0⟩;replace b:=b.trans (kx.m _);replace a:=a.step kx;replace a:=(a.add (K:=fun i=>RmH (dp+1) i cx (.mk 4 0 0 ⟨#[]⟩ [W,V])) f0);refine jv 0 0 (bU cx) a (fun _ p a=>?_);replace b:=b.put2 p c g a.g;exact lN (kX (a.retM b [(0,0,7)] (bE cx) ⟨_,_,L,rfl,d1,a.own 1,a.f.1,j8.two hy rfl⟩))
  have zx:=oT zf;refine lB 49 zf (lL a [.m 47 49] (ak (aa a [.m 50 0,.m 51 1] (lI 52 ((dp:Nat)-1) ?_))));refine lL a [.m 53 2] (d6 54 (M ((dp:Nat)-1) oM oM k oM _ _ a.g (a.own 1) (a.jk 1) a.f.1) ?_);rintro _ _ _ ns ⟨cy,bb,F,rfl,tb,h8,hd,hm⟩;replace a:=(a.stepM 1 ns h8).to [⟨u,31,[iV 0,iV 0,qF,sZ,sZ,eS,sZ]⟩,⟨e,68,[qS A o.length l,nV F]⟩] [];replace b:=b.trans ns;replace a:=(a.add (K:=fun i=>RmH dp i cy bb) hd);refine lL a [.m 55 0,.m 56 1] (lI 57 ((dp:Nat)-1) ?_);refine lL a [.m 58 2] (d6 59 (M ((dp:Nat)-1) oM oM F oM _ _ a.g (a.own 1) (a.jk 1) a.f.2.1) ?_);rintro _ _ _ mv ⟨cr,U,D,rfl,d3,fy,hh,hb⟩;replace a:=(a.stepM 1 mv fy).to [⟨u,31,[iV 0,iV 0,qF,sZ,sZ,eS,sZ]⟩,⟨e,68,[qS A o.length l,nV D]⟩] [];replace b:=b.trans mv;replace a:=(a.add (K:=fun i=>RmH dp i cr U) hh);refine gy 60 (mY 3 cy cr bb U _ _ a.g a.f.2.1 a.f.1) ?_;rintro _ _ _ px ⟨dc,rfl,fp⟩;replace b:=b.trans (px.m _);replace a:=a.step px;replace a:=(a.add (K:=fun i=>RmH (dp+1) i dc (.mk 3 0 0 ⟨#[]⟩ [bb,U])) fp);refine jv 0 0 (bU dc) a (fun _ p a=>?_);replace b:=b.put2 p c g a.g;exact lN (kX (a.retM b [(0,0,7)] (bE dc) ⟨_,_,D,rfl,d3,a.own 1,a.f.1,hm.two hb rfl⟩))
 try rw[ze] at a
 try rw[ze]
 refine ce (aa a [.m 31 0] (d6 32 (wN A l o hl hz e k oM _ _ a.g (a.own 1) (a.jk 1) a.f.1) ?_));rintro _ _ _ pb ⟨j,x,rfl,b2,bw,hx⟩;replace a:=(a.stepM 1 pb hx).to [⟨u,31,[iV 0,iV 0,qF,sZ,sZ,eS,sZ]⟩,⟨e,68,[qS A o.length l,nV x]⟩] [];replace b:=b.trans pb;have c7:=bw.1;have dn:=bw.2;have v1:=rX j 3 oM c7 dn;refine lL a [.m 8 32] (ah (aa a [.m 33 8] (gy 34 (en (j) 3 oM oM _ _ a.g) ?_)));rintro _ _ _ my rfl;replace b:=b.trans (my.m _);replace a:=a.step my;have t0:=cH (j) 3 oM;cases za:(((aY (j) 3:Nat):Int) == (0:Int))
 ·
  have zt:=ae za;refine lB 35 za (af (cK (av (gy 40 (pU _ _ a.g) ?_))));rintro _ _ _ n0 ⟨bN,rfl,hN0⟩;replace b:=b.trans (n0.m _);replace a:=a.step n0;replace a:=a.aS hN0;have vb:ek.length=3:=rfl;refine lL a [.m 41 8] (lV 42 (iV ((j).tdiv 3)) ?_ (hr:=rS (((j).tdiv 3)) kR (iY oM oM)));refine gy 43 (en ((j).tdiv 3) 3 oM oM _ _ a.g) ?_;rintro _ _ _ l4 rfl;replace b:=b.trans (l4.m _);replace a:=a.step l4;have t2:=cH ((j).tdiv 3) 3 oM;refine lX 44 (sB bN) 3 3 1 (aY ((j).tdiv 3) 3:Nat) (aY ((j).tdiv 3) 3:Nat) ((a.f.1).ok oM) (lH 45 (.string (ek.getD (aY ((j).tdiv 3) 3:Nat) ⟨#[]⟩)) a ((a.f.1).el (aY ((j).tdiv 3) 3:Nat) oM) (lL a [.v 46 (.agg #[iV 2,iV 0,qF,sZ,sZ,.string (ek.getD (aY ((j).tdiv 3) 3:Nat) ⟨#[]⟩),sZ])] (jv 0 0 ([iV 2,iV 0,qF,sZ,sZ,.string (ek.getD (aY ((j).tdiv 3) 3:Nat) ⟨#[]⟩),sZ]) a (fun _ p a=>?_))));replace b:=b.put2 p c g a.g;exact lN (kX (a.retM b [(0,0,7)] (.agg #[iV 2,iV 0,qF,sZ,sZ,.string (ek.getD (aY ((j).tdiv 3) 3:Nat) ⟨#[]⟩),sZ]) ⟨⟨2,0,false,none,0,0,none,0,0,ek.getD (aY ((j).tdiv 3) 3:Nat) ⟨#[]⟩,none,0,0⟩,_,x,rfl,b2,a.own 1,AM,GrT.name (DZ oM)⟩))
 have zt:=ML za;refine lB 35 za (ak (aa a [.m 36 8] (lV 37 (iV ((j).tdiv 3)) ?_ (hr:=rS (((j).tdiv 3)) kR (iY oM oM)))));refine gy 38 (hR ((j).tdiv 3) oM oM _ _ a.g) ?_;rintro _ _ _ pw ⟨zQ,zR,zS,zU,rfl,zL,zM,zN,zP⟩;replace b:=b.trans (pw.m _);replace a:=a.step pw;replace a:=a.aP zN zP;refine gy 39 (Fu (d:=dp) (ai (dm ((j).tdiv 3)).num) zQ ((lim (ab (dm ((j).tdiv 3)).num)).length) zR zS ((lim (dm ((j).tdiv 3)).den).length) zU _ _ a.g ⟨true,⟨_,_,_,_,rfl,zL,zM,a.f.2.1,a.f.1⟩,fun i=>(by cases i)⟩) ?_;rintro _ _ _ k4 ⟨df,rfl,f2⟩;replace b:=b.trans (k4.m _);replace a:=a.step k4;replace a:=(a.add (K:=fun i=>RmH (dp+1) i df (.mk 1 0 (dm ((j).tdiv 3)) ⟨#[]⟩ [])) f2);refine jv 0 0 (bU df) a (fun _ p a=>?_);replace b:=b.put2 p c g a.g;exact lN (kX (a.retM b [(0,0,7)] (bE df) ⟨_,_,x,rfl,b2,a.own 1,a.f.1,GrT.num (LQ.hand _)⟩))
end Go.Proofs.YtnflfcbfifhpaaaGreatDoor
