/- The card of the law 'abaculuslaw26.TermSigns' holds. No condition of ours. -/
import Derived.Test.YtffiihfdjnmhpaaGreatDoorQn0
import Derived.Test.YtffiihfdjnmhpaaGreatDoorQn1
import Derived.Test.YtffiihfdjnmhpaaGreatDoorQn2
import Derived.Test.YtffiihfdjnmhpaaGreatDoorQn3
import Derived.Test.YtffiihfdjnmhpaaGreatDoorQn4
import Derived.Test.YtffiihfdjnmhpaaGreatDoorQn5
import Derived.Test.YtffiihfdjnmhpaaGreatDoorQn6
import Derived.Test.YtffiihfdjnmhpaaGreatDoorPcSg
import Derived.Lib.LaidTab
import Derived.FnData
import Derived.MakeChecks
import Derived.Stop.LaidErr
import Derived.Lay
import Derived.Test.YtffiihfdjnmhpaaGreatDoorCards
import Derived.Test.YtffiihfdjnmhpaaGreatDoorTie
import Derived.SevenTiedAt
import Derived.LaidMore
import Derived.Stop.Joined
import Derived.Test.YtffiihfdjnmhpaaGreatDoorRows
import Derived.WalkKit
import Derived.ProofKit
import Derived.OpenShut
import Derived.ShutString
import Derived.ChangeOld
import Derived.Below
namespace Go.Proofs.YtffiihfdjnmhpaaGreatDoor
open Go.RowKit

end Go.Proofs.YtffiihfdjnmhpaaGreatDoor
namespace Go.Proofs.YtffiihfdjnmhpaaGreatDoor.termSigns
open Go.ChangeShapes Go.WideShapes Go.ChangeAt Go.RowKit
open Go.ChangeMaps (open_string shut_string)
set_option linter.unusedVariables false

theorem own:ownKnob Tryz.prog.godebug=none:=by kernel_rfl
theorem laidOut:laidOutB Tryz.prog=true:=by kernel_rfl

/-- WHAT THE WALK IS TOLD OF A SLICE OF INTEGERS THAT CAME IN: it is nil;or it leads to a row of 'cap' cells,the numbers 'zs' (the first 'len' are its elements,the rest its spare room),each fitting its kind. -/
def IsRow (k:IntKind) (w:World) (a:Option Addr) (len cap:Nat) (zs:List Int):Prop :=
  (a=none/\len=0/\cap=0/\zs=[]) \/
  ∃ x,a=some x/\len<=cap/\cap<=maxLen/\zs.length=cap/\(∀ i,i<zs.length->w.cell? (x.add i)=some (.int k (zs.getD i 0)))/\∀ n∈zs,(Lit.int k n).wf=true

theorem isl {w:World} {a:Option Addr} {len cap:Nat} {zs:List Int} (r:IsRow .i64 w a len cap zs):∃ l:List Int,l.length=len/\l.length<=9223372036854775807/\FT l/\SlO 1 Bo 0 w.heap a l:=by
  rcases r with ⟨rfl,rfl,rfl,rfl⟩|⟨x,rfl,h1,h2,h3,h4,h5⟩
  . exact ⟨[],rfl,by simp,fun k=>by simp,SlO.nil⟩
  . have hm : maxLen<=9223372036854775807:=by decide
    have hl:(zs.take len).length=len:=by simp;omega
    have hg:∀ k,k<len->(zs.take len).getD k 0=zs.getD k 0:=fun k hk=>by
      rw[List.getD_eq_getElem?_getD,List.getElem?_take_of_lt hk,<-List.getD_eq_getElem?_getD]
    refine ⟨zs.take len,hl,by omega,fun k=>?_,fun h0=>?_,fun k hk=>?_⟩
    . rcases Nat.lt_or_ge k len with hk|hk
      . have h6:=h5 _ (List.mem_of_mem_take (vU (d:=0) (hl.symm▸hk)))
        have e1:IntKind.min .i64 = -9223372036854775808:=by decide
        have e2:IntKind.max .i64=9223372036854775807:=by decide
        simp only[Lit.wf,e1,e2,Bool.and_eq_true,decide_eq_true_eq] at h6
        exact h6
      . rw[tp (by omega)];omega
    . have h6:=h4 0 (by omega)
      unfold World.cell? Addr.add at h6
      simp only[if_pos] at h6
      obtain ⟨b,o,sp⟩:=x
      cases sp with
      | none=>rfl
      | some q=>exfalso;revert h6;simp;split<;>simp
    . rw[hl] at hk
      rw[hg k hk]
      intro i v hv
      have h6:=h4 k (by omega)
      cases i with
      | succ i=>simp[Bo] at hv
      | zero =>
        simp[Bo] at hv
        subst hv
        unfold ee
        show (match w.heap[x.block]? with|some (.cells c _ _)=>c[x.off+k*1+0]?|_=>none)=_
        unfold World.cell? Addr.add at h6
        by_cases e:k=0
        . subst e
          simp only[if_pos] at h6
          split at h6
          . rename_i c _ _ hc
            split at h6
            . cases h6
            . rw[hc];simpa using h6
          . cases h6
        . rw[if_neg e] at h6
          split at h6
          . rename_i c _ _ hc
            rw[hc];simpa using h6
          . cases h6


abbrev laid1 : List (String × DataW Unit) := [("math/bits.deBruijn32tab", Rows.laid_math_bits_deBruijn32tab), ("math/bits.deBruijn64tab", Rows.laid_math_bits_deBruijn64tab), ("internal/strconv.uint64pow10", Rows.laid_internal_strconv_uint64pow10), ("unicode/utf8.acceptRanges", Rows.laid_unicode_utf8_acceptRanges), ("unicode/utf8.first", Rows.laid_unicode_utf8_first)]
theorem tabP_of {w:World} (hL:laidMet Tryz.prog laid1 w):Hi w.heap:=by
  have hg : Tryz.prog.globalNamed "internal/strconv.uint64pow10" = some 3 := by kernel_rfl
  have hT : Lib.TabIs Tryz.prog w "internal/strconv.uint64pow10" .u64 Lib.pow10Tab :=
    Lib.tabIs_of_head (t:=209) (e:=24) (n:=20) hg (by kernel_rfl) Tryz.underlying209 Tryz.underlying24 (by kernel_rfl) (by kernel_rfl) (laidMet.tail (laidMet.tail hL))
  unfold Lib.TabIs World.var? at hT
  rw[hg] at hT
  rw[Option.bind_some] at hT
  cases hw:w.heap[3]? with
  | none=>rw[hw] at hT;cases hT
  | some o =>
    rw[hw] at hT
    cases o with
    | cells cs t g=>have e:=Option.some.inj hT;exact ⟨t,g,by rw[hw,e]⟩
    | _=>cases hT
theorem tab_of {w:World} (hL:laidMetH Tryz.prog laid1 w):Tab w.heap:=by
  rw[MakeChecks.laidMetH_plain _ _ _ (by kernel_rfl)] at hL
  have hg : Tryz.prog.globalNamed "math/bits.deBruijn64tab" = some 5 := by kernel_rfl
  have hT : Lib.TabIs Tryz.prog w "math/bits.deBruijn64tab" .u8 (Lib.deBruijn64tab.map fun k => ((k : Nat) : Int)) :=
    Lib.tabIs_of_head (t:=253) (e:=5) (n:=64) hg (by kernel_rfl) Tryz.underlying253 Tryz.underlying5 (by kernel_rfl) (by kernel_rfl) (laidMet.tail hL)
  refine ⟨?_,tabP_of hL⟩
  intro i v hv
  have hc:=World.var?_cell hg hT i
  have e:ee w.heap 5 (0+i)=w.cell? ⟨5,i,none⟩:=by
    unfold ee World.cell?;rw[Nat.zero_add]
    cases w.heap[5]? with
    | none=>rfl
    | some o=>cases o<;>rfl
  rw[e,hc,List.map_map]
  simpa using hv
theorem walk (a0:Option Addr) (len0 cap0:Nat) (z0:List Int) (a1:Int) (w:World) (w0:IsRow .i64 w a0 len0 cap0 z0) (w1:(Lit.int .i64 a1).wf=true) (hL:laidMetH Tryz.prog laid1 w) :
    Calls Tryz.prog 3 #[.slice a0 len0 cap0,.int .i64 a1] w fun e w'=>e=.returned (.bool true)/\Below w.heap.size w w':=by
  obtain ⟨l0,rfl,b0,i0,s0⟩:=isl w0
  have r1 : -9223372036854775808<=a1/\a1<=9223372036854775807:=by
    have e1:IntKind.min .i64 = -9223372036854775808:=by decide
    have e2:IntKind.max .i64=9223372036854775807:=by decide
    simpa only[Lit.wf,e1,e2,Bool.and_eq_true,decide_eq_true_eq] using w1
  refine (rC a0 cap0 l0 a1 b0 i0 w w.heap ⟨rfl,fun _=>.inl rfl⟩ s0 (tab_of hL)).mono ?_
  rintro e w' ⟨v,h',rfl,u,rfl⟩
  exact ⟨rfl,u.ext⟩

/-! ### THE ROW's STEP -/
theorem door_met (os:Os) (args:Array Value):laidMetH Tryz.prog laid1 ((World.laidAll Tryz.prog os laid1).forCall (fun _ _=>0) ⟨#[],args,[]⟩).memory :=
  have e:laid1.filter (fun x=>x.2.handleName?.isNone)=laid1:=by kernel_rfl
  laidMetH_of_parts3 (fuel:=8) (by rw[e];exact laidMet_laidAll args (by kernel_rfl) (by kernel_rfl)) (by kernel_rfl) (by kernel_rfl)
set_option maxRecDepth 100000 in
theorem lifted (os:Os) (started:os.Started) (H:Type) (enc:TypeId × Value->H) :
    ReturnsInHanded {} Tryz.checked os 3 .any (fun w args=>(Rows.termSignsSpec.pre enc Tryz.prog Tryz.f3 [] false w args/\laidMetH Tryz.prog laid1 w)/\sizedMet enc Tryz.prog Tryz.f3 (OpenSpec.ofChange Rows.termSignsSpec) false w args) (Rows.termSignsSpec.post enc Tryz.prog Tryz.f3 false true false false):=by
  refine returnsInHanded_of_change_and (C:=Tryz.checked) (X:=fun w _=>laidMetH Tryz.prog laid1 w) (fun _ _ _ hh h=>h.of_heap hh) own started (by kernel_rfl) Tryz.func3
    (ChangeSpec.witness_shaped (enc:=enc) (C:=Tryz.checked) (os:=os) (X:=fun w _=>laidMetH Tryz.prog laid1 w) false (World.laidAll Tryz.prog os laid1) #[.slice none 0 0,.int .i64 0] 8 (World.laidAll_os _ _ _) (World.shaped_of_ZipB (by kernel_rfl) (by kernel_rfl)) (by kernel_rfl) (by kernel_rfl) (by kernel_rfl) (door_met os _)) ?_
  intro W base args ds gs before hval0 hW _ _ hL _
  have hval:∀ (j:Nat) t v,Tryz.f3.params[j]?=some t->args[j]?=some v->Value.okWide Tryz.prog W .any base t v:=hval0
  have hW':=hW
  obtain ⟨p,q,hA0,hV,rfl,hfz,hnd⟩:=hW
  have hA:DataW.TrodAll enc Tryz.prog W 0 (fun _=>true) true Tryz.f3.params.toList args.toList ds p:=hA0
  rw[Tryz.params3] at hA hval
  obtain ⟨v0,vs0,d0,ds0,p0,q0,hargs,rfl,rfl,h0,r0⟩:=trodAll_cons hA
  obtain ⟨v1,vs1,d1,ds1,p1,q1,rfl,rfl,rfl,h1,r1⟩:=trodAll_cons r0
  obtain ⟨rfl,rfl,rfl⟩:=trodAll_nil r1
  obtain rfl:args = #[v0,v1]:=by cases args;simp_all
  obtain ⟨rfl,rfl⟩:=trodVars_none hV
  obtain ⟨a0,len0,cap0,rfl⟩:=okWide_slice Tryz.underlying22 (hval 0 22 v0 rfl rfl)
  have k0:=h0
  have lt0:∀ x∈p0,x.block<W.heap.size:=by obtain ⟨m,hm⟩:=k0;exact DataW.trod_lt m _ _ _ hm
  obtain ⟨z0,w0⟩:∃ zs,IsRow .i64 W a0 len0 cap0 zs:=by
    obtain ⟨fuel,hf⟩:=h0
    rcases open_ints Tryz.underlying22 Tryz.underlying3 (by kernel_rfl) hf with ⟨hcs,_⟩|⟨x,l,c,zs,hcs,_,hl,hm,hz,_,ee,hwz⟩
    . simp[Value.cells] at hcs
      obtain ⟨rfl,rfl,rfl⟩:=hcs
      exact ⟨[],.inl ⟨rfl,rfl,rfl,rfl⟩⟩
    . simp[Value.cells] at hcs
      obtain ⟨rfl,rfl,rfl⟩:=hcs
      exact ⟨zs,.inr ⟨_,rfl,hl,hm,by simpa using hz,ee,hwz⟩⟩
  obtain ⟨a1,rfl,rfl,rfl,w1⟩:=open_int Tryz.underlying3 (hval 1 3 v1 rfl rfl) h1
  clear hA0 hval0
  refine (walk a0 len0 cap0 z0 a1 W w0 w1 hL).mono fun e W' ⟨he,bel⟩=>?_
  subst he
  exact ⟨_,rfl,_,_,_,[],_,[],hW',trodAll_mk1 (shut_bool Tryz.underlying4 _),(trodAll_cons_mk (Below.trod laidOut (by kernel_rfl) (of_decide_eq_true (by kernel_rfl)) k0 bel lt0) (trodAll_cons_mk (shut_int Tryz.underlying3 w1) trodAll_mk0)),rfl,bel.frame _,fun h=>by cases h⟩

theorem over:Rows.termSignsRow.holds Tryz.pinned (OpenSpec.ofChange Rows.termSignsSpec) :=
  OpenClaim.holds_of_wide 3 Tryz.f3 rfl rfl rfl rfl rfl rfl rfl ⟨rfl,rfl,rfl,rfl,rfl⟩ rfl rfl rfl rfl rfl (by kernel_rfl) Tryz.func3 termSignsClosed
    (of_decide_eq_true (by kernel_rfl)) (by unfold Func.isWrapper;first|(rw[if_pos (by decide +kernel)];kernel_rfl)|(rw[if_neg (by decide +kernel)];exact ⟨rfl,rfl⟩))
    (fun os started H enc _=>lifted os started H enc)

theorem rowHolds:Rows.TermSignsSaid:=over
end Go.Proofs.YtffiihfdjnmhpaaGreatDoor.termSigns
namespace Go.Proofs.YtffiihfdjnmhpaaGreatDoor
open Go
/-- THE STATEMENT. -/
theorem termSignsProved:Rows.TermSignsCardSaid :=
  Claim7.holds_tied_plain_at .later [] [.data, .data, .data, .data, .pinned] true (true, "c2ed84b977735e35a257440f6d37cad112bde0cc6695f9ec4e70cf419868b6e7") false
    termSigns.rowHolds (fun _ h=>by cases h) (by kernel_rfl) (fun _ h=>by cases h) termSigns_row_tie rfl ⟨rfl,rfl⟩ (by kernel_rfl) rfl
    (fun f fn hf hfn=>by
      obtain rfl : f = 3 := Option.some.inj ((show Tryz.prog.funcNamed "abaculus/abaculuslaw26.TermSigns" = some 3 by kernel_rfl).symm.trans hf) |>.symm
      obtain rfl:fn=Tryz.f3:=(Option.some.inj (Tryz.func3.symm.trans hfn)).symm
      exact ⟨by kernel_rfl,fun j t ht=>by
        rw[Tryz.params3] at ht
        have h3:t=22\/t=3:=by
          rcases j with _|_|j
          . exact .inl (by simpa using ht.symm)
          . exact .inr ((by simpa using ht.symm))
          . simp at ht
        rcases h3 with rfl|rfl
        . exact (show Tryz.prog.wantsStandIn 22=false by kernel_rfl)
        . exact (show Tryz.prog.wantsStandIn 3=false by kernel_rfl)⟩)
    (by kernel_rfl)
#print axioms termSignsProved
end Go.Proofs.YtffiihfdjnmhpaaGreatDoor
