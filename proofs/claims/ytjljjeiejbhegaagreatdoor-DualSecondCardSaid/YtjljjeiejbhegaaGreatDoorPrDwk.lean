/- The card of the law 'abaculuslaw27.DualSecond' holds. No condition of ours. -/
import Derived.Test.YtjljjeiejbhegaaGreatDoorQk0
import Derived.Test.YtjljjeiejbhegaaGreatDoorQk1
import Derived.Test.YtjljjeiejbhegaaGreatDoorQk2
import Derived.Test.YtjljjeiejbhegaaGreatDoorQk3
import Derived.Test.YtjljjeiejbhegaaGreatDoorQk4
import Derived.Test.YtjljjeiejbhegaaGreatDoorQk5
import Derived.Test.YtjljjeiejbhegaaGreatDoorQk6
import Derived.Test.YtjljjeiejbhegaaGreatDoorQk7
import Derived.Test.YtjljjeiejbhegaaGreatDoorPcDw
import Derived.Lib.LaidTab
import Derived.FnData
import Derived.MakeChecks
import Derived.Stop.LaidErr
import Derived.Lay
import Derived.Test.YtjljjeiejbhegaaGreatDoorCards
import Derived.Test.YtjljjeiejbhegaaGreatDoorTie
import Derived.SevenTiedAt
import Derived.LaidMore
import Derived.Stop.Joined
import Derived.Test.YtjljjeiejbhegaaGreatDoorRows
import Derived.WalkKit
import Derived.ProofKit
import Derived.OpenShut
import Derived.ShutString
import Derived.ChangeOld
import Derived.Below
namespace Go.Proofs.YtjljjeiejbhegaaGreatDoor
open Go.RowKit

end Go.Proofs.YtjljjeiejbhegaaGreatDoor
namespace Go.Proofs.YtjljjeiejbhegaaGreatDoor.dualSecond
open Go.ChangeShapes Go.WideShapes Go.ChangeAt Go.RowKit
open Go.ChangeMaps (open_string shut_string)
set_option linter.unusedVariables false

theorem own:ownKnob Tryz.prog.godebug=none:=by kernel_rfl
theorem laidOut:laidOutB Tryz.prog=true:=by kernel_rfl

/-- WHAT THE WALK IS TOLD OF A SLICE OF INTEGERS THAT CAME IN: it is nil;or it leads to a row of 'cap' cells,the numbers 'zs' (the first 'len' are its elements,the rest its spare room),each fitting its kind. -/
def IsRow (k:IntKind) (w:World) (a:Option Addr) (len cap:Nat) (zs:List Int):Prop :=
  (a=none/\len=0/\cap=0/\zs=[]) \/
  ∃ x,a=some x/\len<=cap/\cap<=maxLen/\zs.length=cap/\(∀ i,i<zs.length->w.cell? (x.add i)=some (.int k (zs.getD i 0)))/\∀ n∈zs,(Lit.int k n).wf=true

theorem isl {w:World} {a:Option Addr} {len cap:Nat} {zs:List Int} (r:IsRow .i64 w a len cap zs):∃ l:List Int,l.length=len/\l.length<=9223372036854775807/\p7 l/\SlO 1 E8 0 w.heap a l:=by
  rcases r with ⟨rfl,rfl,rfl,rfl⟩|⟨x,rfl,h1,h2,h3,h4,h5⟩
  . exact ⟨[],rfl,by simp,fun k=>by simp,SlO.nil⟩
  . have hm : maxLen<=9223372036854775807:=by decide
    have hl:(zs.take len).length=len:=by simp;omega
    have hg:∀ k,k<len->(zs.take len).getD k 0=zs.getD k 0:=fun k hk=>by
      rw[List.getD_eq_getElem?_getD,List.getElem?_take_of_lt hk,<-List.getD_eq_getElem?_getD]
    refine ⟨zs.take len,hl,by omega,fun k=>?_,fun h0=>?_,fun k hk=>?_⟩
    . rcases Nat.lt_or_ge k len with hk|hk
      . have h6:=h5 _ (List.mem_of_mem_take (Br (d:=0) (hl.symm▸hk)))
        have e1:IntKind.min .i64 = -9223372036854775808:=by decide
        have e2:IntKind.max .i64=9223372036854775807:=by decide
        simp only[Lit.wf,e1,e2,Bool.and_eq_true,decide_eq_true_eq] at h6
        exact h6
      . rw[wQ (by omega)];omega
    . have h6:=h4 0 (by omega)
      unfold World.cell? Addr.add at h6
      simp only[if_pos] at h6
      obtain ⟨b,o,sp⟩:=x
      cases sp with
      | none=>rfl
      | some q=>exfalso;revert h6;simp;split<;>simp
    . rw[hl] at hk
      rw[hg k hk]
      intro i v hv
      have h6:=h4 k (by omega)
      cases i with
      | succ i=>simp[E8] at hv
      | zero =>
        simp[E8] at hv
        subst hv
        unfold eF
        show (match w.heap[x.block]? with|some (.cells c _ _)=>c[x.off+k*1+0]?|_=>none)=_
        unfold World.cell? Addr.add at h6
        by_cases e:k=0
        . subst e
          simp only[if_pos] at h6
          split at h6
          . rename_i c _ _ hc
            split at h6
            . cases h6
            . rw[hc];simpa using h6
          . cases h6
        . rw[if_neg e] at h6
          split at h6
          . rename_i c _ _ hc
            rw[hc];simpa using h6
          . cases h6


abbrev laid1 : List (String × DataW Unit) := [("math/bits.deBruijn32tab", Rows.laid_math_bits_deBruijn32tab), ("math/bits.deBruijn64tab", Rows.laid_math_bits_deBruijn64tab), ("internal/strconv.uint64pow10", Rows.laid_internal_strconv_uint64pow10), ("unicode/utf8.acceptRanges", Rows.laid_unicode_utf8_acceptRanges), ("unicode/utf8.first", Rows.laid_unicode_utf8_first)]
theorem tab_of {w:World} (hL:laidMetH Tryz.prog laid1 w):Tab w.heap:=by
  rw[MakeChecks.laidMetH_plain _ _ _ (by kernel_rfl)] at hL
  have hg : Tryz.prog.globalNamed "math/bits.deBruijn64tab" = some 2 := by kernel_rfl
  have hT : Lib.TabIs Tryz.prog w "math/bits.deBruijn64tab" .u8 (Lib.deBruijn64tab.map fun k => ((k : Nat) : Int)) :=
    Lib.tabIs_of_head (t:=273) (e:=5) (n:=64) hg (by kernel_rfl) Tryz.underlying273 Tryz.underlying5 (by kernel_rfl) (by kernel_rfl) (laidMet.tail hL)
  intro i v hv
  have hc:=World.var?_cell hg hT i
  have e:eF w.heap 2 (0+i)=w.cell? ⟨2,i,none⟩:=by
    unfold eF World.cell?;rw[Nat.zero_add]
    cases w.heap[2]? with
    | none=>rfl
    | some o=>cases o<;>rfl
  rw[e,hc,List.map_map]
  simpa using hv
theorem walk (a0:Option Addr) (len0 cap0:Nat) (z0:List Int) (a1:Option Addr) (len1 cap1:Nat) (z1:List Int) (a2:Int) (a3:Int) (a4:Int) (a5:Int) (a6:Int) (w:World) (w0:IsRow .i64 w a0 len0 cap0 z0) (w1:IsRow .i64 w a1 len1 cap1 z1) (w2:(Lit.int .i64 a2).wf=true) (w3:(Lit.int .i64 a3).wf=true) (w4:(Lit.int .i64 a4).wf=true) (w5:(Lit.int .i64 a5).wf=true) (w6:(Lit.int .i64 a6).wf=true) (hL:laidMetH Tryz.prog laid1 w) :
    Calls Tryz.prog 3 #[.slice a0 len0 cap0,.slice a1 len1 cap1,.int .i64 a2,.int .i64 a3,.int .i64 a4,.int .i64 a5,.int .i64 a6] w fun e w'=>e=.returned (.bool true)/\Below w.heap.size w w':=by
  obtain ⟨l0,rfl,b0,i0,s0⟩:=isl w0
  obtain ⟨l1,rfl,b1,i1,s1⟩:=isl w1
  have r2 : -9223372036854775808<=a2/\a2<=9223372036854775807:=by
    have e1:IntKind.min .i64 = -9223372036854775808:=by decide
    have e2:IntKind.max .i64=9223372036854775807:=by decide
    simpa only[Lit.wf,e1,e2,Bool.and_eq_true,decide_eq_true_eq] using w2
  have r3 : -9223372036854775808<=a3/\a3<=9223372036854775807:=by
    have e1:IntKind.min .i64 = -9223372036854775808:=by decide
    have e2:IntKind.max .i64=9223372036854775807:=by decide
    simpa only[Lit.wf,e1,e2,Bool.and_eq_true,decide_eq_true_eq] using w3
  have r4 : -9223372036854775808<=a4/\a4<=9223372036854775807:=by
    have e1:IntKind.min .i64 = -9223372036854775808:=by decide
    have e2:IntKind.max .i64=9223372036854775807:=by decide
    simpa only[Lit.wf,e1,e2,Bool.and_eq_true,decide_eq_true_eq] using w4
  have r5 : -9223372036854775808<=a5/\a5<=9223372036854775807:=by
    have e1:IntKind.min .i64 = -9223372036854775808:=by decide
    have e2:IntKind.max .i64=9223372036854775807:=by decide
    simpa only[Lit.wf,e1,e2,Bool.and_eq_true,decide_eq_true_eq] using w5
  have r6 : -9223372036854775808<=a6/\a6<=9223372036854775807:=by
    have e1:IntKind.min .i64 = -9223372036854775808:=by decide
    have e2:IntKind.max .i64=9223372036854775807:=by decide
    simpa only[Lit.wf,e1,e2,Bool.and_eq_true,decide_eq_true_eq] using w6
  refine (rN a0 cap0 l0 a1 cap1 l1 a2 a3 a4 a5 a6 b0 i0 b1 i1 w w.heap ⟨rfl,fun _=>.inl rfl⟩ s0 s1 (tab_of hL)).mono ?_
  rintro e w' ⟨v,h',rfl,u,rfl⟩
  exact ⟨rfl,u.ext⟩

/-! ### THE ROW's STEP -/
theorem door_met (os:Os) (args:Array Value):laidMetH Tryz.prog laid1 ((World.laidAll Tryz.prog os laid1).forCall (fun _ _=>0) ⟨#[],args,[]⟩).memory :=
  have e:laid1.filter (fun x=>x.2.handleName?.isNone)=laid1:=by kernel_rfl
  laidMetH_of_parts3 (fuel:=8) (by rw[e];exact laidMet_laidAll args (by kernel_rfl) (by kernel_rfl)) (by kernel_rfl) (by kernel_rfl)
set_option maxRecDepth 100000 in
theorem lifted (os:Os) (started:os.Started) (H:Type) (enc:TypeId × Value->H) :
    ReturnsInHanded {} Tryz.checked os 3 .any (fun w args=>(Rows.dualSecondSpec.pre enc Tryz.prog Tryz.f3 [] false w args/\laidMetH Tryz.prog laid1 w)/\sizedMet enc Tryz.prog Tryz.f3 (OpenSpec.ofChange Rows.dualSecondSpec) false w args) (Rows.dualSecondSpec.post enc Tryz.prog Tryz.f3 false true false false):=by
  refine returnsInHanded_of_change_and (C:=Tryz.checked) (X:=fun w _=>laidMetH Tryz.prog laid1 w) (fun _ _ _ hh h=>h.of_heap hh) own started (by kernel_rfl) Tryz.func3
    (ChangeSpec.witness_shaped (enc:=enc) (C:=Tryz.checked) (os:=os) (X:=fun w _=>laidMetH Tryz.prog laid1 w) false (World.laidAll Tryz.prog os laid1) #[.slice none 0 0,.slice none 0 0,.int .i64 0,.int .i64 0,.int .i64 0,.int .i64 0,.int .i64 0] 8 (World.laidAll_os _ _ _) (World.shaped_of_ZipB (by kernel_rfl) (by kernel_rfl)) (by kernel_rfl) (by kernel_rfl) (by kernel_rfl) (door_met os _)) ?_
  intro W base args ds gs before hval0 hW _ _ hL _
  have hval:∀ (j:Nat) t v,Tryz.f3.params[j]?=some t->args[j]?=some v->Value.okWide Tryz.prog W .any base t v:=hval0
  have hW':=hW
  obtain ⟨p,q,hA0,hV,rfl,hfz,hnd⟩:=hW
  have hA:DataW.TrodAll enc Tryz.prog W 0 (fun _=>true) true Tryz.f3.params.toList args.toList ds p:=hA0
  rw[Tryz.params3] at hA hval
  obtain ⟨v0,vs0,d0,ds0,p0,q0,hargs,rfl,rfl,h0,r0⟩:=trodAll_cons hA
  obtain ⟨v1,vs1,d1,ds1,p1,q1,rfl,rfl,rfl,h1,r1⟩:=trodAll_cons r0
  obtain ⟨v2,vs2,d2,ds2,p2,q2,rfl,rfl,rfl,h2,r2⟩:=trodAll_cons r1
  obtain ⟨v3,vs3,d3,ds3,p3,q3,rfl,rfl,rfl,h3,r3⟩:=trodAll_cons r2
  obtain ⟨v4,vs4,d4,ds4,p4,q4,rfl,rfl,rfl,h4,r4⟩:=trodAll_cons r3
  obtain ⟨v5,vs5,d5,ds5,p5,q5,rfl,rfl,rfl,h5,r5⟩:=trodAll_cons r4
  obtain ⟨v6,vs6,d6,ds6,p6,q6,rfl,rfl,rfl,h6,r6⟩:=trodAll_cons r5
  obtain ⟨rfl,rfl,rfl⟩:=trodAll_nil r6
  obtain rfl:args = #[v0,v1,v2,v3,v4,v5,v6]:=by cases args;simp_all
  obtain ⟨rfl,rfl⟩:=trodVars_none hV
  obtain ⟨a0,len0,cap0,rfl⟩:=okWide_slice Tryz.underlying22 (hval 0 22 v0 rfl rfl)
  have k0:=h0
  have lt0:∀ x∈p0,x.block<W.heap.size:=by obtain ⟨m,hm⟩:=k0;exact DataW.trod_lt m _ _ _ hm
  obtain ⟨z0,w0⟩:∃ zs,IsRow .i64 W a0 len0 cap0 zs:=by
    obtain ⟨fuel,hf⟩:=h0
    rcases open_ints Tryz.underlying22 Tryz.underlying3 (by kernel_rfl) hf with ⟨hcs,_⟩|⟨x,l,c,zs,hcs,_,hl,hm,hz,_,eF,hwz⟩
    . simp[Value.cells] at hcs
      obtain ⟨rfl,rfl,rfl⟩:=hcs
      exact ⟨[],.inl ⟨rfl,rfl,rfl,rfl⟩⟩
    . simp[Value.cells] at hcs
      obtain ⟨rfl,rfl,rfl⟩:=hcs
      exact ⟨zs,.inr ⟨_,rfl,hl,hm,by simpa using hz,eF,hwz⟩⟩
  obtain ⟨a1,len1,cap1,rfl⟩:=okWide_slice Tryz.underlying22 (hval 1 22 v1 rfl rfl)
  have k1:=h1
  have lt1:∀ x∈p1,x.block<W.heap.size:=by obtain ⟨m,hm⟩:=k1;exact DataW.trod_lt m _ _ _ hm
  obtain ⟨z1,w1⟩:∃ zs,IsRow .i64 W a1 len1 cap1 zs:=by
    obtain ⟨fuel,hf⟩:=h1
    rcases open_ints Tryz.underlying22 Tryz.underlying3 (by kernel_rfl) hf with ⟨hcs,_⟩|⟨x,l,c,zs,hcs,_,hl,hm,hz,_,eF,hwz⟩
    . simp[Value.cells] at hcs
      obtain ⟨rfl,rfl,rfl⟩:=hcs
      exact ⟨[],.inl ⟨rfl,rfl,rfl,rfl⟩⟩
    . simp[Value.cells] at hcs
      obtain ⟨rfl,rfl,rfl⟩:=hcs
      exact ⟨zs,.inr ⟨_,rfl,hl,hm,by simpa using hz,eF,hwz⟩⟩
  obtain ⟨a2,rfl,rfl,rfl,w2⟩:=open_int Tryz.underlying3 (hval 2 3 v2 rfl rfl) h2
  obtain ⟨a3,rfl,rfl,rfl,w3⟩:=open_int Tryz.underlying3 (hval 3 3 v3 rfl rfl) h3
  obtain ⟨a4,rfl,rfl,rfl,w4⟩:=open_int Tryz.underlying3 (hval 4 3 v4 rfl rfl) h4
  obtain ⟨a5,rfl,rfl,rfl,w5⟩:=open_int Tryz.underlying3 (hval 5 3 v5 rfl rfl) h5
  obtain ⟨a6,rfl,rfl,rfl,w6⟩:=open_int Tryz.underlying3 (hval 6 3 v6 rfl rfl) h6
  clear hA0 hval0
  refine (walk a0 len0 cap0 z0 a1 len1 cap1 z1 a2 a3 a4 a5 a6 W w0 w1 w2 w3 w4 w5 w6 hL).mono fun e W' ⟨he,bel⟩=>?_
  subst he
  exact ⟨_,rfl,_,_,_,[],_,[],hW',trodAll_mk1 (shut_bool Tryz.underlying4 _),(trodAll_cons_mk (Below.trod laidOut (by kernel_rfl) (of_decide_eq_true (by kernel_rfl)) k0 bel lt0) (trodAll_cons_mk (Below.trod laidOut (by kernel_rfl) (of_decide_eq_true (by kernel_rfl)) k1 bel lt1) (trodAll_cons_mk (shut_int Tryz.underlying3 w2) (trodAll_cons_mk (shut_int Tryz.underlying3 w3) (trodAll_cons_mk (shut_int Tryz.underlying3 w4) (trodAll_cons_mk (shut_int Tryz.underlying3 w5) (trodAll_cons_mk (shut_int Tryz.underlying3 w6) trodAll_mk0))))))),rfl,bel.frame _,fun h=>by cases h⟩

theorem over:Rows.dualSecondRow.holds Tryz.pinned (OpenSpec.ofChange Rows.dualSecondSpec) :=
  OpenClaim.holds_of_wide 3 Tryz.f3 rfl rfl rfl rfl rfl rfl rfl ⟨rfl,rfl,rfl,rfl,rfl⟩ rfl rfl rfl rfl rfl (by kernel_rfl) Tryz.func3 dualSecondClosed
    (of_decide_eq_true (by kernel_rfl)) (by unfold Func.isWrapper;first|(rw[if_pos (by decide +kernel)];kernel_rfl)|(rw[if_neg (by decide +kernel)];exact ⟨rfl,rfl⟩))
    (fun os started H enc _=>lifted os started H enc)

theorem rowHolds:Rows.DualSecondSaid:=over
end Go.Proofs.YtjljjeiejbhegaaGreatDoor.dualSecond
namespace Go.Proofs.YtjljjeiejbhegaaGreatDoor
open Go
/-- THE STATEMENT. -/
theorem dualSecondProved:Rows.DualSecondCardSaid :=
  Claim7.holds_tied_plain_at .later [] [.data, .data, .data, .data, .pinned] true (true, "cfdaaff415d9179c10fd6ac60c6e8a8054e1d941b52749f7196a4a38c274f03a") false
    dualSecond.rowHolds (fun _ h=>by cases h) (by kernel_rfl) (fun _ h=>by cases h) dualSecond_row_tie rfl ⟨rfl,rfl⟩ (by kernel_rfl) rfl
    (fun f fn hf hfn=>by
      obtain rfl : f = 3 := Option.some.inj ((show Tryz.prog.funcNamed "abaculus/abaculuslaw27.DualSecond" = some 3 by kernel_rfl).symm.trans hf) |>.symm
      obtain rfl:fn=Tryz.f3:=(Option.some.inj (Tryz.func3.symm.trans hfn)).symm
      exact ⟨by kernel_rfl,fun j t ht=>by
        rw[Tryz.params3] at ht
        have h3:t=22\/t=3:=by
          rcases j with _|_|_|_|_|_|_|j
          . exact .inl (by simpa using ht.symm)
          . exact .inl (by simpa using ht.symm)
          . exact .inr ((by simpa using ht.symm))
          . exact .inr ((by simpa using ht.symm))
          . exact .inr ((by simpa using ht.symm))
          . exact .inr ((by simpa using ht.symm))
          . exact .inr ((by simpa using ht.symm))
          . simp at ht
        rcases h3 with rfl|rfl
        . exact (show Tryz.prog.wantsStandIn 22=false by kernel_rfl)
        . exact (show Tryz.prog.wantsStandIn 3=false by kernel_rfl)⟩)
    (by kernel_rfl)
#print axioms dualSecondProved
end Go.Proofs.YtjljjeiejbhegaaGreatDoor
