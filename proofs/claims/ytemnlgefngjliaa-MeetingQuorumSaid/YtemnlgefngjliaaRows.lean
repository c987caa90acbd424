/-
  No cell of these rows narrows 'for every input' (looked for: loops, veiled, ifaces, maps, wideKeys, modest, calm, conditions, laid).
  DERIVED. THE GIVEN ROWS OF THIS SEAT. 8 by the template 'for every input the law returns true; each argument reads behind the call as it read before'; 0 by the template 'total and deterministic' (their statements: YtemnlgefngjliaaTotals.lean).
  GIVEN WITH THE SEED: the statements are not yours to turn. If you find one false, say at which input.
  Laid BY PROGRAM, IN A SANDBOX (cutbox-rows.mjs): the forced cells as the released guide's own fill.sh prints them over the translation 14947d07dbe3e8c5… (all of the seat's roots in one cut). By AI agents, Wed Nov 11 2026. No macro, syntax, notation, axiom, sorry.
-/
import Derived.Test.YtemnlgefngjliaaChecked
import GoSem.Claim
import GoSem.ClaimJoined
import GoSem.ClaimMapViews
import Derived.JoinedTies
import Derived.KernelRfl
namespace Go.Proofs.Ytemnlgefngjliaa
/- THE CELL 'sum', in the pinned program and in every row, IS THE sha256 OF THE DUMP (.gsa) THAT YtemnlgefngjliaaProg.lean LOADS. Nothing in Lean hashes anything: it is a label: what it is worth is what the hold of that sum in a sandbox is worth. -/
noncomputable def Try.pinned : Pinned := { name := "ytemnlgefngjliaa", sum := "14947d07dbe3e8c558c625e87f9f690ff3b4a6ed5743173e7e2469c32396bacb", checked := Try.checked }
namespace Rows
def none {H : Type} : Left H := { results := [], args := [] }

/-- 'cohousinglaw39.MeetingMatchesReference': WHATEVER THE INPUT: true; the input reads as it did. -/
def meetingMatchesReferenceSpec : ChangeSpec := { name := "meetingMatchesReference", fn := fun _ => fun
  | [d1, d2, d3, d4, d5, d6, d7] => { results := [.lit (.bool true)], args := [d1, d2, d3, d4, d5, d6, d7] }
  | _ => none }
def meetingMatchesReferenceRow : OpenClaim := { program := "ytemnlgefngjliaa", sum := "14947d07dbe3e8c558c625e87f9f690ff3b4a6ed5743173e7e2469c32396bacb", func := "cohousing/cohousinglaw39.MeetingMatchesReference", spec := "meetingMatchesReference", unfollowed := true, recurses := true, apart := false }
def MeetingMatchesReferenceSaid : Prop := meetingMatchesReferenceRow.holds Try.pinned (OpenSpec.ofChange meetingMatchesReferenceSpec)

/-- ITS FALSE NEIGHBOUR: 'it returns false'. Refute it at one input. -/
def meetingMatchesReferenceWrong : ChangeSpec := { name := "meetingMatchesReference", fn := fun _ => fun
  | [d1, d2, d3, d4, d5, d6, d7] => { results := [.lit (.bool false)], args := [d1, d2, d3, d4, d5, d6, d7] }
  | _ => none }
def MeetingMatchesReferenceWrongFalsely : Prop := meetingMatchesReferenceRow.holds Try.pinned (OpenSpec.ofChange meetingMatchesReferenceWrong)

/-- 'cohousinglaw39.MeetingWeights': WHATEVER THE INPUT: true; the input reads as it did. -/
def meetingWeightsSpec : ChangeSpec := { name := "meetingWeights", fn := fun _ => fun
  | [d1, d2] => { results := [.lit (.bool true)], args := [d1, d2] }
  | _ => none }
def meetingWeightsRow : OpenClaim := { program := "ytemnlgefngjliaa", sum := "14947d07dbe3e8c558c625e87f9f690ff3b4a6ed5743173e7e2469c32396bacb", func := "cohousing/cohousinglaw39.MeetingWeights", spec := "meetingWeights", unfollowed := true, recurses := true, apart := false }
def MeetingWeightsSaid : Prop := meetingWeightsRow.holds Try.pinned (OpenSpec.ofChange meetingWeightsSpec)

/-- ITS FALSE NEIGHBOUR: 'it returns false'. Refute it at one input. -/
def meetingWeightsWrong : ChangeSpec := { name := "meetingWeights", fn := fun _ => fun
  | [d1, d2] => { results := [.lit (.bool false)], args := [d1, d2] }
  | _ => none }
def MeetingWeightsWrongFalsely : Prop := meetingWeightsRow.holds Try.pinned (OpenSpec.ofChange meetingWeightsWrong)

/-- 'cohousinglaw39.MeetingComing': WHATEVER THE INPUT: true; the input reads as it did. -/
def meetingComingSpec : ChangeSpec := { name := "meetingComing", fn := fun _ => fun
  | [d1, d2, d3] => { results := [.lit (.bool true)], args := [d1, d2, d3] }
  | _ => none }
def meetingComingRow : OpenClaim := { program := "ytemnlgefngjliaa", sum := "14947d07dbe3e8c558c625e87f9f690ff3b4a6ed5743173e7e2469c32396bacb", func := "cohousing/cohousinglaw39.MeetingComing", spec := "meetingComing", unfollowed := true, recurses := true, apart := false }
def MeetingComingSaid : Prop := meetingComingRow.holds Try.pinned (OpenSpec.ofChange meetingComingSpec)

/-- ITS FALSE NEIGHBOUR: 'it returns false'. Refute it at one input. -/
def meetingComingWrong : ChangeSpec := { name := "meetingComing", fn := fun _ => fun
  | [d1, d2, d3] => { results := [.lit (.bool false)], args := [d1, d2, d3] }
  | _ => none }
def MeetingComingWrongFalsely : Prop := meetingComingRow.holds Try.pinned (OpenSpec.ofChange meetingComingWrong)

/-- 'cohousinglaw39.MeetingNotice': WHATEVER THE INPUT: true; the input reads as it did. -/
def meetingNoticeSpec : ChangeSpec := { name := "meetingNotice", fn := fun _ => fun
  | [d1, d2, d3, d4, d5, d6] => { results := [.lit (.bool true)], args := [d1, d2, d3, d4, d5, d6] }
  | _ => none }
def meetingNoticeRow : OpenClaim := { program := "ytemnlgefngjliaa", sum := "14947d07dbe3e8c558c625e87f9f690ff3b4a6ed5743173e7e2469c32396bacb", func := "cohousing/cohousinglaw39.MeetingNotice", spec := "meetingNotice", unfollowed := true, recurses := true, apart := false }
def MeetingNoticeSaid : Prop := meetingNoticeRow.holds Try.pinned (OpenSpec.ofChange meetingNoticeSpec)

/-- ITS FALSE NEIGHBOUR: 'it returns false'. Refute it at one input. -/
def meetingNoticeWrong : ChangeSpec := { name := "meetingNotice", fn := fun _ => fun
  | [d1, d2, d3, d4, d5, d6] => { results := [.lit (.bool false)], args := [d1, d2, d3, d4, d5, d6] }
  | _ => none }
def MeetingNoticeWrongFalsely : Prop := meetingNoticeRow.holds Try.pinned (OpenSpec.ofChange meetingNoticeWrong)

/-- 'cohousinglaw39.MeetingQuorum': WHATEVER THE INPUT: true; the input reads as it did. -/
def meetingQuorumSpec : ChangeSpec := { name := "meetingQuorum", fn := fun _ => fun
  | [d1, d2, d3, d4] => { results := [.lit (.bool true)], args := [d1, d2, d3, d4] }
  | _ => none }
def meetingQuorumRow : OpenClaim := { program := "ytemnlgefngjliaa", sum := "14947d07dbe3e8c558c625e87f9f690ff3b4a6ed5743173e7e2469c32396bacb", func := "cohousing/cohousinglaw39.MeetingQuorum", spec := "meetingQuorum", unfollowed := true, recurses := true, apart := false }
def MeetingQuorumSaid : Prop := meetingQuorumRow.holds Try.pinned (OpenSpec.ofChange meetingQuorumSpec)

/-- ITS FALSE NEIGHBOUR: 'it returns false'. Refute it at one input. -/
def meetingQuorumWrong : ChangeSpec := { name := "meetingQuorum", fn := fun _ => fun
  | [d1, d2, d3, d4] => { results := [.lit (.bool false)], args := [d1, d2, d3, d4] }
  | _ => none }
def MeetingQuorumWrongFalsely : Prop := meetingQuorumRow.holds Try.pinned (OpenSpec.ofChange meetingQuorumWrong)

/-- 'cohousinglaw39.MeetingAgenda': WHATEVER THE INPUT: true; the input reads as it did. -/
def meetingAgendaSpec : ChangeSpec := { name := "meetingAgenda", fn := fun _ => fun
  | [d1, d2, d3, d4] => { results := [.lit (.bool true)], args := [d1, d2, d3, d4] }
  | _ => none }
def meetingAgendaRow : OpenClaim := { program := "ytemnlgefngjliaa", sum := "14947d07dbe3e8c558c625e87f9f690ff3b4a6ed5743173e7e2469c32396bacb", func := "cohousing/cohousinglaw39.MeetingAgenda", spec := "meetingAgenda", unfollowed := true, recurses := true, apart := false }
def MeetingAgendaSaid : Prop := meetingAgendaRow.holds Try.pinned (OpenSpec.ofChange meetingAgendaSpec)

/-- ITS FALSE NEIGHBOUR: 'it returns false'. Refute it at one input. -/
def meetingAgendaWrong : ChangeSpec := { name := "meetingAgenda", fn := fun _ => fun
  | [d1, d2, d3, d4] => { results := [.lit (.bool false)], args := [d1, d2, d3, d4] }
  | _ => none }
def MeetingAgendaWrongFalsely : Prop := meetingAgendaRow.holds Try.pinned (OpenSpec.ofChange meetingAgendaWrong)

/-- 'cohousinglaw39.MeetingPassed': WHATEVER THE INPUT: true; the input reads as it did. -/
def meetingPassedSpec : ChangeSpec := { name := "meetingPassed", fn := fun _ => fun
  | [d1, d2, d3, d4, d5] => { results := [.lit (.bool true)], args := [d1, d2, d3, d4, d5] }
  | _ => none }
def meetingPassedRow : OpenClaim := { program := "ytemnlgefngjliaa", sum := "14947d07dbe3e8c558c625e87f9f690ff3b4a6ed5743173e7e2469c32396bacb", func := "cohousing/cohousinglaw39.MeetingPassed", spec := "meetingPassed", unfollowed := true, recurses := true, apart := false }
def MeetingPassedSaid : Prop := meetingPassedRow.holds Try.pinned (OpenSpec.ofChange meetingPassedSpec)

/-- ITS FALSE NEIGHBOUR: 'it returns false'. Refute it at one input. -/
def meetingPassedWrong : ChangeSpec := { name := "meetingPassed", fn := fun _ => fun
  | [d1, d2, d3, d4, d5] => { results := [.lit (.bool false)], args := [d1, d2, d3, d4, d5] }
  | _ => none }
def MeetingPassedWrongFalsely : Prop := meetingPassedRow.holds Try.pinned (OpenSpec.ofChange meetingPassedWrong)

/-- 'cohousinglaw39.MeetingProxies': WHATEVER THE INPUT: true; the input reads as it did. -/
def meetingProxiesSpec : ChangeSpec := { name := "meetingProxies", fn := fun _ => fun
  | [d1, d2, d3] => { results := [.lit (.bool true)], args := [d1, d2, d3] }
  | _ => none }
def meetingProxiesRow : OpenClaim := { program := "ytemnlgefngjliaa", sum := "14947d07dbe3e8c558c625e87f9f690ff3b4a6ed5743173e7e2469c32396bacb", func := "cohousing/cohousinglaw39.MeetingProxies", spec := "meetingProxies", unfollowed := true, recurses := true, apart := false }
def MeetingProxiesSaid : Prop := meetingProxiesRow.holds Try.pinned (OpenSpec.ofChange meetingProxiesSpec)

/-- ITS FALSE NEIGHBOUR: 'it returns false'. Refute it at one input. -/
def meetingProxiesWrong : ChangeSpec := { name := "meetingProxies", fn := fun _ => fun
  | [d1, d2, d3] => { results := [.lit (.bool false)], args := [d1, d2, d3] }
  | _ => none }
def MeetingProxiesWrongFalsely : Prop := meetingProxiesRow.holds Try.pinned (OpenSpec.ofChange meetingProxiesWrong)

/- THE SECOND FORM. 'bulk': how many values and letters a reading holds, each counted each time it is reached (what is shared counts as often as it is met; a slice's spare places count too). A statement '..UptoSaid' is the law's where the arguments, and the package variables that the reading takes, are together of bulk at most 1048576: NARROWER than '..Said'. Prove '..Said' where nothing that the law and all that it calls make is longer than what came in: it says more and counts as full. Else prove '..UptoSaid'. A law counts once. -/
mutual
def uptoBulk {H : Type} : DataW H → Nat
  | .lit (.string bytes) => bytes.length + 1
  | .lit _ => 1
  | .nil => 1
  | .ptr d => uptoBulk d + 1
  | .slice elems spare => uptoBulkAll elems + uptoBulkAll spare + 1
  | .agg parts => uptoBulkAll parts + 1
  | .iface _ d => uptoBulk d + 1
  | .map entries => uptoBulkEntries entries + 1
  | .held _ => 1
def uptoBulkAll {H : Type} : List (DataW H) → Nat
  | [] => 0
  | d :: r => uptoBulk d + uptoBulkAll r
def uptoBulkEntries {H : Type} : List (Lit × DataW H) → Nat
  | [] => 0
  | x :: r => uptoBulkEntry x + uptoBulkEntries r
def uptoBulkEntry {H : Type} : Lit × DataW H → Nat
  | (.string bytes, d) => bytes.length + uptoBulk d + 1
  | (_, d) => uptoBulk d + 1
 end
def uptoSmall : (H : Type) → List (DataW H) → Bool := fun _ ds => decide (uptoBulkAll ds ≤ 1048576)
def OpenSpec.upto (s : _root_.Go.ChangeSpec) : _root_.Go.OpenSpec := { _root_.Go.OpenSpec.ofChange s with cond := some uptoSmall }

/-- 'cohousinglaw39.MeetingMatchesReference', WHERE WHAT IT READS IS OF BULK AT MOST 1048576: true; the input reads as it did. -/
def meetingMatchesReferenceUptoRow : OpenClaim := { program := "ytemnlgefngjliaa", sum := "14947d07dbe3e8c558c625e87f9f690ff3b4a6ed5743173e7e2469c32396bacb", func := "cohousing/cohousinglaw39.MeetingMatchesReference", spec := "meetingMatchesReference", unfollowed := true, recurses := true, apart := false, narrowed := true }
def MeetingMatchesReferenceUptoSaid : Prop := meetingMatchesReferenceUptoRow.holds Try.pinned (OpenSpec.upto meetingMatchesReferenceSpec)

/-- 'cohousinglaw39.MeetingWeights', WHERE WHAT IT READS IS OF BULK AT MOST 1048576: true; the input reads as it did. -/
def meetingWeightsUptoRow : OpenClaim := { program := "ytemnlgefngjliaa", sum := "14947d07dbe3e8c558c625e87f9f690ff3b4a6ed5743173e7e2469c32396bacb", func := "cohousing/cohousinglaw39.MeetingWeights", spec := "meetingWeights", unfollowed := true, recurses := true, apart := false, narrowed := true }
def MeetingWeightsUptoSaid : Prop := meetingWeightsUptoRow.holds Try.pinned (OpenSpec.upto meetingWeightsSpec)

/-- 'cohousinglaw39.MeetingComing', WHERE WHAT IT READS IS OF BULK AT MOST 1048576: true; the input reads as it did. -/
def meetingComingUptoRow : OpenClaim := { program := "ytemnlgefngjliaa", sum := "14947d07dbe3e8c558c625e87f9f690ff3b4a6ed5743173e7e2469c32396bacb", func := "cohousing/cohousinglaw39.MeetingComing", spec := "meetingComing", unfollowed := true, recurses := true, apart := false, narrowed := true }
def MeetingComingUptoSaid : Prop := meetingComingUptoRow.holds Try.pinned (OpenSpec.upto meetingComingSpec)

/-- 'cohousinglaw39.MeetingNotice', WHERE WHAT IT READS IS OF BULK AT MOST 1048576: true; the input reads as it did. -/
def meetingNoticeUptoRow : OpenClaim := { program := "ytemnlgefngjliaa", sum := "14947d07dbe3e8c558c625e87f9f690ff3b4a6ed5743173e7e2469c32396bacb", func := "cohousing/cohousinglaw39.MeetingNotice", spec := "meetingNotice", unfollowed := true, recurses := true, apart := false, narrowed := true }
def MeetingNoticeUptoSaid : Prop := meetingNoticeUptoRow.holds Try.pinned (OpenSpec.upto meetingNoticeSpec)

/-- 'cohousinglaw39.MeetingQuorum', WHERE WHAT IT READS IS OF BULK AT MOST 1048576: true; the input reads as it did. -/
def meetingQuorumUptoRow : OpenClaim := { program := "ytemnlgefngjliaa", sum := "14947d07dbe3e8c558c625e87f9f690ff3b4a6ed5743173e7e2469c32396bacb", func := "cohousing/cohousinglaw39.MeetingQuorum", spec := "meetingQuorum", unfollowed := true, recurses := true, apart := false, narrowed := true }
def MeetingQuorumUptoSaid : Prop := meetingQuorumUptoRow.holds Try.pinned (OpenSpec.upto meetingQuorumSpec)

/-- 'cohousinglaw39.MeetingAgenda', WHERE WHAT IT READS IS OF BULK AT MOST 1048576: true; the input reads as it did. -/
def meetingAgendaUptoRow : OpenClaim := { program := "ytemnlgefngjliaa", sum := "14947d07dbe3e8c558c625e87f9f690ff3b4a6ed5743173e7e2469c32396bacb", func := "cohousing/cohousinglaw39.MeetingAgenda", spec := "meetingAgenda", unfollowed := true, recurses := true, apart := false, narrowed := true }
def MeetingAgendaUptoSaid : Prop := meetingAgendaUptoRow.holds Try.pinned (OpenSpec.upto meetingAgendaSpec)

/-- 'cohousinglaw39.MeetingPassed', WHERE WHAT IT READS IS OF BULK AT MOST 1048576: true; the input reads as it did. -/
def meetingPassedUptoRow : OpenClaim := { program := "ytemnlgefngjliaa", sum := "14947d07dbe3e8c558c625e87f9f690ff3b4a6ed5743173e7e2469c32396bacb", func := "cohousing/cohousinglaw39.MeetingPassed", spec := "meetingPassed", unfollowed := true, recurses := true, apart := false, narrowed := true }
def MeetingPassedUptoSaid : Prop := meetingPassedUptoRow.holds Try.pinned (OpenSpec.upto meetingPassedSpec)

/-- 'cohousinglaw39.MeetingProxies', WHERE WHAT IT READS IS OF BULK AT MOST 1048576: true; the input reads as it did. -/
def meetingProxiesUptoRow : OpenClaim := { program := "ytemnlgefngjliaa", sum := "14947d07dbe3e8c558c625e87f9f690ff3b4a6ed5743173e7e2469c32396bacb", func := "cohousing/cohousinglaw39.MeetingProxies", spec := "meetingProxies", unfollowed := true, recurses := true, apart := false, narrowed := true }
def MeetingProxiesUptoSaid : Prop := meetingProxiesUptoRow.holds Try.pinned (OpenSpec.upto meetingProxiesSpec)

end Rows
end Go.Proofs.Ytemnlgefngjliaa
