/-
  No cell of these rows narrows 'for every input' (looked for: loops, veiled, ifaces, maps, wideKeys, modest, calm, conditions, laid).
  DERIVED. THE GIVEN ROWS OF THIS SEAT. 5 by the template 'for every input the law returns true; each argument reads behind the call as it read before'; 0 by the template 'total and deterministic' (their statements: YtfbgkcadnmcakaaTotals.lean).
  GIVEN WITH THE SEED: the statements are not yours to turn. If you find one false, say at which input.
  Laid BY PROGRAM, IN A SANDBOX (cutbox-rows.mjs): the forced cells as the released guide's own fill.sh prints them over the translation 32fb8d98e9f7ba85… (all of the seat's roots in one cut). By AI agents, Wed Nov 11 2026. No macro, syntax, notation, axiom, sorry.
-/
import Derived.Test.YtfbgkcadnmcakaaChecked
import GoSem.Claim
import GoSem.ClaimJoined
import GoSem.ClaimMapViews
import Derived.JoinedTies
import Derived.KernelRfl
namespace Go.Proofs.Ytfbgkcadnmcakaa
/- THE CELL 'sum', in the pinned program and in every row, IS THE sha256 OF THE DUMP (.gsa) THAT YtfbgkcadnmcakaaProg.lean LOADS. Nothing in Lean hashes anything: it is a label: what it is worth is what the hold of that sum in a sandbox is worth. -/
noncomputable def Try.pinned : Pinned := { name := "ytfbgkcadnmcakaa", sum := "32fb8d98e9f7ba85c7fe4bed5df37713b2f9d1705f5e58917f2c2d25cab9ac59", checked := Try.checked }
namespace Rows
def none {H : Type} : Left H := { results := [], args := [] }

/-- 'cohousinglaw37.ClaimsTransfer': WHATEVER THE INPUT: true; the input reads as it did. -/
def claimsTransferSpec : ChangeSpec := { name := "claimsTransfer", fn := fun _ => fun
  | [d1, d2, d3, d4, d5, d6] => { results := [.lit (.bool true)], args := [d1, d2, d3, d4, d5, d6] }
  | _ => none }
def claimsTransferRow : OpenClaim := { program := "ytfbgkcadnmcakaa", sum := "32fb8d98e9f7ba85c7fe4bed5df37713b2f9d1705f5e58917f2c2d25cab9ac59", func := "cohousing/cohousinglaw37.ClaimsTransfer", spec := "claimsTransfer", unfollowed := true, recurses := true, apart := false }
def ClaimsTransferSaid : Prop := claimsTransferRow.holds Try.pinned (OpenSpec.ofChange claimsTransferSpec)

/-- ITS FALSE NEIGHBOUR: 'it returns false'. Refute it at one input. -/
def claimsTransferWrong : ChangeSpec := { name := "claimsTransfer", fn := fun _ => fun
  | [d1, d2, d3, d4, d5, d6] => { results := [.lit (.bool false)], args := [d1, d2, d3, d4, d5, d6] }
  | _ => none }
def ClaimsTransferWrongFalsely : Prop := claimsTransferRow.holds Try.pinned (OpenSpec.ofChange claimsTransferWrong)

/-- 'cohousinglaw37.ClaimsCover': WHATEVER THE INPUT: true; the input reads as it did. -/
def claimsCoverSpec : ChangeSpec := { name := "claimsCover", fn := fun _ => fun
  | [d1, d2, d3] => { results := [.lit (.bool true)], args := [d1, d2, d3] }
  | _ => none }
def claimsCoverRow : OpenClaim := { program := "ytfbgkcadnmcakaa", sum := "32fb8d98e9f7ba85c7fe4bed5df37713b2f9d1705f5e58917f2c2d25cab9ac59", func := "cohousing/cohousinglaw37.ClaimsCover", spec := "claimsCover", unfollowed := true, recurses := true, apart := false }
def ClaimsCoverSaid : Prop := claimsCoverRow.holds Try.pinned (OpenSpec.ofChange claimsCoverSpec)

/-- ITS FALSE NEIGHBOUR: 'it returns false'. Refute it at one input. -/
def claimsCoverWrong : ChangeSpec := { name := "claimsCover", fn := fun _ => fun
  | [d1, d2, d3] => { results := [.lit (.bool false)], args := [d1, d2, d3] }
  | _ => none }
def ClaimsCoverWrongFalsely : Prop := claimsCoverRow.holds Try.pinned (OpenSpec.ofChange claimsCoverWrong)

/-- 'cohousinglaw37.ClaimsMatchesReference': WHATEVER THE INPUT: true; the input reads as it did. -/
def claimsMatchesReferenceSpec : ChangeSpec := { name := "claimsMatchesReference", fn := fun _ => fun
  | [d1, d2, d3, d4, d5, d6, d7, d8] => { results := [.lit (.bool true)], args := [d1, d2, d3, d4, d5, d6, d7, d8] }
  | _ => none }
def claimsMatchesReferenceRow : OpenClaim := { program := "ytfbgkcadnmcakaa", sum := "32fb8d98e9f7ba85c7fe4bed5df37713b2f9d1705f5e58917f2c2d25cab9ac59", func := "cohousing/cohousinglaw37.ClaimsMatchesReference", spec := "claimsMatchesReference", unfollowed := true, recurses := true, apart := false }
def ClaimsMatchesReferenceSaid : Prop := claimsMatchesReferenceRow.holds Try.pinned (OpenSpec.ofChange claimsMatchesReferenceSpec)

/-- ITS FALSE NEIGHBOUR: 'it returns false'. Refute it at one input. -/
def claimsMatchesReferenceWrong : ChangeSpec := { name := "claimsMatchesReference", fn := fun _ => fun
  | [d1, d2, d3, d4, d5, d6, d7, d8] => { results := [.lit (.bool false)], args := [d1, d2, d3, d4, d5, d6, d7, d8] }
  | _ => none }
def ClaimsMatchesReferenceWrongFalsely : Prop := claimsMatchesReferenceRow.holds Try.pinned (OpenSpec.ofChange claimsMatchesReferenceWrong)

/-- 'cohousinglaw37.ClaimsHolder': WHATEVER THE INPUT: true; the input reads as it did. -/
def claimsHolderSpec : ChangeSpec := { name := "claimsHolder", fn := fun _ => fun
  | [d1, d2, d3, d4, d5] => { results := [.lit (.bool true)], args := [d1, d2, d3, d4, d5] }
  | _ => none }
def claimsHolderRow : OpenClaim := { program := "ytfbgkcadnmcakaa", sum := "32fb8d98e9f7ba85c7fe4bed5df37713b2f9d1705f5e58917f2c2d25cab9ac59", func := "cohousing/cohousinglaw37.ClaimsHolder", spec := "claimsHolder", unfollowed := true, recurses := true, apart := false }
def ClaimsHolderSaid : Prop := claimsHolderRow.holds Try.pinned (OpenSpec.ofChange claimsHolderSpec)

/-- ITS FALSE NEIGHBOUR: 'it returns false'. Refute it at one input. -/
def claimsHolderWrong : ChangeSpec := { name := "claimsHolder", fn := fun _ => fun
  | [d1, d2, d3, d4, d5] => { results := [.lit (.bool false)], args := [d1, d2, d3, d4, d5] }
  | _ => none }
def ClaimsHolderWrongFalsely : Prop := claimsHolderRow.holds Try.pinned (OpenSpec.ofChange claimsHolderWrong)

/-- 'cohousinglaw37.ClaimsOnce': WHATEVER THE INPUT: true; the input reads as it did. -/
def claimsOnceSpec : ChangeSpec := { name := "claimsOnce", fn := fun _ => fun
  | [d1, d2, d3, d4, d5, d6] => { results := [.lit (.bool true)], args := [d1, d2, d3, d4, d5, d6] }
  | _ => none }
def claimsOnceRow : OpenClaim := { program := "ytfbgkcadnmcakaa", sum := "32fb8d98e9f7ba85c7fe4bed5df37713b2f9d1705f5e58917f2c2d25cab9ac59", func := "cohousing/cohousinglaw37.ClaimsOnce", spec := "claimsOnce", unfollowed := true, recurses := true, apart := false }
def ClaimsOnceSaid : Prop := claimsOnceRow.holds Try.pinned (OpenSpec.ofChange claimsOnceSpec)

/-- ITS FALSE NEIGHBOUR: 'it returns false'. Refute it at one input. -/
def claimsOnceWrong : ChangeSpec := { name := "claimsOnce", fn := fun _ => fun
  | [d1, d2, d3, d4, d5, d6] => { results := [.lit (.bool false)], args := [d1, d2, d3, d4, d5, d6] }
  | _ => none }
def ClaimsOnceWrongFalsely : Prop := claimsOnceRow.holds Try.pinned (OpenSpec.ofChange claimsOnceWrong)

/- THE SECOND FORM. 'bulk': how many values and letters a reading holds, each counted each time it is reached (what is shared counts as often as it is met; a slice's spare places count too). A statement '..UptoSaid' is the law's where the arguments, and the package variables that the reading takes, are together of bulk at most 1048576: NARROWER than '..Said'. Prove '..Said' where nothing that the law and all that it calls make is longer than what came in: it says more and counts as full. Else prove '..UptoSaid'. A law counts once. -/
mutual
def uptoBulk {H : Type} : DataW H → Nat
  | .lit (.string bytes) => bytes.length + 1
  | .lit _ => 1
  | .nil => 1
  | .ptr d => uptoBulk d + 1
  | .slice elems spare => uptoBulkAll elems + uptoBulkAll spare + 1
  | .agg parts => uptoBulkAll parts + 1
  | .iface _ d => uptoBulk d + 1
  | .map entries => uptoBulkEntries entries + 1
  | .held _ => 1
def uptoBulkAll {H : Type} : List (DataW H) → Nat
  | [] => 0
  | d :: r => uptoBulk d + uptoBulkAll r
def uptoBulkEntries {H : Type} : List (Lit × DataW H) → Nat
  | [] => 0
  | x :: r => uptoBulkEntry x + uptoBulkEntries r
def uptoBulkEntry {H : Type} : Lit × DataW H → Nat
  | (.string bytes, d) => bytes.length + uptoBulk d + 1
  | (_, d) => uptoBulk d + 1
 end
def uptoSmall : (H : Type) → List (DataW H) → Bool := fun _ ds => decide (uptoBulkAll ds ≤ 1048576)
def OpenSpec.upto (s : _root_.Go.ChangeSpec) : _root_.Go.OpenSpec := { _root_.Go.OpenSpec.ofChange s with cond := some uptoSmall }

/-- 'cohousinglaw37.ClaimsTransfer', WHERE WHAT IT READS IS OF BULK AT MOST 1048576: true; the input reads as it did. -/
def claimsTransferUptoRow : OpenClaim := { program := "ytfbgkcadnmcakaa", sum := "32fb8d98e9f7ba85c7fe4bed5df37713b2f9d1705f5e58917f2c2d25cab9ac59", func := "cohousing/cohousinglaw37.ClaimsTransfer", spec := "claimsTransfer", unfollowed := true, recurses := true, apart := false, narrowed := true }
def ClaimsTransferUptoSaid : Prop := claimsTransferUptoRow.holds Try.pinned (OpenSpec.upto claimsTransferSpec)

/-- 'cohousinglaw37.ClaimsCover', WHERE WHAT IT READS IS OF BULK AT MOST 1048576: true; the input reads as it did. -/
def claimsCoverUptoRow : OpenClaim := { program := "ytfbgkcadnmcakaa", sum := "32fb8d98e9f7ba85c7fe4bed5df37713b2f9d1705f5e58917f2c2d25cab9ac59", func := "cohousing/cohousinglaw37.ClaimsCover", spec := "claimsCover", unfollowed := true, recurses := true, apart := false, narrowed := true }
def ClaimsCoverUptoSaid : Prop := claimsCoverUptoRow.holds Try.pinned (OpenSpec.upto claimsCoverSpec)

/-- 'cohousinglaw37.ClaimsMatchesReference', WHERE WHAT IT READS IS OF BULK AT MOST 1048576: true; the input reads as it did. -/
def claimsMatchesReferenceUptoRow : OpenClaim := { program := "ytfbgkcadnmcakaa", sum := "32fb8d98e9f7ba85c7fe4bed5df37713b2f9d1705f5e58917f2c2d25cab9ac59", func := "cohousing/cohousinglaw37.ClaimsMatchesReference", spec := "claimsMatchesReference", unfollowed := true, recurses := true, apart := false, narrowed := true }
def ClaimsMatchesReferenceUptoSaid : Prop := claimsMatchesReferenceUptoRow.holds Try.pinned (OpenSpec.upto claimsMatchesReferenceSpec)

/-- 'cohousinglaw37.ClaimsHolder', WHERE WHAT IT READS IS OF BULK AT MOST 1048576: true; the input reads as it did. -/
def claimsHolderUptoRow : OpenClaim := { program := "ytfbgkcadnmcakaa", sum := "32fb8d98e9f7ba85c7fe4bed5df37713b2f9d1705f5e58917f2c2d25cab9ac59", func := "cohousing/cohousinglaw37.ClaimsHolder", spec := "claimsHolder", unfollowed := true, recurses := true, apart := false, narrowed := true }
def ClaimsHolderUptoSaid : Prop := claimsHolderUptoRow.holds Try.pinned (OpenSpec.upto claimsHolderSpec)

/-- 'cohousinglaw37.ClaimsOnce', WHERE WHAT IT READS IS OF BULK AT MOST 1048576: true; the input reads as it did. -/
def claimsOnceUptoRow : OpenClaim := { program := "ytfbgkcadnmcakaa", sum := "32fb8d98e9f7ba85c7fe4bed5df37713b2f9d1705f5e58917f2c2d25cab9ac59", func := "cohousing/cohousinglaw37.ClaimsOnce", spec := "claimsOnce", unfollowed := true, recurses := true, apart := false, narrowed := true }
def ClaimsOnceUptoSaid : Prop := claimsOnceUptoRow.holds Try.pinned (OpenSpec.upto claimsOnceSpec)

end Rows
end Go.Proofs.Ytfbgkcadnmcakaa
