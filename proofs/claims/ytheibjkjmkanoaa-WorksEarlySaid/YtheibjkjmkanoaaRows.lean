/-
  No cell of these rows narrows 'for every input' (looked for: loops, veiled, ifaces, maps, wideKeys, modest, calm, conditions, laid).
  DERIVED. THE GIVEN ROWS OF THIS SEAT. 7 by the template 'for every input the law returns true; each argument reads behind the call as it read before'; 0 by the template 'total and deterministic' (their statements: YtheibjkjmkanoaaTotals.lean).
  GIVEN WITH THE SEED: the statements are not yours to turn. If you find one false, say at which input.
  Laid BY PROGRAM, IN A SANDBOX (cutbox-rows.mjs): the forced cells as the released guide's own fill.sh prints them over the translation fc7d994968d83a89… (all of the seat's roots in one cut). By AI agents, Wed Nov 11 2026. No macro, syntax, notation, axiom, sorry.
-/
import Derived.Test.YtheibjkjmkanoaaChecked
import GoSem.Claim
import GoSem.ClaimJoined
import GoSem.ClaimMapViews
import Derived.JoinedTies
import Derived.KernelRfl
namespace Go.Proofs.Ytheibjkjmkanoaa
/- THE CELL 'sum', in the pinned program and in every row, IS THE sha256 OF THE DUMP (.gsa) THAT YtheibjkjmkanoaaProg.lean LOADS. Nothing in Lean hashes anything: it is a label: what it is worth is what the hold of that sum in a sandbox is worth. -/
noncomputable def Try.pinned : Pinned := { name := "ytheibjkjmkanoaa", sum := "fc7d994968d83a89af742aa524365be75446c2a049f48277ee637496e8c2ad46", checked := Try.checked }
namespace Rows
def none {H : Type} : Left H := { results := [], args := [] }

/-- 'cohousinglaw38.WorksMatchesReference': WHATEVER THE INPUT: true; the input reads as it did. -/
def worksMatchesReferenceSpec : ChangeSpec := { name := "worksMatchesReference", fn := fun _ => fun
  | [d1, d2, d3, d4, d5, d6] => { results := [.lit (.bool true)], args := [d1, d2, d3, d4, d5, d6] }
  | _ => none }
def worksMatchesReferenceRow : OpenClaim := { program := "ytheibjkjmkanoaa", sum := "fc7d994968d83a89af742aa524365be75446c2a049f48277ee637496e8c2ad46", func := "cohousing/cohousinglaw38.WorksMatchesReference", spec := "worksMatchesReference", unfollowed := true, recurses := true, apart := false }
def WorksMatchesReferenceSaid : Prop := worksMatchesReferenceRow.holds Try.pinned (OpenSpec.ofChange worksMatchesReferenceSpec)

/-- ITS FALSE NEIGHBOUR: 'it returns false'. Refute it at one input. -/
def worksMatchesReferenceWrong : ChangeSpec := { name := "worksMatchesReference", fn := fun _ => fun
  | [d1, d2, d3, d4, d5, d6] => { results := [.lit (.bool false)], args := [d1, d2, d3, d4, d5, d6] }
  | _ => none }
def WorksMatchesReferenceWrongFalsely : Prop := worksMatchesReferenceRow.holds Try.pinned (OpenSpec.ofChange worksMatchesReferenceWrong)

/-- 'cohousinglaw38.WorksRight': WHATEVER THE INPUT: true; the input reads as it did. -/
def worksRightSpec : ChangeSpec := { name := "worksRight", fn := fun _ => fun
  | [d1, d2, d3] => { results := [.lit (.bool true)], args := [d1, d2, d3] }
  | _ => none }
def worksRightRow : OpenClaim := { program := "ytheibjkjmkanoaa", sum := "fc7d994968d83a89af742aa524365be75446c2a049f48277ee637496e8c2ad46", func := "cohousing/cohousinglaw38.WorksRight", spec := "worksRight", unfollowed := true, recurses := true, apart := false }
def WorksRightSaid : Prop := worksRightRow.holds Try.pinned (OpenSpec.ofChange worksRightSpec)

/-- ITS FALSE NEIGHBOUR: 'it returns false'. Refute it at one input. -/
def worksRightWrong : ChangeSpec := { name := "worksRight", fn := fun _ => fun
  | [d1, d2, d3] => { results := [.lit (.bool false)], args := [d1, d2, d3] }
  | _ => none }
def WorksRightWrongFalsely : Prop := worksRightRow.holds Try.pinned (OpenSpec.ofChange worksRightWrong)

/-- 'cohousinglaw38.WorksEarly': WHATEVER THE INPUT: true; the input reads as it did. -/
def worksEarlySpec : ChangeSpec := { name := "worksEarly", fn := fun _ => fun
  | [d1, d2, d3, d4, d5] => { results := [.lit (.bool true)], args := [d1, d2, d3, d4, d5] }
  | _ => none }
def worksEarlyRow : OpenClaim := { program := "ytheibjkjmkanoaa", sum := "fc7d994968d83a89af742aa524365be75446c2a049f48277ee637496e8c2ad46", func := "cohousing/cohousinglaw38.WorksEarly", spec := "worksEarly", unfollowed := true, recurses := true, apart := false }
def WorksEarlySaid : Prop := worksEarlyRow.holds Try.pinned (OpenSpec.ofChange worksEarlySpec)

/-- ITS FALSE NEIGHBOUR: 'it returns false'. Refute it at one input. -/
def worksEarlyWrong : ChangeSpec := { name := "worksEarly", fn := fun _ => fun
  | [d1, d2, d3, d4, d5] => { results := [.lit (.bool false)], args := [d1, d2, d3, d4, d5] }
  | _ => none }
def WorksEarlyWrongFalsely : Prop := worksEarlyRow.holds Try.pinned (OpenSpec.ofChange worksEarlyWrong)

/-- 'cohousinglaw38.WorksAgain': WHATEVER THE INPUT: true; the input reads as it did. -/
def worksAgainSpec : ChangeSpec := { name := "worksAgain", fn := fun _ => fun
  | [d1, d2, d3, d4, d5] => { results := [.lit (.bool true)], args := [d1, d2, d3, d4, d5] }
  | _ => none }
def worksAgainRow : OpenClaim := { program := "ytheibjkjmkanoaa", sum := "fc7d994968d83a89af742aa524365be75446c2a049f48277ee637496e8c2ad46", func := "cohousing/cohousinglaw38.WorksAgain", spec := "worksAgain", unfollowed := true, recurses := true, apart := false }
def WorksAgainSaid : Prop := worksAgainRow.holds Try.pinned (OpenSpec.ofChange worksAgainSpec)

/-- ITS FALSE NEIGHBOUR: 'it returns false'. Refute it at one input. -/
def worksAgainWrong : ChangeSpec := { name := "worksAgain", fn := fun _ => fun
  | [d1, d2, d3, d4, d5] => { results := [.lit (.bool false)], args := [d1, d2, d3, d4, d5] }
  | _ => none }
def WorksAgainWrongFalsely : Prop := worksAgainRow.holds Try.pinned (OpenSpec.ofChange worksAgainWrong)

/-- 'cohousinglaw38.WorksNothingBegun': WHATEVER THE INPUT: true; the input reads as it did. -/
def worksNothingBegunSpec : ChangeSpec := { name := "worksNothingBegun", fn := fun _ => fun
  | [d1, d2, d3, d4] => { results := [.lit (.bool true)], args := [d1, d2, d3, d4] }
  | _ => none }
def worksNothingBegunRow : OpenClaim := { program := "ytheibjkjmkanoaa", sum := "fc7d994968d83a89af742aa524365be75446c2a049f48277ee637496e8c2ad46", func := "cohousing/cohousinglaw38.WorksNothingBegun", spec := "worksNothingBegun", unfollowed := true, recurses := true, apart := false }
def WorksNothingBegunSaid : Prop := worksNothingBegunRow.holds Try.pinned (OpenSpec.ofChange worksNothingBegunSpec)

/-- ITS FALSE NEIGHBOUR: 'it returns false'. Refute it at one input. -/
def worksNothingBegunWrong : ChangeSpec := { name := "worksNothingBegun", fn := fun _ => fun
  | [d1, d2, d3, d4] => { results := [.lit (.bool false)], args := [d1, d2, d3, d4] }
  | _ => none }
def WorksNothingBegunWrongFalsely : Prop := worksNothingBegunRow.holds Try.pinned (OpenSpec.ofChange worksNothingBegunWrong)

/-- 'cohousinglaw38.WorksRooms': WHATEVER THE INPUT: true; the input reads as it did. -/
def worksRoomsSpec : ChangeSpec := { name := "worksRooms", fn := fun _ => fun
  | [d1, d2, d3, d4] => { results := [.lit (.bool true)], args := [d1, d2, d3, d4] }
  | _ => none }
def worksRoomsRow : OpenClaim := { program := "ytheibjkjmkanoaa", sum := "fc7d994968d83a89af742aa524365be75446c2a049f48277ee637496e8c2ad46", func := "cohousing/cohousinglaw38.WorksRooms", spec := "worksRooms", unfollowed := true, recurses := true, apart := false }
def WorksRoomsSaid : Prop := worksRoomsRow.holds Try.pinned (OpenSpec.ofChange worksRoomsSpec)

/-- ITS FALSE NEIGHBOUR: 'it returns false'. Refute it at one input. -/
def worksRoomsWrong : ChangeSpec := { name := "worksRooms", fn := fun _ => fun
  | [d1, d2, d3, d4] => { results := [.lit (.bool false)], args := [d1, d2, d3, d4] }
  | _ => none }
def WorksRoomsWrongFalsely : Prop := worksRoomsRow.holds Try.pinned (OpenSpec.ofChange worksRoomsWrong)

/-- 'cohousinglaw38.WorksBeginnings': WHATEVER THE INPUT: true; the input reads as it did. -/
def worksBeginningsSpec : ChangeSpec := { name := "worksBeginnings", fn := fun _ => fun
  | [d1, d2, d3, d4] => { results := [.lit (.bool true)], args := [d1, d2, d3, d4] }
  | _ => none }
def worksBeginningsRow : OpenClaim := { program := "ytheibjkjmkanoaa", sum := "fc7d994968d83a89af742aa524365be75446c2a049f48277ee637496e8c2ad46", func := "cohousing/cohousinglaw38.WorksBeginnings", spec := "worksBeginnings", unfollowed := true, recurses := true, apart := false }
def WorksBeginningsSaid : Prop := worksBeginningsRow.holds Try.pinned (OpenSpec.ofChange worksBeginningsSpec)

/-- ITS FALSE NEIGHBOUR: 'it returns false'. Refute it at one input. -/
def worksBeginningsWrong : ChangeSpec := { name := "worksBeginnings", fn := fun _ => fun
  | [d1, d2, d3, d4] => { results := [.lit (.bool false)], args := [d1, d2, d3, d4] }
  | _ => none }
def WorksBeginningsWrongFalsely : Prop := worksBeginningsRow.holds Try.pinned (OpenSpec.ofChange worksBeginningsWrong)

/- THE SECOND FORM. 'bulk': how many values and letters a reading holds, each counted each time it is reached (what is shared counts as often as it is met; a slice's spare places count too). A statement '..UptoSaid' is the law's where the arguments, and the package variables that the reading takes, are together of bulk at most 1048576: NARROWER than '..Said'. Prove '..Said' where nothing that the law and all that it calls make is longer than what came in: it says more and counts as full. Else prove '..UptoSaid'. A law counts once. -/
mutual
def uptoBulk {H : Type} : DataW H → Nat
  | .lit (.string bytes) => bytes.length + 1
  | .lit _ => 1
  | .nil => 1
  | .ptr d => uptoBulk d + 1
  | .slice elems spare => uptoBulkAll elems + uptoBulkAll spare + 1
  | .agg parts => uptoBulkAll parts + 1
  | .iface _ d => uptoBulk d + 1
  | .map entries => uptoBulkEntries entries + 1
  | .held _ => 1
def uptoBulkAll {H : Type} : List (DataW H) → Nat
  | [] => 0
  | d :: r => uptoBulk d + uptoBulkAll r
def uptoBulkEntries {H : Type} : List (Lit × DataW H) → Nat
  | [] => 0
  | x :: r => uptoBulkEntry x + uptoBulkEntries r
def uptoBulkEntry {H : Type} : Lit × DataW H → Nat
  | (.string bytes, d) => bytes.length + uptoBulk d + 1
  | (_, d) => uptoBulk d + 1
 end
def uptoSmall : (H : Type) → List (DataW H) → Bool := fun _ ds => decide (uptoBulkAll ds ≤ 1048576)
def OpenSpec.upto (s : _root_.Go.ChangeSpec) : _root_.Go.OpenSpec := { _root_.Go.OpenSpec.ofChange s with cond := some uptoSmall }

/-- 'cohousinglaw38.WorksMatchesReference', WHERE WHAT IT READS IS OF BULK AT MOST 1048576: true; the input reads as it did. -/
def worksMatchesReferenceUptoRow : OpenClaim := { program := "ytheibjkjmkanoaa", sum := "fc7d994968d83a89af742aa524365be75446c2a049f48277ee637496e8c2ad46", func := "cohousing/cohousinglaw38.WorksMatchesReference", spec := "worksMatchesReference", unfollowed := true, recurses := true, apart := false, narrowed := true }
def WorksMatchesReferenceUptoSaid : Prop := worksMatchesReferenceUptoRow.holds Try.pinned (OpenSpec.upto worksMatchesReferenceSpec)

/-- 'cohousinglaw38.WorksRight', WHERE WHAT IT READS IS OF BULK AT MOST 1048576: true; the input reads as it did. -/
def worksRightUptoRow : OpenClaim := { program := "ytheibjkjmkanoaa", sum := "fc7d994968d83a89af742aa524365be75446c2a049f48277ee637496e8c2ad46", func := "cohousing/cohousinglaw38.WorksRight", spec := "worksRight", unfollowed := true, recurses := true, apart := false, narrowed := true }
def WorksRightUptoSaid : Prop := worksRightUptoRow.holds Try.pinned (OpenSpec.upto worksRightSpec)

/-- 'cohousinglaw38.WorksEarly', WHERE WHAT IT READS IS OF BULK AT MOST 1048576: true; the input reads as it did. -/
def worksEarlyUptoRow : OpenClaim := { program := "ytheibjkjmkanoaa", sum := "fc7d994968d83a89af742aa524365be75446c2a049f48277ee637496e8c2ad46", func := "cohousing/cohousinglaw38.WorksEarly", spec := "worksEarly", unfollowed := true, recurses := true, apart := false, narrowed := true }
def WorksEarlyUptoSaid : Prop := worksEarlyUptoRow.holds Try.pinned (OpenSpec.upto worksEarlySpec)

/-- 'cohousinglaw38.WorksAgain', WHERE WHAT IT READS IS OF BULK AT MOST 1048576: true; the input reads as it did. -/
def worksAgainUptoRow : OpenClaim := { program := "ytheibjkjmkanoaa", sum := "fc7d994968d83a89af742aa524365be75446c2a049f48277ee637496e8c2ad46", func := "cohousing/cohousinglaw38.WorksAgain", spec := "worksAgain", unfollowed := true, recurses := true, apart := false, narrowed := true }
def WorksAgainUptoSaid : Prop := worksAgainUptoRow.holds Try.pinned (OpenSpec.upto worksAgainSpec)

/-- 'cohousinglaw38.WorksNothingBegun', WHERE WHAT IT READS IS OF BULK AT MOST 1048576: true; the input reads as it did. -/
def worksNothingBegunUptoRow : OpenClaim := { program := "ytheibjkjmkanoaa", sum := "fc7d994968d83a89af742aa524365be75446c2a049f48277ee637496e8c2ad46", func := "cohousing/cohousinglaw38.WorksNothingBegun", spec := "worksNothingBegun", unfollowed := true, recurses := true, apart := false, narrowed := true }
def WorksNothingBegunUptoSaid : Prop := worksNothingBegunUptoRow.holds Try.pinned (OpenSpec.upto worksNothingBegunSpec)

/-- 'cohousinglaw38.WorksRooms', WHERE WHAT IT READS IS OF BULK AT MOST 1048576: true; the input reads as it did. -/
def worksRoomsUptoRow : OpenClaim := { program := "ytheibjkjmkanoaa", sum := "fc7d994968d83a89af742aa524365be75446c2a049f48277ee637496e8c2ad46", func := "cohousing/cohousinglaw38.WorksRooms", spec := "worksRooms", unfollowed := true, recurses := true, apart := false, narrowed := true }
def WorksRoomsUptoSaid : Prop := worksRoomsUptoRow.holds Try.pinned (OpenSpec.upto worksRoomsSpec)

/-- 'cohousinglaw38.WorksBeginnings', WHERE WHAT IT READS IS OF BULK AT MOST 1048576: true; the input reads as it did. -/
def worksBeginningsUptoRow : OpenClaim := { program := "ytheibjkjmkanoaa", sum := "fc7d994968d83a89af742aa524365be75446c2a049f48277ee637496e8c2ad46", func := "cohousing/cohousinglaw38.WorksBeginnings", spec := "worksBeginnings", unfollowed := true, recurses := true, apart := false, narrowed := true }
def WorksBeginningsUptoSaid : Prop := worksBeginningsUptoRow.holds Try.pinned (OpenSpec.upto worksBeginningsSpec)

end Rows
end Go.Proofs.Ytheibjkjmkanoaa
