/- Small lemmas that our printed contracts lean on. Conditions: as each theorem states. -/
import Derived.Test.YtjkpojedegmciaaDoorProg
import Derived.Test.YtjkpojedegmciaaDoorWWords
namespace Go.Proofs.YtjkpojedegmciaaDoor.Given
open Go.RowKit Go.Proofs.YtjkpojedegmciaaDoorW.PrintWords
/-- A row's length, told otherwise. -/
theorem row_len_ {α : Type} {R : α → List Value → Prop} {sz : Nat} {w : World} {A : Option Addr} {n m : Nat} {xs : List α} (h : n = m) (k : ReadsRow R sz w A n xs) : ReadsRow R sz w A m xs := h ▸ k
end Go.Proofs.YtjkpojedegmciaaDoor.Given
