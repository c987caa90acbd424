/- Contracts of Go functions, written by a program of this session's own (wip/tools/myprint.py) out of the translation: each Go function does what the Lean function of its name says. Conditions: as each theorem states. -/
import Derived.Test.YtjkpojedegmciaaDoorProg
import Derived.Below
import Derived.Deep.Draws
import Derived.Deep.AppendLies
import Derived.Maps.AppendAt
import Derived.OwnWalk
import Derived.Laws.BytesArg
import Derived.Laws.MakeOwn
import Derived.Laws.OwnMore
import Derived.Deep.OwnRows
import Derived.Tactics
import Derived.Lib.ConvBytes
import Derived.Laws.Slices
import Derived.WalkKit
import Derived.KernelRfl
import Derived.RowKit3
import Derived.Deep.LoopGhost
import Derived.Deep.QuietTactic
import Derived.BigQuiet
import Derived.WideLaws
import Derived.Deep.DeepCutAuto
import Derived.Deep.CutBlock
import Derived.Deep.RegionHeld3
import Derived.Laws.Rows
import Derived.Lib.AppendStr
import Derived.ArgAppend
import Derived.Laws.IdiomCopy
import Derived.OrdersHeld
import Derived.Laws.BitsLemmas
import Derived.RowKit
import Derived.Test.YtjkpojedegmciaaDoorGTab
import Derived.Test.YtjkpojedegmciaaDoorWWords
import Derived.Test.YtjkpojedegmciaaDoorWLast
import Derived.Test.YtjkpojedegmciaaDoorWTab
import Derived.Test.YtjkpojedegmciaaDoorWFour
import Derived.Test.YtjkpojedegmciaaDoorWQPut
import Derived.Test.YtjkpojedegmciaaDoorWApart
import Derived.Test.YtjkpojedegmciaaDoorWArr
import Derived.Test.YtjkpojedegmciaaDoorWZeros
import Derived.Test.YtjkpojedegmciaaDoorWFoot
import Derived.Test.YtjkpojedegmciaaDoorWKept
import Derived.Test.YtjkpojedegmciaaDoorWShare
import Derived.Test.YtjkpojedegmciaaDoorWN
import Derived.Test.YtjkpojedegmciaaDoorWFootNe
import Derived.Test.YtjkpojedegmciaaDoorWAt
import Derived.Test.YtjkpojedegmciaaDoorWEqStruct
import Derived.Test.YtjkpojedegmciaaDoorWRepsOne
import Derived.Test.YtjkpojedegmciaaDoorWInv
import Derived.Test.YtjkpojedegmciaaDoorWInvWords
import Derived.Test.YtjkpojedegmciaaDoorWGuard
import Derived.Test.YtjkpojedegmciaaDoorWNEv
import Derived.Test.YtjkpojedegmciaaDoorWMore
namespace Go.Proofs.YtjkpojedegmciaaDoor.Px
open Go.Proofs.YtjkpojedegmciaaDoor.Given
open Go.RowKit Go.Proofs.YtjkpojedegmciaaDoorW.PrintWords Go.Proofs.YtjkpojedegmciaaDoorW.PrintLast Go.Proofs.YtjkpojedegmciaaDoorW.PrintMore
attribute [local go_sem] max2_int min2_int max_two min_two max_three min_three max_four min_four   -- for this text's walks alone
set_option linter.unusedVariables false
set_option linter.unusedSimpArgs false



def errW : Option Int → Value
  | none => .nilIface
  | some c => .iface 0 (.int .i64 c)
theorem errW_none : errW none = .nilIface := rfl
theorem errW_some (c : Int) : errW (some c) = .iface 0 (.int .i64 c) := rfl

theorem info3 : (Tryd.prog.info? 3).map (fun i => (i.zero, i.size, i.bytes)) = some (some (.int .i64 0), 1, 8) := by kernel_rfl
-- the values' own types

end Go.Proofs.YtjkpojedegmciaaDoor.Px
