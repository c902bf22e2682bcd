-- Printed for this session by a program of its own over an edited copy of the translation's print.
import Derived.Test.YtenkaaigalcgcaaProg
import Derived.Below
import Derived.Deep.Draws
import Derived.Deep.AppendLies
import Derived.Maps.AppendAt
import Derived.OwnWalk
import Derived.Laws.BytesArg
import Derived.Laws.MakeOwn
import Derived.Laws.OwnMore
import Derived.Deep.OwnRows
import Derived.Tactics
import Derived.Lib.ConvBytes
import Derived.Laws.Slices
import Derived.WalkKit
import Derived.KernelRfl
import Derived.RowKit3
import Derived.Deep.LoopGhost
import Derived.Deep.QuietTactic
import Derived.BigQuiet
import Derived.WideLaws
import Derived.Deep.DeepCutAuto
import Derived.Deep.CutBlock
import Derived.Deep.RegionHeld3
import Derived.Laws.Rows
import Derived.Lib.AppendStr
import Derived.ArgAppend
import Derived.Laws.IdiomCopy
import Derived.OrdersHeld
import Derived.Laws.BitsLemmas
import Derived.RowKit
import Derived.Test.YtenkaaigalcgcaaWWords
import Derived.Test.YtenkaaigalcgcaaWLast
import Derived.Test.YtenkaaigalcgcaaWTab
import Derived.Test.YtenkaaigalcgcaaWFour
import Derived.Test.YtenkaaigalcgcaaWQPut
import Derived.Test.YtenkaaigalcgcaaWApart
import Derived.Test.YtenkaaigalcgcaaWArr
import Derived.Test.YtenkaaigalcgcaaWZeros
import Derived.Test.YtenkaaigalcgcaaWFoot
import Derived.Test.YtenkaaigalcgcaaWKept
import Derived.Test.YtenkaaigalcgcaaWShare
import Derived.Test.YtenkaaigalcgcaaWN
import Derived.Test.YtenkaaigalcgcaaWFootNe
import Derived.Test.YtenkaaigalcgcaaWAt
import Derived.Test.YtenkaaigalcgcaaWEqStruct
import Derived.Test.YtenkaaigalcgcaaWRepsOne
import Derived.Test.YtenkaaigalcgcaaWInv
import Derived.Test.YtenkaaigalcgcaaWInvWords
import Derived.Test.YtenkaaigalcgcaaWGuard
import Derived.Test.YtenkaaigalcgcaaWNEv
import Derived.Test.YtenkaaigalcgcaaWMore
namespace Go.Proofs.Ytenkaaigalcgcaa.X
open Go.RowKit Go.Proofs.YtenkaaigalcgcaaW.PrintWords Go.Proofs.YtenkaaigalcgcaaW.PrintLast Go.Proofs.YtenkaaigalcgcaaW.PrintMore
attribute [local go_sem] max2_int min2_int max_two min_two max_three min_three max_four min_four   -- for this text's walks alone
set_option linter.unusedVariables false
set_option linter.unusedSimpArgs false



def errW : Option Int → Value
  | none => .nilIface
  | some c => .iface 0 (.int .i64 c)
theorem errW_none : errW none = .nilIface := rfl
theorem errW_some (c : Int) : errW (some c) = .iface 0 (.int .i64 c) := rfl

theorem info38 : (Try.prog.info? 38).map (fun i => (i.zero, i.size, i.bytes)) = some (some (.int .u32 0), 1, 4) := by kernel_rfl
-- the values' own types

end Go.Proofs.Ytenkaaigalcgcaa.X
