-- Printed for this session by a program of its own over an edited copy of the translation's print.
import Derived.Test.YtghafocfbamcdaaProg
import Derived.Below
import Derived.Deep.Draws
import Derived.Deep.AppendLies
import Derived.Maps.AppendAt
import Derived.OwnWalk
import Derived.Laws.BytesArg
import Derived.Laws.MakeOwn
import Derived.Laws.OwnMore
import Derived.Deep.OwnRows
import Derived.Tactics
import Derived.Lib.ConvBytes
import Derived.Laws.Slices
import Derived.WalkKit
import Derived.KernelRfl
import Derived.RowKit3
import Derived.Deep.LoopGhost
import Derived.Deep.QuietTactic
import Derived.BigQuiet
import Derived.WideLaws
import Derived.Deep.DeepCutAuto
import Derived.Deep.CutBlock
import Derived.Deep.RegionHeld3
import Derived.Laws.Rows
import Derived.Lib.AppendStr
import Derived.ArgAppend
import Derived.Laws.IdiomCopy
import Derived.OrdersHeld
import Derived.Laws.BitsLemmas
import Derived.RowKit
import Derived.WalkMore
import Derived.Test.YtghafocfbamcdaaWWords
import Derived.Test.YtghafocfbamcdaaWLast
import Derived.Test.YtghafocfbamcdaaWTab
import Derived.Test.YtghafocfbamcdaaWFour
import Derived.Test.YtghafocfbamcdaaWQPut
import Derived.Test.YtghafocfbamcdaaWApart
import Derived.Test.YtghafocfbamcdaaWArr
import Derived.Test.YtghafocfbamcdaaWZeros
import Derived.Test.YtghafocfbamcdaaWFoot
import Derived.Test.YtghafocfbamcdaaWKept
import Derived.Test.YtghafocfbamcdaaWShare
import Derived.Test.YtghafocfbamcdaaWN
import Derived.Test.YtghafocfbamcdaaWFootNe
import Derived.Test.YtghafocfbamcdaaWAt
import Derived.Test.YtghafocfbamcdaaWEqStruct
import Derived.Test.YtghafocfbamcdaaWRepsOne
import Derived.Test.YtghafocfbamcdaaWInv
import Derived.Test.YtghafocfbamcdaaWInvWords
import Derived.Test.YtghafocfbamcdaaWGuard
import Derived.Test.YtghafocfbamcdaaWNEv
import Derived.Test.YtghafocfbamcdaaWMore
namespace Go.Proofs.Ytghafocfbamcdaa.X
open Go.RowKit Go.Proofs.YtghafocfbamcdaaW.PrintWords Go.Proofs.YtghafocfbamcdaaW.PrintLast Go.Proofs.YtghafocfbamcdaaW.PrintMore
attribute [local go_sem] max2_int min2_int max_two min_two max_three min_three max_four min_four   -- for this text's walks alone
set_option linter.unusedVariables false
set_option linter.unusedSimpArgs false



def errW : Option Int → Value
  | none => .nilIface
  | some c => .iface 0 (.int .i64 c)
theorem errW_none : errW none = .nilIface := rfl
theorem errW_some (c : Int) : errW (some c) = .iface 0 (.int .i64 c) := rfl

theorem info5 : (Try.prog.info? 5).map (fun i => (i.zero, i.size, i.bytes)) = some (some (.int .u8 0), 1, 1) := by kernel_rfl
-- the values' own types

end Go.Proofs.Ytghafocfbamcdaa.X
