-- Printed for this session by a program of its own over an edited copy of the translation's print.
import Derived.Test.YtkicolloiagadaaProg
import Derived.Below
import Derived.Deep.Draws
import Derived.Deep.AppendLies
import Derived.Maps.AppendAt
import Derived.OwnWalk
import Derived.Laws.BytesArg
import Derived.Laws.MakeOwn
import Derived.Laws.OwnMore
import Derived.Deep.OwnRows
import Derived.Tactics
import Derived.Lib.ConvBytes
import Derived.Laws.Slices
import Derived.WalkKit
import Derived.KernelRfl
import Derived.RowKit3
import Derived.Deep.LoopGhost
import Derived.Deep.QuietTactic
import Derived.BigQuiet
import Derived.WideLaws
import Derived.Deep.DeepCutAuto
import Derived.Deep.CutBlock
import Derived.Deep.RegionHeld3
import Derived.Laws.Rows
import Derived.Lib.AppendStr
import Derived.ArgAppend
import Derived.Laws.IdiomCopy
import Derived.OrdersHeld
import Derived.Laws.BitsLemmas
import Derived.RowKit
import Derived.Test.YtkicolloiagadaaWWords
import Derived.Test.YtkicolloiagadaaWLast
import Derived.Test.YtkicolloiagadaaWTab
import Derived.Test.YtkicolloiagadaaWFour
import Derived.Test.YtkicolloiagadaaWQPut
import Derived.Test.YtkicolloiagadaaWApart
import Derived.Test.YtkicolloiagadaaWArr
import Derived.Test.YtkicolloiagadaaWZeros
import Derived.Test.YtkicolloiagadaaWFoot
import Derived.Test.YtkicolloiagadaaWKept
import Derived.Test.YtkicolloiagadaaWShare
import Derived.Test.YtkicolloiagadaaWN
import Derived.Test.YtkicolloiagadaaWFootNe
import Derived.Test.YtkicolloiagadaaWAt
import Derived.Test.YtkicolloiagadaaWEqStruct
import Derived.Test.YtkicolloiagadaaWRepsOne
import Derived.Test.YtkicolloiagadaaWInv
import Derived.Test.YtkicolloiagadaaWInvWords
import Derived.Test.YtkicolloiagadaaWGuard
import Derived.Test.YtkicolloiagadaaWNEv
import Derived.Test.YtkicolloiagadaaWMore
namespace Go.Proofs.Ytkicolloiagadaa.X
open Go.RowKit Go.Proofs.YtkicolloiagadaaW.PrintWords Go.Proofs.YtkicolloiagadaaW.PrintLast Go.Proofs.YtkicolloiagadaaW.PrintMore
attribute [local go_sem] max2_int min2_int max_two min_two max_three min_three max_four min_four   -- for this text's walks alone
set_option linter.unusedVariables false
set_option linter.unusedSimpArgs false



def errW : Option Int → Value
  | none => .nilIface
  | some c => .iface 0 (.int .i64 c)
theorem errW_none : errW none = .nilIface := rfl
theorem errW_some (c : Int) : errW (some c) = .iface 0 (.int .i64 c) := rfl

theorem info5 : (Try.prog.info? 5).map (fun i => (i.zero, i.size, i.bytes)) = some (some (.int .u8 0), 1, 1) := by kernel_rfl
theorem info22 : (Try.prog.info? 22).map (fun i => (i.zero, i.size, i.bytes)) = some (some (.int .u32 0), 1, 4) := by kernel_rfl
-- the values' own types

end Go.Proofs.Ytkicolloiagadaa.X
