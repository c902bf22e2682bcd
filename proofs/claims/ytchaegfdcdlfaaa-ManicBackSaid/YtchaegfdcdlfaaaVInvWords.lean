/- Words of the walks (WInvWords), those that this claim reaches. -/
import Derived.Test.YtchaegfdcdlfaaaVInv
import Derived.Test.YtchaegfdcdlfaaaVFootNe
namespace Go.Proofs.YtchaegfdcdlfaaaW.PrintWords
open Go.RowKit
end Go.Proofs.YtchaegfdcdlfaaaW.PrintWords
namespace Go.Proofs.YtchaegfdcdlfaaaW.PrintLast
section
variable {ops : Array Oper} {a : Act} {o og : Oper} {g : Nat} {t : Tmp} {u : Bool}
end
end Go.Proofs.YtchaegfdcdlfaaaW.PrintLast
