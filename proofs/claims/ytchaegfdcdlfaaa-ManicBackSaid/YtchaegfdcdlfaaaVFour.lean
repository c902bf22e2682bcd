/- Words of the walks (WFour), those that this claim reaches. -/
import Derived.Test.YtchaegfdcdlfaaaVTab
namespace Go.Proofs.YtchaegfdcdlfaaaW.PrintLast
section
variable {P : Program} {ops : Array Oper} {Q : Exit → Act → World → Prop} {md : Region.Mode} {S : World → Prop} {ds : List Nat} {T : Bool × List (List Nat × List Nat)}
end
end Go.Proofs.YtchaegfdcdlfaaaW.PrintLast
