/- Words of the walks (WSized), those that this claim reaches. -/
import Derived.SizedLaws
import Derived.ChangeSlices
namespace Go.Proofs.YtchaegfdcdlfaaaW.PrintWords
open Go.ChangeShapes Go.WideShapes
end Go.Proofs.YtchaegfdcdlfaaaW.PrintWords
