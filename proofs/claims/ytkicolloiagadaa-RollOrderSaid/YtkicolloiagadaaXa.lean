/- The printed functions roll_Sum, roll_Next. -/
import Derived.Test.YtkicolloiagadaaXx2
import Derived.Test.YtkicolloiagadaaXx5
