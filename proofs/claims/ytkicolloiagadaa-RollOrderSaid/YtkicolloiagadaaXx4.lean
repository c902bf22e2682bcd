-- Printed for this session by a program of its own over an edited copy of the translation's print.
import Derived.Test.YtkicolloiagadaaXx0
import Derived.Test.YtkicolloiagadaaXx2
import Derived.Test.YtkicolloiagadaaRAll
