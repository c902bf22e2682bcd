-- Printed for this session by a program of its own over an edited copy of the translation's print.
import Derived.Test.YtghafocfbamcdaaXx0
import Derived.Test.YtghafocfbamcdaaXx3
import Derived.Test.YtghafocfbamcdaaWRead
