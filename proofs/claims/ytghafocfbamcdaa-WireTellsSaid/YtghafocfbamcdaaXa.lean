/- The printed functions wire_Get. -/
import Derived.Test.YtghafocfbamcdaaXx3
