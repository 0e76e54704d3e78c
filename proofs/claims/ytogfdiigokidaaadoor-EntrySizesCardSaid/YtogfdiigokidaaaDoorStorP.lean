/- Layer 24: which responses may be stored. -/
import Derived.Test.YtogfdiigokidaaaDoorVaryR
import Derived.Test.YtogfdiigokidaaaDoorCacheLaw
import Derived.Test.YtogfdiigokidaaaDoorFreshP
import Derived.Test.YtogfdiigokidaaaDoorEtagLaw
namespace Go.Eng.Pure
open Go Go.Eng
set_option linter.unusedVariables false
end Go.Eng.Pure
