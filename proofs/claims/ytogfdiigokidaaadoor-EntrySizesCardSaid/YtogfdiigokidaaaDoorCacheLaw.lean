/- The laws of layer 22, in plain words. -/
import Derived.Test.YtogfdiigokidaaaDoorCacheP
import Derived.Test.YtogfdiigokidaaaDoorDecP
import Derived.Test.YtogfdiigokidaaaDoorListLaw2
namespace Go.Eng.Pure
open Go Go.Eng
set_option linter.unusedVariables false
section
set_option linter.unusedSectionVars false
variable (s : Str) (hs : s.all isD = true) (hne : s ≠ [])
include hs hne
end
end Go.Eng.Pure
