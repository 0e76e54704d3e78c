/- The laws of layer 22, in plain words. -/
import Derived.Test.YtmeemcjmhbgbdaaGreatDoorCacheP
import Derived.Test.YtmeemcjmhbgbdaaGreatDoorDecP
import Derived.Test.YtmeemcjmhbgbdaaGreatDoorListLaw2
namespace Go.Eng.Pure
open Go Go.Eng
set_option linter.unusedVariables false
section
set_option linter.unusedSectionVars false
variable (s : Str) (hs : s.all isD = true) (hne : s ≠ [])
include hs hne
end
end Go.Eng.Pure
