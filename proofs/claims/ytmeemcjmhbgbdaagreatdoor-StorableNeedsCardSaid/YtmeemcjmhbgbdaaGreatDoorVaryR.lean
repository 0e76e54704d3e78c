/- Layer 19: the names are sorted, and all members are among them. -/
import Derived.Test.YtmeemcjmhbgbdaaGreatDoorVaryQ
import Derived.Test.YtmeemcjmhbgbdaaGreatDoorListLaw2
namespace Go.Eng.Pure
open Go Go.Eng
set_option linter.unusedVariables false
end Go.Eng.Pure
