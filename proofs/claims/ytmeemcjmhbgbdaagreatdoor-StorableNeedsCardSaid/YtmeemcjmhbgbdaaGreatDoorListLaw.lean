/- The laws of layer 7, in plain words. -/
import Derived.Test.YtmeemcjmhbgbdaaGreatDoorKeepP
namespace Go.Eng.Pure
open Go Go.Eng
set_option linter.unusedVariables false
end Go.Eng.Pure
