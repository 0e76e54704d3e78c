/- Layer 1: decimal numbers, and what reads them. -/
import Derived.Test.YtmeemcjmhbgbdaaGreatDoorAsciiP
import Derived.Lib.ItoaNum
namespace Go.Eng.Pure
open Go Go.Eng
set_option linter.unusedVariables false
end Go.Eng.Pure
