/- The engine, part 16: numbers written in decimal; what lies laid in the world. -/
import Derived.Test.YtmeemcjmhbgbdaaGreatDoorEng15
import Derived.Lib.LaidTab
import Derived.Lib.ItoaNum
namespace Go.Eng
open Go Go.RowKit
end Go.Eng
