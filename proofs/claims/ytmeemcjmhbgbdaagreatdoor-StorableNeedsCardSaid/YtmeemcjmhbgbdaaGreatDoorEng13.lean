/- The engine, part 13: more of what the written proofs use. -/
import Derived.Test.YtmeemcjmhbgbdaaGreatDoorEng11
import Derived.Test.YtmeemcjmhbgbdaaGreatDoorEng12
namespace Go.Eng
open Go
section
variable {w0 w : World} {H0 H : Hp} {L : List Ent}
end
end Go.Eng
