/- Layer 19: the values that a Vary list picks: what the functions compute, in plain words; its first laws. -/
import Derived.Test.YtmeemcjmhbgbdaaGreatDoorAsciiP
import Derived.Test.YtmeemcjmhbgbdaaGreatDoorCacheP
import Derived.Test.YtmeemcjmhbgbdaaGreatDoorListLaw
namespace Go.Eng.Pure
open Go Go.Eng
set_option linter.unusedVariables false
/-- fields that are small together -/
def smL (l : List GField) : Prop := l.length ≤ 70 ∧ ∀ f ∈ l, f.fName.length ≤ 300 ∧ f.fValue.length ≤ 300
def without (l : List GField) (n : Str) : List GField := l.filter fun f => !fold f.fName n
end Go.Eng.Pure
