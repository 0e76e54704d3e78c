/- The laws of layer 7 on joining and on several lines, in plain words. -/
import Derived.Test.YtmeemcjmhbgbdaaGreatDoorListLaw
namespace Go.Eng.Pure
open Go Go.Eng
set_option linter.unusedVariables false
/-! several lines -/
/-- The pieces that are cut off, the state and the piece that is not ended. -/
def fin (a : UInt8) : Nat → Str → Str → List Str × Nat × Str
  | st, cur, [] => ([], st, cur)
  | st, cur, c :: r => if st = 0 ∧ c = a then (cur :: (fin a 0 [] r).1, (fin a 0 [] r).2) else fin a (step st c) (cur ++ [c]) r
end Go.Eng.Pure
