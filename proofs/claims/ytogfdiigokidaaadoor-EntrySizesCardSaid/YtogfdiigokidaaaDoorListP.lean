/- Layer 7: blanks at the ends, members of lists: what the functions compute, in plain words. -/
import Derived.Test.YtogfdiigokidaaaDoorTextP
namespace Go.Eng.Pure
open Go Go.Eng
set_option linter.unusedVariables false
/-! blanks -/
def bl (c : UInt8) : Bool := c == 32 || c == 9
def trim (s : Str) : Str := ltrim bl (rtrim bl s)
/-! cutting, but not within quotes: 0 outside, 1 inside, 2 behind a backslash -/
def step (st : Nat) (c : UInt8) : Nat := if st = 2 then 1 else if st = 1 ∧ c = 92 then 2 else if c = 34 then 1 - st else st
def segs (a : UInt8) : Nat → Str → Str → List Str
  | _, cur, [] => [cur]
  | st, cur, c :: r => if st = 0 ∧ c = a then cur :: segs a 0 [] r else segs a (step st c) (cur ++ [c]) r
def cutS (a : UInt8) (s : Str) : List Str := segs a 0 [] s
/-- The first members, without blanks, that are not empty. -/
def mem64 (l : List Str) : List Str := ((l.map trim).filter fun x => x != []).take 64
def split (s : Str) : List Str := mem64 (cutS 44 s)
end Go.Eng.Pure
