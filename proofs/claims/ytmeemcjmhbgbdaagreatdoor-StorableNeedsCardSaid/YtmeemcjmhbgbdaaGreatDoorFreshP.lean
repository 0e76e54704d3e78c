/- Layer 23: freshness: what the functions compute, in plain words; its laws. -/
import Derived.Test.YtmeemcjmhbgbdaaGreatDoorDateP
import Derived.Test.YtmeemcjmhbgbdaaGreatDoorCacheP
namespace Go.Eng.Pure
open Go Go.Eng
set_option linter.unusedVariables false
def sat (n : Int) : Int := cap (if n < 0 then 0 else n)
theorem sat_eq (a b : Int) (h : -1000000000000000000 ≤ a - b ∧ a - b ≤ 1000000000000000000) : freshness_saturate a b = some (sat (a - b)) := by
  unfold freshness_saturate
  rw [wr_nat h.1 h.2]; rfl
def firstD (l : List GField) (name : Str) : Int × Bool := dateS (firstF l name).1
theorem firstD_bd (l : List GField) (name : Str) : 0 ≤ (firstD l name).1 ∧ (firstD l name).1 ≤ 500000000000 := dateS_bd _
theorem dateS_nil : dateS [] = (0, false) := by decide
section
variable (l : List GField) (hl : l.length ≤ 1073741824) (hf : ∀ f ∈ l, smF f)
include hl hf
theorem first_eq (name : Str) (hn : name.length ≤ 1073741824) : freshness_first l name = some (firstD l name) := by
  unfold freshness_first
  rw [First_eq l name hl hf hn, some_bind, DParse_eq, some_bind]; rfl
theorem firstDate_eq (name : Str) (hn : name.length ≤ 1073741824) : ref19_firstDate l name = some (firstD l name) := by
  unfold ref19_firstDate
  rw [RFirst_eq l name hl hf hn, some_bind, RParseDate_eq]
  unfold firstD firstF
  cases getF l name with
  | nil => exact congrArg some dateS_nil.symm
  | cons v r => rfl
end
def expN : Str := [69, 120, 112, 105, 114, 101, 115]
def dateN : Str := [68, 97, 116, 101]
def lifeS (l : List GField) : Int :=
  if 0 ≤ (respF l).fSMaxAge then (respF l).fSMaxAge else if 0 ≤ (respF l).fMaxAge then (respF l).fMaxAge else if (firstD l expN).2 && (firstD l dateN).2 then sat ((firstD l expN).1 - (firstD l dateN).1) else 0
theorem lifetime_core (c : GControl) (a b : Int × Bool) (f : Option Int) (x : Int) (hx : f = some x) :
    (bif decide (0 ≤ c.fSMaxAge) then some c.fSMaxAge else (bif decide (0 ≤ c.fMaxAge) then some c.fMaxAge else (bif ((!a.2) || (!b.2)) then some 0 else f))) =
    some (if 0 ≤ c.fSMaxAge then c.fSMaxAge else if 0 ≤ c.fMaxAge then c.fMaxAge else if a.2 && b.2 then x else 0) := by
  subst hx
  by_cases h1 : 0 ≤ c.fSMaxAge
  · rw [decide_eq_true h1, if_pos h1]; rfl
  · rw [decide_eq_false h1, if_neg h1, bif_false]
    by_cases h2 : 0 ≤ c.fMaxAge
    · rw [decide_eq_true h2, if_pos h2]; rfl
    · rw [decide_eq_false h2, if_neg h2, bif_false]
      cases a.2 <;> cases b.2 <;> rfl
theorem Lifetime_eq (l : List GField) (hl : l.length ≤ 1073741824) (hf : ∀ f ∈ l, smF f) : freshness_Lifetime l = some (lifeS l) := by
  unfold freshness_Lifetime
  have a1 := firstD_bd l expN
  have a2 := firstD_bd l dateN
  rw [Response_eq l hl hf, some_bind, first_eq l hl hf _ (by decide), some_bind, first_eq l hl hf _ (by decide), some_bind, sat_eq _ _ ⟨by unfold expN dateN at *; omega, by unfold expN dateN at *; omega⟩, some_bind]
  exact lifetime_core _ _ _ _ _ rfl
theorem RLifetime_eq (l : List GField) (hl : l.length ≤ 1073741824) (hf : ∀ f ∈ l, smF f) : ref19_Lifetime l = some (lifeS l) := by
  unfold ref19_Lifetime
  have a1 := firstD_bd l expN
  have a2 := firstD_bd l dateN
  rw [RResponse_eq l hl hf, some_bind, firstDate_eq l hl hf _ (by decide), some_bind, firstDate_eq l hl hf _ (by decide), some_bind, wr_nat (n := (firstD l [69, 120, 112, 105, 114, 101, 115]).1 - _) (by unfold expN dateN at *; omega) (by unfold expN dateN at *; omega)]
  exact lifetime_core _ _ _ _ _ rfl
end Go.Eng.Pure
