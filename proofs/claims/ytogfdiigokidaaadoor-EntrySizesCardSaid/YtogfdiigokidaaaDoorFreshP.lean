/- Layer 23: freshness: what the functions compute, in plain words; its laws. -/
import Derived.Test.YtogfdiigokidaaaDoorDateP
import Derived.Test.YtogfdiigokidaaaDoorCacheP
namespace Go.Eng.Pure
open Go Go.Eng
set_option linter.unusedVariables false
def sat (n : Int) : Int := cap (if n < 0 then 0 else n)
theorem sat_eq (a b : Int) (h : -1000000000000000000 ≤ a - b ∧ a - b ≤ 1000000000000000000) : freshness_saturate a b = some (sat (a - b)) := by
  unfold freshness_saturate
  rw [wr_nat h.1 h.2]; rfl
def firstD (l : List GField) (name : Str) : Int × Bool := dateS (firstF l name).1
theorem firstD_bd (l : List GField) (name : Str) : 0 ≤ (firstD l name).1 ∧ (firstD l name).1 ≤ 500000000000 := dateS_bd _
theorem dateS_nil : dateS [] = (0, false) := by decide
section
variable (l : List GField) (hl : l.length ≤ 1073741824) (hf : ∀ f ∈ l, smF f)
include hl hf
theorem first_eq (name : Str) (hn : name.length ≤ 1073741824) : freshness_first l name = some (firstD l name) := by
  unfold freshness_first
  rw [First_eq l name hl hf hn, some_bind, DParse_eq, some_bind]; rfl
theorem firstDate_eq (name : Str) (hn : name.length ≤ 1073741824) : ref19_firstDate l name = some (firstD l name) := by
  unfold ref19_firstDate
  rw [RFirst_eq l name hl hf hn, some_bind, RParseDate_eq]
  unfold firstD firstF
  cases getF l name with
  | nil => exact congrArg some dateS_nil.symm
  | cons v r => rfl
end
def dateN : Str := [68, 97, 116, 101]
def ageN : Str := [65, 103, 101]
def dateOfS (l : List GField) (received : Int) : Int := if (firstD l dateN).2 then (firstD l dateN).1 else received
theorem Date_eq (l : List GField) (hl : l.length ≤ 1073741824) (hf : ∀ f ∈ l, smF f) (r : Int) : freshness_Date l r = some (dateOfS l r) := by
  unfold freshness_Date
  rw [first_eq l hl hf _ (by decide), some_bind]
  unfold dateOfS dateN
  cases (firstD l [68, 97, 116, 101]).2 <;> rfl
theorem RDate_eq (l : List GField) (hl : l.length ≤ 1073741824) (hf : ∀ f ∈ l, smF f) (r : Int) : ref19_DateOf l r = some (dateOfS l r) := by
  unfold ref19_DateOf
  rw [firstDate_eq l hl hf _ (by decide), some_bind]
  unfold dateOfS dateN
  cases (firstD l [68, 97, 116, 101]).2 <;> rfl
/-- The age, where the times are in order. -/
def ageN0 (l : List GField) (requested received now : Int) : Int :=
  max (max 0 (received - dateOfS l received)) ((num (firstF l ageN).1).1 + received - requested) + now - received
def ageS (l : List GField) (requested received now : Int) : Int :=
  if requested < 0 ∨ received < requested ∨ now < received ∨ 1099511627776 < now then 2147483647 else cap (ageN0 l requested received now)
theorem max_eq (a b : Int) : (if a < b then b else a) = max a b := by
  rw [Int.max_def]; split <;> split <;> omega
theorem guard4 (a b c d : Prop) [Decidable a] [Decidable b] [Decidable c] [Decidable d] : (((decide a || decide b) || decide c) || decide d) = decide (a ∨ b ∨ c ∨ d) := by
  by_cases a <;> by_cases b <;> by_cases c <;> by_cases d <;> simp [*]
theorem ageN0_bd (l : List GField) (q r n : Int) (h : ¬ (q < 0 ∨ r < q ∨ n < r ∨ 1099511627776 < n)) : n - r ≤ ageN0 l q r n ∧ ageN0 l q r n ≤ 10000000000000 := by
  have a2 := firstD_bd l dateN
  have b := num_bd (firstF l ageN).1
  unfold ageN0 dateOfS
  split <;> omega
theorem age_core (l : List GField) (q r n : Int) (h : ¬ (q < 0 ∨ r < q ∨ n < r ∨ 1099511627776 < n)) :
    (wr ((wr ((if (if 0 < (wr (r - dateOfS l r)) then (wr (r - dateOfS l r)) else 0) < (wr ((wr ((num (firstF l ageN).1).1 + r)) - q)) then (wr ((wr ((num (firstF l ageN).1).1 + r)) - q)) else (if 0 < (wr (r - dateOfS l r)) then (wr (r - dateOfS l r)) else 0)) + n)) - r)) = ageN0 l q r n := by
  have a2 := firstD_bd l dateN
  have b := num_bd (firstF l ageN).1
  have hd : -500000000000 ≤ r - dateOfS l r ∧ r - dateOfS l r ≤ 1099511627776 := by unfold dateOfS; split <;> omega
  have e1 : wr (r - dateOfS l r) = r - dateOfS l r := wr_nat (by omega) (by omega)
  have e2 : wr ((num (firstF l ageN).1).1 + r) = (num (firstF l ageN).1).1 + r := wr_nat (by omega) (by omega)
  have e3 : wr ((num (firstF l ageN).1).1 + r - q) = (num (firstF l ageN).1).1 + r - q := wr_nat (by omega) (by omega)
  rw [e1, e2, e3, max_eq, max_eq]
  unfold ageN0
  rw [wr_nat (n := max (max 0 (r - dateOfS l r)) ((num (firstF l ageN).1).1 + r - q) + n) (by omega) (by omega), wr_nat (by omega) (by omega)]
theorem Age_eq (l : List GField) (hl : l.length ≤ 1073741824) (hf : ∀ f ∈ l, smF f) (q r n : Int) : freshness_Age l q r n = some (ageS l q r n) := by
  unfold freshness_Age ageS
  rw [guard4]
  by_cases h : q < 0 ∨ r < q ∨ n < r ∨ 1099511627776 < n
  · rw [decide_eq_true h, if_pos h]; rfl
  · have hs := firstF_sm l ageN 1073741824 (fun f h => (hf f h).2)
    unfold ageN at hs
    rw [decide_eq_false h, if_neg h, bif_false, First_eq l _ hl hf (by decide), some_bind, Number_eq _ hs, some_bind, Date_eq l hl hf r, some_bind]
    have hc := age_core l q r n h
    have hb := ageN0_bd l q r n h
    unfold ageN at hc
    rw [hc, sat_eq _ _ ⟨by omega, by omega⟩, some_bind]
    unfold sat
    rw [Int.sub_zero, if_neg (by omega)]
theorem RAge_eq (l : List GField) (hl : l.length ≤ 1073741824) (hf : ∀ f ∈ l, smF f) (q r n : Int) : ref19_Age l q r n = some (ageS l q r n) := by
  unfold ref19_Age ageS
  rw [guard4]
  by_cases h : q < 0 ∨ r < q ∨ n < r ∨ 1099511627776 < n
  · rw [decide_eq_true h, if_pos h]; rfl
  · have hs := firstF_sm l ageN 1073741824 (fun f h => (hf f h).2)
    unfold ageN at hs
    rw [decide_eq_false h, if_neg h, bif_false, RFirst_eq l _ hl hf (by decide), some_bind, RNumber_eq _ hs, some_bind, RDate_eq l hl hf r, some_bind]
    have hc := age_core l q r n h
    unfold ageN at hc
    rw [hc]; rfl
end Go.Eng.Pure
