/- Layers 3 and 22: fields that are there, cache directives: what the functions compute, in plain words. -/
import Derived.Test.YtogfdiigokidaaaDoorAsciiP
import Derived.Test.YtogfdiigokidaaaDoorKeepP
namespace Go.Eng.Pure
open Go Go.Eng
set_option linter.unusedVariables false
def firstF (l : List GField) (name : Str) : Str × Bool := match getF l name with | v :: _ => (v, true) | [] => ([], false)
theorem First_eq (l : List GField) (name : Str) (hl : l.length ≤ 1073741824) (hf : ∀ f ∈ l, smF f) (hn : name.length ≤ 1073741824) : fieldline_First l name = some (firstF l name) := by
  unfold fieldline_First firstF
  rw [Get_eq l name hl hf hn, some_bind]
  cases getF l name with
  | nil => rfl
  | cons v r =>
    have : ((((v :: r).length : Nat) : Int) == 0) = false := by
      rw [Bool.eq_false_iff]; simp only [ne_eq, beq_iff_eq, List.length_cons]; omega
    rw [this]; rfl
theorem RFirst_eq (l : List GField) (name : Str) (hl : l.length ≤ 1073741824) (hf : ∀ f ∈ l, smF f) (hn : name.length ≤ 1073741824) : ref01_First l name = some (firstF l name) := by
  unfold ref01_First firstF
  rw [RGet_eq l name hl hf hn, some_bind]
  cases getF l name with
  | nil => rfl
  | cons v r =>
    have : decide (0 < (((v :: r).length : Nat) : Int)) = true := decide_eq_true (by rw [List.length_cons]; omega)
    rw [this]; rfl
theorem firstF_sm (l : List GField) (name : Str) (B : Nat) (hf : ∀ f ∈ l, f.fValue.length ≤ B) : (firstF l name).1.length ≤ B := by
  have h := getF_sm l name B hf
  unfold firstF
  cases hg : getF l name with
  | nil => exact Nat.zero_le _
  | cons v r => rw [hg] at h; exact h v List.mem_cons_self
/-! a name in front -/
def hd (m : Str) : Str := m.takeWhile tokB
end Go.Eng.Pure
