/- The laws of layer 21 on lists of tags, in plain words. -/
import Derived.Test.YtogfdiigokidaaaDoorEtagQ
namespace Go.Eng.Pure.Etag
open Go Go.Eng Go.Eng.Pure
set_option linter.unusedVariables false
theorem First_eq (l : List GField) (name : Str) (hl : l.length ≤ 1073741824) (hf : ∀ f ∈ l, smF f) (hn : name.length ≤ 1073741824) : fieldline_First l name = some (match getF l name with | v :: _ => (v, true) | [] => ([], false)) := by
  unfold fieldline_First
  rw [Get_eq l name hl hf hn, some_bind]
  cases getF l name with
  | nil => rfl
  | cons v r =>
    have : ((((v :: r).length : Nat) : Int) == 0) = false := by
      rw [Bool.eq_false_iff]; simp only [ne_eq, beq_iff_eq, List.length_cons]; omega
    rw [this]; rfl
theorem RFirst_eq (l : List GField) (name : Str) (hl : l.length ≤ 1073741824) (hf : ∀ f ∈ l, smF f) (hn : name.length ≤ 1073741824) : ref01_First l name = some (match getF l name with | v :: _ => (v, true) | [] => ([], false)) := by
  unfold ref01_First
  rw [RGet_eq l name hl hf hn, some_bind]
  cases getF l name with
  | nil => rfl
  | cons v r =>
    have : decide (0 < (((v :: r).length : Nat) : Int)) = true := decide_eq_true (by rw [List.length_cons]; omega)
    rw [this]; rfl
end Go.Eng.Pure.Etag
namespace Go.Eng.Pure
end Go.Eng.Pure
