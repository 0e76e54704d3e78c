/- The laws of layer 21 on lists of tags, in plain words. -/
import Derived.Test.YtmeemcjmhbgbdaaGreatDoorEtagQ
namespace Go.Eng.Pure.Etag
open Go Go.Eng Go.Eng.Pure
set_option linter.unusedVariables false
theorem First_eq (l : List GField) (name : Str) (hl : l.length ≤ 1073741824) (hf : ∀ f ∈ l, smF f) (hn : name.length ≤ 1073741824) : fieldline_First l name = some (match getF l name with | v :: _ => (v, true) | [] => ([], false)) := by
  unfold fieldline_First
  rw [Get_eq l name hl hf hn, some_bind]
  cases getF l name with
  | nil => rfl
  | cons v r =>
    have : ((((v :: r).length : Nat) : Int) == 0) = false := by
      rw [Bool.eq_false_iff]; simp only [ne_eq, beq_iff_eq, List.length_cons]; omega
    rw [this]; rfl
theorem RFirst_eq (l : List GField) (name : Str) (hl : l.length ≤ 1073741824) (hf : ∀ f ∈ l, smF f) (hn : name.length ≤ 1073741824) : ref01_First l name = some (match getF l name with | v :: _ => (v, true) | [] => ([], false)) := by
  unfold ref01_First
  rw [RGet_eq l name hl hf hn, some_bind]
  cases getF l name with
  | nil => rfl
  | cons v r =>
    have : decide (0 < (((v :: r).length : Nat) : Int)) = true := decide_eq_true (by rw [List.length_cons]; omega)
    rw [this]; rfl
def ofF (l : List GField) : GETag × Bool := match getF l [69, 84, 97, 103] with | v :: _ => parseSpec v | [] => (⟨false, []⟩, false)
theorem Of_eq (l : List GField) (hl : l.length ≤ 1073741824) (hf : ∀ f ∈ l, smF f) : etag_Of l = some (ofF l) := by
  unfold etag_Of ofF
  rw [First_eq l _ hl hf (by decide), some_bind]
  have hs := getF_sm l [69, 84, 97, 103] 1073741824 (fun f h => (hf f h).2)
  cases hg : getF l [69, 84, 97, 103] with
  | nil => rfl
  | cons v r =>
    rw [hg] at hs
    have := hs v List.mem_cons_self
    show ((bif !true then _ else (etag_Parse v).bind fun r10 => some (r10.1, r10.2)) : Option (GETag × Bool)) = _
    rw [Bool.not_true, bif_false, EParse_eq v (by simp only [big]; omega)]; rfl
theorem allM_sm (l : List GField) (name : Str) (hf : ∀ f ∈ l, smF f) : ∀ x ∈ allM l name, x.length ≤ 1073741824 := by
  intro x hx
  have h1 := List.mem_of_mem_take hx
  rw [List.mem_flatMap] at h1
  obtain ⟨v, hv, hx⟩ := h1
  exact Nat.le_trans (split_sm v x hx) (getF_sm l name 1073741824 (fun f h => (hf f h).2) v hv)
end Go.Eng.Pure.Etag
namespace Go.Eng.Pure
end Go.Eng.Pure
