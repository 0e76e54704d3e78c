/- Layer 19: the values that a Vary list picks: what the functions compute, in plain words; its first laws. -/
import Derived.Test.YtogfdiigokidaaaDoorAsciiP
import Derived.Test.YtogfdiigokidaaaDoorCacheP
import Derived.Test.YtogfdiigokidaaaDoorListLaw
namespace Go.Eng.Pure
open Go Go.Eng
set_option linter.unusedVariables false
/-- fields that are small together -/
def smL (l : List GField) : Prop := l.length ≤ 70 ∧ ∀ f ∈ l, f.fName.length ≤ 300 ∧ f.fValue.length ≤ 300
theorem smL_F {l : List GField} (h : smL l) : l.length ≤ 1073741824 ∧ ∀ f ∈ l, smF f := ⟨by have := h.1; omega, fun f hf => by have := h.2 f hf; exact ⟨by omega, by omega⟩⟩
theorem SEqual_eq (a b : List Str) (ha : a.length ≤ 1073741824) : slices_Equal_string_string a b = some (a == b) := by
  unfold slices_Equal_string_string
  rw [neI]
  by_cases hl : a.length = b.length
  · have e : (a.length != b.length) = false := by simp [hl]
    rw [e, bif_false, while_same a b (slices_Equal_string_string_L0 a b) hl]
    · by_cases h : a = b
      · simp [h]
      · simp [h]
    · intro n hn hb
      simp only [slices_Equal_string_string_L0, lt_true hn, bif_true, xnth_get hn, xnth_get hb, some_bind, wrs (show n ≤ 4 * 1073741824 by omega)]
      by_cases he : a[n] = b[n]
      · have : (a[n] != b[n]) = false := by simp [he]
        rw [this, if_pos he]; rfl
      · have : (a[n] != b[n]) = true := by simp [he]
        rw [this, if_neg he]; rfl
    · simp only [slices_Equal_string_string_L0, lt_false (Nat.le_refl a.length), bif_false]
  · have e : (a.length != b.length) = true := by simp [hl]
    have e2 : (a == b) = false := by
      rw [Bool.eq_false_iff]; intro h; exact hl (by rw [eq_of_beq h])
    rw [e, e2]; rfl
def without (l : List GField) (n : Str) : List GField := l.filter fun f => !fold f.fName n
theorem without_sm {l : List GField} (h : smL l) (n : Str) : smL (without l n) :=
  ⟨Nat.le_trans (List.length_filter_le _ _) h.1, fun f hf => h.2 f ((List.mem_filter.1 hf).1)⟩
end Go.Eng.Pure
