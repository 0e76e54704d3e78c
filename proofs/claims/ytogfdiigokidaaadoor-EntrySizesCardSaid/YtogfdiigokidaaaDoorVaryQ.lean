/- Layer 19: the names that Vary gives: sorted, each once; the other two laws. -/
import Derived.Test.YtogfdiigokidaaaDoorVaryP
import Derived.Sort.Walk0
namespace Go.Eng.Pure
open Go Go.Eng
set_option linter.unusedVariables false
theorem slt_trans {a b c : Str} (h : a < b) (h' : b < c) : a < c := List.lt_trans h h'
theorem slt_irrefl (a : Str) : ¬ a < a := List.lt_irrefl a
/-- ascending, each once -/
abbrev Asc (l : List Str) : Prop := l.Pairwise (· < ·)
theorem Asc.ext : ∀ {a b : List Str}, Asc a → Asc b → (∀ x, x ∈ a ↔ x ∈ b) → a = b
  | [], [], _, _, _ => rfl
  | [], y :: b, _, _, h => absurd ((h y).2 List.mem_cons_self) (by simp)
  | x :: a, [], _, _, h => absurd ((h x).1 List.mem_cons_self) (by simp)
  | x :: a, y :: b, ha, hb, h => by
    obtain ⟨ha1, ha2⟩ := List.pairwise_cons.1 ha
    obtain ⟨hb1, hb2⟩ := List.pairwise_cons.1 hb
    have hxy : x = y := by
      rcases List.mem_cons.1 ((h x).1 List.mem_cons_self) with h1 | h1
      · exact h1
      · rcases List.mem_cons.1 ((h y).2 List.mem_cons_self) with h2 | h2
        · exact h2.symm
        · exact absurd (slt_trans (hb1 x h1) (ha1 y h2)) (slt_irrefl y)
    subst hxy
    rw [Asc.ext ha2 hb2 fun z => ?_]
    constructor
    · intro hz
      rcases List.mem_cons.1 ((h z).1 (List.mem_cons_of_mem _ hz)) with h1 | h1
      · subst h1; exact absurd (ha1 z hz) (slt_irrefl z)
      · exact h1
    · intro hz
      rcases List.mem_cons.1 ((h z).2 (List.mem_cons_of_mem _ hz)) with h1 | h1
      · subst h1; exact absurd (hb1 z hz) (slt_irrefl z)
      · exact h1
end Go.Eng.Pure
