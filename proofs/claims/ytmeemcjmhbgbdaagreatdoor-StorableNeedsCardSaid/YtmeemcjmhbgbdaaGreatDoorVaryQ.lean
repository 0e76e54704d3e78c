/- Layer 19: the names that Vary gives: sorted, each once; the other two laws. -/
import Derived.Test.YtmeemcjmhbgbdaaGreatDoorVaryP
import Derived.Sort.Walk0
namespace Go.Eng.Pure
open Go Go.Eng
set_option linter.unusedVariables false
theorem slt_trans {a b c : Str} (h : a < b) (h' : b < c) : a < c := List.lt_trans h h'
theorem slt_irrefl (a : Str) : ¬ a < a := List.lt_irrefl a
/-- ascending, each once -/
abbrev Asc (l : List Str) : Prop := l.Pairwise (· < ·)
theorem Asc.ext : ∀ {a b : List Str}, Asc a → Asc b → (∀ x, x ∈ a ↔ x ∈ b) → a = b
  | [], [], _, _, _ => rfl
  | [], y :: b, _, _, h => absurd ((h y).2 List.mem_cons_self) (by simp)
  | x :: a, [], _, _, h => absurd ((h x).1 List.mem_cons_self) (by simp)
  | x :: a, y :: b, ha, hb, h => by
    obtain ⟨ha1, ha2⟩ := List.pairwise_cons.1 ha
    obtain ⟨hb1, hb2⟩ := List.pairwise_cons.1 hb
    have hxy : x = y := by
      rcases List.mem_cons.1 ((h x).1 List.mem_cons_self) with h1 | h1
      · exact h1
      · rcases List.mem_cons.1 ((h y).2 List.mem_cons_self) with h2 | h2
        · exact h2.symm
        · exact absurd (slt_trans (hb1 x h1) (ha1 y h2)) (slt_irrefl y)
    subst hxy
    rw [Asc.ext ha2 hb2 fun z => ?_]
    constructor
    · intro hz
      rcases List.mem_cons.1 ((h z).1 (List.mem_cons_of_mem _ hz)) with h1 | h1
      · subst h1; exact absurd (ha1 z hz) (slt_irrefl z)
      · exact h1
    · intro hz
      rcases List.mem_cons.1 ((h z).2 (List.mem_cons_of_mem _ hz)) with h1 | h1
      · subst h1; exact absurd (hb1 z hz) (slt_irrefl z)
      · exact h1
/-! the loops -/
def badN (m : Str) : Bool := !tok m || m == [42]
theorem Names_loop (l : List Str) (hl : l.length ≤ 64) (hm : ∀ m ∈ l, m.length ≤ 1000) : ∀ (k i : Nat) (out : List Str), i + k = l.length → out.length ≤ i → whileO (vary_Names_L0 l) (out, (i : Int)) = some (if (l.drop i).any badN then .inr ([], false) else .inl (out ++ (l.drop i).map lower))
  | 0, i, out, hi, ho => by
    obtain rfl : i = l.length := by omega
    have hb : vary_Names_L0 l (out, (l.length : Int)) = some (.inr (.inl out)) := by
      simp only [vary_Names_L0, lt_false (Nat.le_refl l.length), bif_false]
    rw [whileO_done hb]; simp
  | k + 1, i, out, hi, ho => by
    have hlt : i < l.length := by omega
    have hmi := hm _ (List.getElem_mem hlt)
    have hb : vary_Names_L0 l (out, (i : Int)) = some (if badN l[i] then .inr (.inr ([], false)) else .inl (out ++ [lower l[i]], ((i + 1 : Nat) : Int))) := by
      simp only [vary_Names_L0, lt_true hlt, bif_true, xnth_get hlt, some_bind, Token_eq _ (show l[i].length ≤ 1073741824 by omega), Lower_eq _ (show l[i].length ≤ 1073741824 by omega), wrs (show i ≤ 4 * 1073741824 by omega)]
      rw [xapp_sm (by omega) (one_sm _)]
      unfold badN
      cases (!tok l[i] || l[i] == [42]) <;> rfl
    rw [List.drop_eq_getElem_cons hlt, List.any_cons, List.map_cons]
    cases hbad : badN l[i] with
    | true =>
      rw [hbad] at hb
      rw [whileO_done hb]; rfl
    | false =>
      rw [hbad] at hb
      rw [whileO_next hb, Names_loop l hl hm k (i + 1) _ (by omega) (by simp; omega)]
      simp
def varyN : Str := [86, 97, 114, 121]
def namesF (l : List GField) : List Str × Bool :=
  if 64 ≤ (allM l varyN).length ∨ (allM l varyN).any badN = true then ([], false) else (Lib.compact (sortS ((allM l varyN).map lower)), true)
end Go.Eng.Pure
