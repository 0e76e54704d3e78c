/- Layer 1: decimal numbers, and what reads them. -/
import Derived.Test.YtdijehmmnpofjaaDoorAsciiP
import Derived.Lib.ItoaNum
namespace Go.Eng.Pure
open Go Go.Eng
set_option linter.unusedVariables false
def dec (u : Nat) : Str := Lib.decDigits u
theorem dec_small {u : Nat} (h : u < 10) : dec u = [UInt8.ofNat (48 + u)] := by unfold dec; rw [Lib.decDigits, dif_pos h]
theorem dec_big {u : Nat} (h : ¬ u < 10) : dec u = dec (u / 10) ++ [UInt8.ofNat (48 + u % 10)] := by unfold dec; conv => lhs; rw [Lib.decDigits, dif_neg h]
theorem toU8_dig (k : Nat) (h : k < 10) : toU8 (wr (48 + (k : Int))) = UInt8.ofNat (48 + k) := by
  rw [wr_nat (by omega) (by omega)]
  unfold toU8
  congr 1; omega
theorem tmod10 (u : Nat) (s : Bool) : ((if s then -(u : Int) else (u : Int)).tmod 10) = (if s then -((u % 10 : Nat) : Int) else ((u % 10 : Nat) : Int)) ∧ ((if s then -(u : Int) else (u : Int)).tdiv 10) = (if s then -((u / 10 : Nat) : Int) else ((u / 10 : Nat) : Int)) := by
  have h1 : ((u : Int)).tmod 10 = ((u % 10 : Nat) : Int) := by rw [Int.tmod_eq_emod_of_nonneg (by omega)]; rfl
  have h2 : ((u : Int)).tdiv 10 = ((u / 10 : Nat) : Int) := by rw [Int.tdiv_eq_ediv_of_nonneg (by omega)]; rfl
  cases s
  · exact ⟨h1, h2⟩
  · simp only [if_true, Int.neg_tmod, Int.neg_tdiv, h1, h2]; exact ⟨trivial, trivial⟩
theorem Dec_loop (s : Bool) : ∀ (m u k : Nat) (b : Str), u < 10 ^ m → k + m ≤ 40 → m ≤ 19 → b.length ≤ k → (u ≠ 0 ∨ k = 0) → whileO ref01_Decimal_L0 ((if s then -(u : Int) else (u : Int)), b, (k : Int)) = some (dec u ++ b) := by
  intro m
  induction m with
  | zero =>
    intro u k b hu hk hm hb h0
    have hu0 : u = 0 := by simpa using hu
    subst hu0
    have hk0 : k = 0 := by omega
    subst hk0
    have hb0 : b = [] := List.eq_nil_of_length_eq_zero (by omega)
    subst hb0
    have e : (if s then -((0 : Nat) : Int) else ((0 : Nat) : Int)) = 0 := by cases s <;> rfl
    rw [e]
    have hb1 : ref01_Decimal_L0 ((0 : Int), ([] : Str), ((0 : Nat) : Int)) = some (.inl (0, [48], 1)) := by decide
    have hb2 : ref01_Decimal_L0 ((0 : Int), ([48] : Str), (1 : Int)) = some (.inr [48]) := rfl
    rw [whileO_next hb1, whileO_done hb2, dec_small (by decide)]; rfl
  | succ m ih =>
    intro u k b hu hk hm hb h0
    obtain ⟨t1, t2⟩ := tmod10 u s
    generalize hn : (if s then -(u : Int) else (u : Int)) = n at t1 t2
    have hc : ((n != 0) || ((k : Int) == 0)) = true := by
      rw [Bool.or_eq_true]
      rcases h0 with h0 | h0
      · left; rw [bne_iff_ne]; intro hh; rw [hh] at hn; cases s <;> simp at hn <;> omega
      · right; rw [h0]; rfl
    have hr : xrem n 10 = some (if s then -((u % 10 : Nat) : Int) else ((u % 10 : Nat) : Int)) := by unfold xrem; rw [if_neg (by decide), t1]
    have hpow : u < 10 ^ (m + 1) := hu
    have hle : (10 : Nat) ^ (m + 1) ≤ 10 ^ 19 := Nat.pow_le_pow_right (by decide) hm
    have h19 : (10 : Nat) ^ 19 = 10000000000000000000 := by decide
    have hq : xquo n 10 = some (if s then -((u / 10 : Nat) : Int) else ((u / 10 : Nat) : Int)) := by
      unfold xquo
      rw [if_neg (by decide), t2, wr_eq]
      cases s <;> simp only [if_true, if_false, Bool.false_eq_true] <;> omega
    have hd : ((bif decide ((if s then -((u % 10 : Nat) : Int) else ((u % 10 : Nat) : Int)) < 0) then some (wr (-(if s then -((u % 10 : Nat) : Int) else ((u % 10 : Nat) : Int)))) else some (if s then -((u % 10 : Nat) : Int) else ((u % 10 : Nat) : Int)))) = some ((u % 10 : Nat) : Int) := by
      cases s with
      | false =>
        have : decide ((if false = true then -((u % 10 : Nat) : Int) else ((u % 10 : Nat) : Int)) < 0) = false := decide_eq_false (by simp only [Bool.false_eq_true, if_false]; omega)
        rw [this]; rfl
      | true =>
        simp only [if_true, Int.neg_neg]
        by_cases hz : u % 10 = 0
        · rw [hz]; rfl
        · have : decide (-((u % 10 : Nat) : Int) < 0) = true := decide_eq_true (by omega)
          rw [this, bif_true, wr_nat (by omega) (by omega)]
    have hb1 : ref01_Decimal_L0 (n, b, (k : Int)) = some (.inl ((if s then -((u / 10 : Nat) : Int) else ((u / 10 : Nat) : Int)), UInt8.ofNat (48 + u % 10) :: b, ((k + 1 : Nat) : Int))) := by
      rw [ref01_Decimal_L0, hc, bif_true, hr, some_bind, hd, some_bind, toU8_dig _ (Nat.mod_lt _ (by decide)), xapp_sm (one_sm _) (by omega), some_bind, hq, some_bind, wrs (by omega)]; rfl
    rw [whileO_next hb1]
    by_cases hlt : u < 10
    · have h10 : u / 10 = 0 := by omega
      have hmod : u % 10 = u := by omega
      rw [h10, hmod, dec_small hlt]
      have hb2 : ref01_Decimal_L0 ((if s then -((0 : Nat) : Int) else ((0 : Nat) : Int)), UInt8.ofNat (48 + u) :: b, ((k + 1 : Nat) : Int)) = some (.inr (UInt8.ofNat (48 + u) :: b)) := by
        have e : (if s then -((0 : Nat) : Int) else ((0 : Nat) : Int)) = 0 := by cases s <;> rfl
        have e2 : ((((0 : Int) != 0) || (((k + 1 : Nat) : Int) == 0))) = false := by
          have : (((k + 1 : Nat) : Int) == 0) = false := by rw [Bool.eq_false_iff]; simp only [ne_eq, beq_iff_eq]; omega
          rw [this]; rfl
        rw [e, ref01_Decimal_L0, e2, bif_false]
      rw [whileO_done hb2]; rfl
    · rw [ih (u / 10) (k + 1) _ (by rw [Nat.pow_succ] at hpow; omega) (by omega) (by omega) (by simp; omega) (by omega), dec_big hlt]
      simp
theorem Decimal_eq (n : Int) (h1 : -9223372036854775808 ≤ n) (h2 : n ≤ 9223372036854775807) : ref01_Decimal n = some (Lib.itoa n) := by
  unfold ref01_Decimal Lib.itoa
  by_cases h : n < 0
  · obtain ⟨u, rfl⟩ : ∃ u : Nat, n = -(u : Int) := ⟨n.natAbs, by omega⟩
    have hl := Dec_loop true 19 u 0 [] (by omega) (by omega) (by omega) (by simp) (by omega)
    have hl : whileO ref01_Decimal_L0 (-(u : Int), [], 0) = some (dec u ++ []) := hl
    have hna : (-(u : Int)).natAbs = u := by omega
    rw [hl, some_bind, decide_eq_true h, bif_true, if_pos h, hna, List.append_nil]
    have hlen : (dec u).length ≤ 19 := by
      unfold dec
      rw [Lib.decDigits_eq]
      simp only [List.length_map, List.length_range]
      by_cases h0 : Lib.nDigits u ≤ 19
      · exact h0
      · exfalso
        have hp : ∀ k v : Nat, 1 ≤ k → k < Lib.nDigits v → 10 ^ k ≤ v := by
          intro k
          induction k with
          | zero => intro v h; omega
          | succ k ih =>
            intro v _ hk
            by_cases hv : v < 10
            · rw [Lib.nDigits_small hv] at hk; omega
            · rw [Lib.nDigits_big hv] at hk
              by_cases hk0 : k = 0
              · subst hk0; simp; omega
              · have := ih (v / 10) (by omega) (by omega)
                rw [Nat.pow_succ]; omega
        have := hp 19 u (by omega) (by omega)
        omega
    rw [xcat_sm (by decide) (by omega)]; rfl
  · obtain ⟨u, rfl⟩ : ∃ u : Nat, n = (u : Int) := ⟨n.toNat, by omega⟩
    have hl := Dec_loop false 19 u 0 [] (by omega) (by omega) (by omega) (by simp) (by omega)
    have hl : whileO ref01_Decimal_L0 ((u : Int), [], 0) = some (dec u ++ []) := hl
    rw [hl, some_bind, decide_eq_false h, bif_false, if_neg h, List.append_nil]; rfl
theorem dig_isD (k : Nat) (h : k < 10) : isD (UInt8.ofNat (48 + k)) = true ∧ dvI (UInt8.ofNat (48 + k)) = (k : Int) := by
  have hk : k = 0 ∨ k = 1 ∨ k = 2 ∨ k = 3 ∨ k = 4 ∨ k = 5 ∨ k = 6 ∨ k = 7 ∨ k = 8 ∨ k = 9 := by omega
  rcases hk with rfl | rfl | rfl | rfl | rfl | rfl | rfl | rfl | rfl | rfl <;> decide
theorem dec_all (u : Nat) : (dec u).all isD = true ∧ dec u ≠ [] := by
  induction u using Nat.strongRecOn with
  | _ u ih =>
    by_cases h : u < 10
    · rw [dec_small h, List.all_cons, (dig_isD u h).1]; exact ⟨rfl, by simp⟩
    · rw [dec_big h, List.all_append, (ih (u / 10) (by omega)).1]
      rw [List.all_cons, (dig_isD (u % 10) (Nat.mod_lt _ (by decide))).1]
      exact ⟨rfl, by simp⟩
theorem numL_append : ∀ (x y : Str) (n : Int), numL (x ++ y) n = (numL x n).bind (numL y)
  | [], y, n => rfl
  | c :: r, y, n => by
    show numL (c :: (r ++ y)) n = _
    unfold numL
    cases isD c with
    | true => exact numL_append r y _
    | false => cases y <;> rfl
theorem numL_dec (u : Nat) : numL (dec u) 0 = some (cap u) := by
  induction u using Nat.strongRecOn with
  | _ u ih =>
    by_cases h : u < 10
    · obtain ⟨h1, h2⟩ := dig_isD u h
      rw [dec_small h]
      show (if isD (UInt8.ofNat (48 + u)) = true then some (cap (10 * 0 + dvI (UInt8.ofNat (48 + u)))) else none) = _
      rw [if_pos h1, h2]
      congr 2; omega
    · obtain ⟨h1, h2⟩ := dig_isD (u % 10) (Nat.mod_lt _ (by decide))
      rw [dec_big h, numL_append, ih (u / 10) (by omega), Option.bind_some]
      show (if isD (UInt8.ofNat (48 + u % 10)) = true then some (cap (10 * cap ((u / 10 : Nat) : Int) + dvI (UInt8.ofNat (48 + u % 10)))) else none) = _
      rw [if_pos h1, h2]
      congr 1
      unfold cap
      split <;> split <;> split <;> omega
theorem numL_zeros (z : Nat) : numL (List.replicate z 48) 0 = some 0 := by
  induction z with
  | zero => rfl
  | succ z ih => rw [List.replicate_succ]; exact ih
/-- A number with zeros ahead. -/
theorem num_zeros (z u : Nat) : num (List.replicate z 48 ++ dec u) = (cap u, true) := by
  unfold num
  rw [numL_append, numL_zeros, Option.bind_some, numL_dec]
  have : (List.replicate z 48 ++ dec u != []) = true := by
    rw [bne_iff_ne]; intro h; exact (dec_all u).2 (List.append_eq_nil_iff.1 h).2
  rw [this]
theorem zeros_all (z u : Nat) : (List.replicate z 48 ++ dec u).all isD = true := by
  rw [List.all_append, (dec_all u).1, Bool.and_true, List.all_eq_true]
  intro x hx
  rw [List.eq_of_mem_replicate hx]; decide
end Go.Eng.Pure
