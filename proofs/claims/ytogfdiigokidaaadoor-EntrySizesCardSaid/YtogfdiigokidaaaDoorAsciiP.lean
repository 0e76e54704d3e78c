/- Layer 1: tokens, texts, numbers, quoted strings: what the functions compute, in plain words. -/
import Derived.Test.YtogfdiigokidaaaDoorListP
namespace Go.Eng.Pure
open Go Go.Eng
set_option linter.unusedVariables false
theorem all_u8 (p : UInt8 → Bool) (h : (List.range 256).all (fun n => p (UInt8.ofNat n)) = true) (c : UInt8) : p c = true := by
  have h1 := List.all_eq_true.1 h c.toNat (List.mem_range.2 c.toNat_lt)
  rwa [UInt8.ofNat_toNat] at h1
def signs : Str := [33, 35, 36, 37, 38, 39, 42, 43, 45, 46, 94, 95, 96, 124, 126]
def tokB (c : UInt8) : Bool := (((decide (97 ≤ c)) && (decide (c ≤ 122))) || ((decide (65 ≤ c)) && (decide (c ≤ 90)))) || ((decide (48 ≤ c)) && (decide (c ≤ 57))) || signs.contains c
/-! numbers -/
def isD (c : UInt8) : Bool := (decide (48 ≤ c)) && (decide (c ≤ 57))
def dvI (c : UInt8) : Int := ((c - 48).toNat : Int)
def cap (n : Int) : Int := if 2147483647 < n then 2147483647 else n
theorem RDigit_eq (c : UInt8) : ref01_Digit c = some (isD c) := rfl
theorem dvI_le (c : UInt8) (h : isD c = true) : 0 ≤ dvI c ∧ dvI c ≤ 9 := by
  have := all_u8 (fun c => !isD c || (decide (0 ≤ dvI c) && decide (dvI c ≤ 9))) (by decide +kernel) c
  rw [h] at this
  simpa using this
theorem isD_neg (c : UInt8) : (bif decide (c < 48) then some true else some (decide (57 < c))) = some (!isD c) := by
  have := all_u8 (fun c => decide ((bif decide (c < 48) then some true else some (decide (57 < c))) = some (!isD c))) (by decide +kernel) c
  simpa using this
def numL : Str → Int → Option Int
  | [], n => some n
  | c :: r, n => if isD c then numL r (cap (10 * n + dvI c)) else none
def num (s : Str) : Int × Bool := match numL s 0 with | some n => (n, s != []) | none => (0, false)
theorem cap_bd {n : Int} (h : 0 ≤ n) : 0 ≤ cap n ∧ cap n ≤ 2147483647 := by unfold cap; split <;> omega
def numStep (n : Int) (c : UInt8) : Int ⊕ (Int ⊕ (Int × Bool)) := if isD c then .inl (cap (10 * n + dvI c)) else .inr (.inr (0, false))
theorem num_run : ∀ (s : Str) (n : Int), run numStep .inl s n = match numL s n with | some n => .inl n | none => .inr (0, false)
  | [], n => rfl
  | c :: r, n => by
    unfold run numL numStep
    cases isD c with
    | true => exact num_run r _
    | false => rfl
theorem Number_eq (s : Str) (hs : s.length ≤ 1073741824) : ascii_Number s = some (num s) := by
  unfold ascii_Number num
  have h := while_run0 (fun (n : Int) (i : Int) => (n, i)) s numStep .inl (ascii_Number_L0 s) (fun _ n => 0 ≤ n ∧ n ≤ 2147483647) 0 ⟨by decide, by decide⟩ ?_ ?_
  · rw [h, some_bind, num_run]
    cases numL s 0 <;> rfl
  · intro n hn m hm
    unfold numStep
    refine ⟨?_, fun st' h => ?_⟩
    · simp only [ascii_Number_L0, lt_true hn, bif_true, xnth_get hn, some_bind]
      have e : ∀ x : Option Bool, x = some (!isD s[n]) → (x.bind fun b22 => (bif b22 then some (.inr (.inr (0, false))) else some (.inl ((if 2147483647 < (wr ((wr (10 * m)) + ((s[n] - 48).toNat : Int))) then 2147483647 else (wr ((wr (10 * m)) + ((s[n] - 48).toNat : Int)))), wr ((n : Int) + 1))) : Option ((Int × Int) ⊕ (Int ⊕ (Int × Bool))))) = some (if isD s[n] = true then .inl (cap (10 * m + dvI s[n]), ((n + 1 : Nat) : Int)) else .inr (.inr (0, false))) := by
        intro x hx
        rw [hx, some_bind]
        cases hd : isD s[n] with
        | false => rfl
        | true =>
          have hb := dvI_le _ hd
          have e1 : wr (10 * m) = 10 * m := wr_nat (by omega) (by omega)
          have e2 : ((s[n] - 48).toNat : Int) = dvI s[n] := rfl
          rw [e1, e2, wr_nat (n := 10 * m + dvI s[n]) (by omega) (by omega), wrs (by omega)]
          rfl
      rw [e _ (isD_neg s[n])]
      cases isD s[n] <;> rfl
    · split at h
      · rename_i hd
        have hb := dvI_le _ hd
        cases h
        exact cap_bd (by omega)
      · cases h
  · intro m _
    simp only [ascii_Number_L0, lt_false (Nat.le_refl s.length), bif_false]
theorem RNumber_eq (s : Str) (hs : s.length ≤ 1073741824) : ref01_Number s = some (num s) := by
  unfold ref01_Number num
  have h := while_run0 (fun (n : Int) (i : Int) => (n, i)) s numStep .inl (ref01_Number_L0 s) (fun _ n => 0 ≤ n ∧ n ≤ 2147483647) 0 ⟨by decide, by decide⟩ ?_ ?_
  · rw [h, some_bind, num_run]
    cases numL s 0 <;> rfl
  · intro n hn m hm
    unfold numStep
    refine ⟨?_, fun st' h => ?_⟩
    · simp only [ref01_Number_L0, lt_true hn, bif_true, xnth_get hn, some_bind, RDigit_eq]
      cases hd : isD s[n] with
      | false => rfl
      | true =>
        have hb := dvI_le _ hd
        have e1 : wr (m * 10) = 10 * m := by rw [wr_nat (by omega) (by omega)]; omega
        have e2 : ((s[n] - 48).toNat : Int) = dvI s[n] := rfl
        rw [Bool.not_true, bif_false, e1, e2, wr_nat (n := 10 * m + dvI s[n]) (by omega) (by omega), wrs (by omega)]
        unfold cap
        by_cases hc : 2147483647 < 10 * m + dvI s[n]
        · simp [hc]
        · simp [hc]
    · split at h
      · rename_i hd
        have hb := dvI_le _ hd
        cases h
        exact cap_bd (by omega)
      · cases h
  · intro m _
    simp only [ref01_Number_L0, lt_false (Nat.le_refl s.length), bif_false]
theorem numL_bd : ∀ (s : Str) (n m : Int), 0 ≤ n → n ≤ 2147483647 → numL s n = some m → 0 ≤ m ∧ m ≤ 2147483647
  | [], n, m, h0, h1, h => by cases h; exact ⟨h0, h1⟩
  | c :: r, n, m, h0, h1, h => by
    unfold numL at h
    split at h
    · rename_i hd
      have hb := dvI_le _ hd
      have hc := cap_bd (n := 10 * n + dvI c) (by omega)
      exact numL_bd r _ m hc.1 hc.2 h
    · cases h
theorem num_bd (s : Str) : 0 ≤ (num s).1 ∧ (num s).1 ≤ 2147483647 := by
  unfold num
  cases h : numL s 0 with
  | none => exact ⟨Int.le_refl 0, by show (0 : Int) ≤ 2147483647; omega⟩
  | some m => exact numL_bd s 0 m (by decide) (by decide) h
end Go.Eng.Pure
