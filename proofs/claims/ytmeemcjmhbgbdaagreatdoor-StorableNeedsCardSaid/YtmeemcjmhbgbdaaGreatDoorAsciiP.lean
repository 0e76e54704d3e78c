/- Layer 1: tokens, texts, numbers, quoted strings: what the functions compute, in plain words. -/
import Derived.Test.YtmeemcjmhbgbdaaGreatDoorListP
namespace Go.Eng.Pure
open Go Go.Eng
set_option linter.unusedVariables false
theorem all_u8 (p : UInt8 → Bool) (h : (List.range 256).all (fun n => p (UInt8.ofNat n)) = true) (c : UInt8) : p c = true := by
  have h1 := List.all_eq_true.1 h c.toNat (List.mem_range.2 c.toNat_lt)
  rwa [UInt8.ofNat_toNat] at h1
def signs : Str := [33, 35, 36, 37, 38, 39, 42, 43, 45, 46, 94, 95, 96, 124, 126]
def tokB (c : UInt8) : Bool := (((decide (97 ≤ c)) && (decide (c ≤ 122))) || ((decide (65 ≤ c)) && (decide (c ≤ 90)))) || ((decide (48 ≤ c)) && (decide (c ≤ 57))) || signs.contains c
def tok (s : Str) : Bool := s.all tokB && s != []
def txtB (c : UInt8) : Bool := ((c == 9) || ((decide (32 ≤ c)) && (decide (c ≤ 126)))) || (decide (128 ≤ c))
def txt (s : Str) : Bool := s.all txtB
theorem part_eq (c : UInt8) : ascii_part c = some (tokB c) := by
  have := all_u8 (fun c => decide (ascii_part c = some (tokB c))) (by decide +kernel) c
  simpa using this
/-- A loop that looks for a bad byte. -/
theorem while_bad (l : Str) (hl : l.length ≤ 1073741824) (bad : UInt8 → Bool) (body : Int → Option (Int ⊕ (Unit ⊕ Bool))) (r : Bool)
    (h : ∀ (n : Nat) (hn : n < l.length), body (n : Int) = some (if bad l[n] = true then .inr (.inr r) else .inl (wr ((n : Int) + 1)))) (h' : body (l.length : Int) = some (.inr (.inl ()))) :
    whileO body 0 = some (if l.any bad then .inr r else .inl ()) := by
  refine while_any body l bad (.inr r) (.inl ()) (fun n hn => ?_) h'
  have e2 : wr ((n : Int) + 1) = (n : Int) + 1 := by rw [wrs (by omega)]; omega
  rw [h n hn, e2]
theorem TokenByte_eq (c : UInt8) : ref01_TokenByte c = some (tokB c) := by
  unfold ref01_TokenByte tokB
  rw [while_bad signs (by decide) (fun x => x == c) (ref01_TokenByte_L0 c) true]
  · have : signs.contains c = signs.any (fun x => x == c) := by
      rw [List.contains_eq_any_beq]
      congr 1; funext x
      rw [Bool.eq_iff_iff]; simp only [beq_iff_eq]; exact ⟨fun h => h.symm, fun h => h.symm⟩
    rw [this]
    cases ((((decide (97 ≤ c)) && (decide (c ≤ 122))) || ((decide (65 ≤ c)) && (decide (c ≤ 90)))) || ((decide (48 ≤ c)) && (decide (c ≤ 57)))) with
    | true => rfl
    | false => cases signs.any (fun x => x == c) <;> rfl
  · intro n hn
    have e1 : decide ((n : Int) < 15) = true := lt_true hn
    have e2 : xnth ([33, 35, 36, 37, 38, 39, 42, 43, 45, 46, 94, 95, 96, 124, 126] : Str) (n : Int) = some signs[n] := xnth_get hn
    simp only [ref01_TokenByte_L0, e1, bif_true, e2, some_bind]
    cases signs[n] == c <;> rfl
  · rfl
theorem not_any (l : Str) (p : UInt8 → Bool) : l.any (fun c => !p c) = !l.all p := by
  induction l with
  | nil => rfl
  | cons a l ih => rw [List.any_cons, List.all_cons, ih, Bool.not_and]
theorem Token_eq (s : Str) (hs : s.length ≤ 1073741824) : ascii_Token s = some (tok s) := by
  unfold ascii_Token tok
  rw [while_bad s hs (fun c => !tokB c) (ascii_Token_L0 s) false]
  · rw [not_any]; cases s.all tokB <;> rfl
  · intro n hn
    simp only [ascii_Token_L0, lt_true hn, bif_true, xnth_get hn, some_bind, part_eq]
    cases tokB s[n] <;> rfl
  · simp only [ascii_Token_L0, lt_false (Nat.le_refl s.length), bif_false]
theorem RToken_eq (s : Str) (hs : s.length ≤ 1073741824) : ref01_Token s = some (tok s) := by
  unfold ref01_Token tok
  rw [while_bad s hs (fun c => !tokB c) (ref01_Token_L0 s) false]
  · rw [not_any]; cases s.all tokB <;> rfl
  · intro n hn
    simp only [ref01_Token_L0, lt_true hn, bif_true, xnth_get hn, some_bind, TokenByte_eq]
    cases tokB s[n] <;> rfl
  · simp only [ref01_Token_L0, lt_false (Nat.le_refl s.length), bif_false]
theorem textByte_eq (c : UInt8) : ref01_textByte c = some (txtB c) := rfl
theorem text_eq (c : UInt8) : ((bif decide (c < 32) then some (c != 9) else some false).bind fun b17 => (bif b17 then some true else some (c == 127))) = some (!txtB c) := by
  have := all_u8 (fun c => decide (((bif decide (c < 32) then some (c != 9) else some false).bind fun b17 => (bif b17 then some true else some (c == 127))) = some (!txtB c))) (by decide +kernel) c
  simpa using this
theorem Text_eq (s : Str) (hs : s.length ≤ 1073741824) : ascii_Text s = some (txt s) := by
  unfold ascii_Text txt
  rw [while_bad s hs (fun c => !txtB c) (ascii_Text_L0 s) false]
  · rw [not_any]; cases s.all txtB <;> rfl
  · intro n hn
    have e := text_eq s[n]
    have e' : ((bif decide (s[n] < 32) then some (s[n] != 9) else some false).bind fun b17 => (bif b17 then some true else some (s[n] == 127)).bind fun b21 => (bif b21 then some (.inr (.inr false)) else some (.inl (wr ((n : Int) + 1))) : Option (Int ⊕ (Unit ⊕ Bool)))) = (some (!txtB s[n])).bind fun b21 => (bif b21 then some (.inr (.inr false)) else some (.inl (wr ((n : Int) + 1)))) := by
      rw [← e, Option.bind_assoc]
    simp only [ascii_Text_L0, lt_true hn, bif_true, xnth_get hn, some_bind]
    rw [e', some_bind]
    cases txtB s[n] <;> rfl
  · simp only [ascii_Text_L0, lt_false (Nat.le_refl s.length), bif_false]
/-! numbers -/
def isD (c : UInt8) : Bool := (decide (48 ≤ c)) && (decide (c ≤ 57))
def dvI (c : UInt8) : Int := ((c - 48).toNat : Int)
def cap (n : Int) : Int := if 2147483647 < n then 2147483647 else n
theorem RDigit_eq (c : UInt8) : ref01_Digit c = some (isD c) := rfl
theorem dvI_le (c : UInt8) (h : isD c = true) : 0 ≤ dvI c ∧ dvI c ≤ 9 := by
  have := all_u8 (fun c => !isD c || (decide (0 ≤ dvI c) && decide (dvI c ≤ 9))) (by decide +kernel) c
  rw [h] at this
  simpa using this
theorem isD_neg (c : UInt8) : (bif decide (c < 48) then some true else some (decide (57 < c))) = some (!isD c) := by
  have := all_u8 (fun c => decide ((bif decide (c < 48) then some true else some (decide (57 < c))) = some (!isD c))) (by decide +kernel) c
  simpa using this
def numL : Str → Int → Option Int
  | [], n => some n
  | c :: r, n => if isD c then numL r (cap (10 * n + dvI c)) else none
def num (s : Str) : Int × Bool := match numL s 0 with | some n => (n, s != []) | none => (0, false)
theorem cap_bd {n : Int} (h : 0 ≤ n) : 0 ≤ cap n ∧ cap n ≤ 2147483647 := by unfold cap; split <;> omega
def numStep (n : Int) (c : UInt8) : Int ⊕ (Int ⊕ (Int × Bool)) := if isD c then .inl (cap (10 * n + dvI c)) else .inr (.inr (0, false))
theorem num_run : ∀ (s : Str) (n : Int), run numStep .inl s n = match numL s n with | some n => .inl n | none => .inr (0, false)
  | [], n => rfl
  | c :: r, n => by
    unfold run numL numStep
    cases isD c with
    | true => exact num_run r _
    | false => rfl
theorem Number_eq (s : Str) (hs : s.length ≤ 1073741824) : ascii_Number s = some (num s) := by
  unfold ascii_Number num
  have h := while_run0 (fun (n : Int) (i : Int) => (n, i)) s numStep .inl (ascii_Number_L0 s) (fun _ n => 0 ≤ n ∧ n ≤ 2147483647) 0 ⟨by decide, by decide⟩ ?_ ?_
  · rw [h, some_bind, num_run]
    cases numL s 0 <;> rfl
  · intro n hn m hm
    unfold numStep
    refine ⟨?_, fun st' h => ?_⟩
    · simp only [ascii_Number_L0, lt_true hn, bif_true, xnth_get hn, some_bind]
      have e : ∀ x : Option Bool, x = some (!isD s[n]) → (x.bind fun b22 => (bif b22 then some (.inr (.inr (0, false))) else some (.inl ((if 2147483647 < (wr ((wr (10 * m)) + ((s[n] - 48).toNat : Int))) then 2147483647 else (wr ((wr (10 * m)) + ((s[n] - 48).toNat : Int)))), wr ((n : Int) + 1))) : Option ((Int × Int) ⊕ (Int ⊕ (Int × Bool))))) = some (if isD s[n] = true then .inl (cap (10 * m + dvI s[n]), ((n + 1 : Nat) : Int)) else .inr (.inr (0, false))) := by
        intro x hx
        rw [hx, some_bind]
        cases hd : isD s[n] with
        | false => rfl
        | true =>
          have hb := dvI_le _ hd
          have e1 : wr (10 * m) = 10 * m := wr_nat (by omega) (by omega)
          have e2 : ((s[n] - 48).toNat : Int) = dvI s[n] := rfl
          rw [e1, e2, wr_nat (n := 10 * m + dvI s[n]) (by omega) (by omega), wrs (by omega)]
          rfl
      rw [e _ (isD_neg s[n])]
      cases isD s[n] <;> rfl
    · split at h
      · rename_i hd
        have hb := dvI_le _ hd
        cases h
        exact cap_bd (by omega)
      · cases h
  · intro m _
    simp only [ascii_Number_L0, lt_false (Nat.le_refl s.length), bif_false]
theorem RNumber_eq (s : Str) (hs : s.length ≤ 1073741824) : ref01_Number s = some (num s) := by
  unfold ref01_Number num
  have h := while_run0 (fun (n : Int) (i : Int) => (n, i)) s numStep .inl (ref01_Number_L0 s) (fun _ n => 0 ≤ n ∧ n ≤ 2147483647) 0 ⟨by decide, by decide⟩ ?_ ?_
  · rw [h, some_bind, num_run]
    cases numL s 0 <;> rfl
  · intro n hn m hm
    unfold numStep
    refine ⟨?_, fun st' h => ?_⟩
    · simp only [ref01_Number_L0, lt_true hn, bif_true, xnth_get hn, some_bind, RDigit_eq]
      cases hd : isD s[n] with
      | false => rfl
      | true =>
        have hb := dvI_le _ hd
        have e1 : wr (m * 10) = 10 * m := by rw [wr_nat (by omega) (by omega)]; omega
        have e2 : ((s[n] - 48).toNat : Int) = dvI s[n] := rfl
        rw [Bool.not_true, bif_false, e1, e2, wr_nat (n := 10 * m + dvI s[n]) (by omega) (by omega), wrs (by omega)]
        unfold cap
        by_cases hc : 2147483647 < 10 * m + dvI s[n]
        · simp [hc]
        · simp [hc]
    · split at h
      · rename_i hd
        have hb := dvI_le _ hd
        cases h
        exact cap_bd (by omega)
      · cases h
  · intro m _
    simp only [ref01_Number_L0, lt_false (Nat.le_refl s.length), bif_false]
theorem numL_bd : ∀ (s : Str) (n m : Int), 0 ≤ n → n ≤ 2147483647 → numL s n = some m → 0 ≤ m ∧ m ≤ 2147483647
  | [], n, m, h0, h1, h => by cases h; exact ⟨h0, h1⟩
  | c :: r, n, m, h0, h1, h => by
    unfold numL at h
    split at h
    · rename_i hd
      have hb := dvI_le _ hd
      have hc := cap_bd (n := 10 * n + dvI c) (by omega)
      exact numL_bd r _ m hc.1 hc.2 h
    · cases h
theorem num_bd (s : Str) : 0 ≤ (num s).1 ∧ (num s).1 ≤ 2147483647 := by
  unfold num
  cases h : numL s 0 with
  | none => exact ⟨Int.le_refl 0, by show (0 : Int) ≤ 2147483647; omega⟩
  | some m => exact numL_bd s 0 m (by decide) (by decide) h
/-! quoted strings -/
def unqL : Str → Str → Option Str
  | [], acc => some acc
  | c :: r, acc => if c = 34 then none else if c = 92 then (match r with | [] => none | d :: r' => unqL r' (acc ++ [d])) else unqL r (acc ++ [c])
def unqIn (s : Str) : Str × Bool := if txt s then (match unqL s [] with | some x => (x, true) | none => ([], false)) else ([], false)
def unq (s : Str) : Str × Bool :=
  match s with
  | a :: r => if a = 34 ∧ r ≠ [] ∧ r.getLast? = some 34 then unqIn r.dropLast else ([], false)
  | [] => ([], false)
def unqO : Option Str → (List UInt8) ⊕ (Str × Bool) | some x => .inl x | none => .inr ([], false)
theorem Unq_loop (s : Str) (hs : s.length ≤ 1073741824) : ∀ (k i : Nat) (out : Str), s.length ≤ i + k → i ≤ s.length → out.length ≤ i → whileO (ascii_Unquote_L0 s) (out, (i : Int)) = some (unqO (unqL (s.drop i) out)) := by
  intro k
  induction k with
  | zero =>
    intro i out hk hi ho
    obtain rfl : i = s.length := by omega
    rw [List.drop_length]
    refine whileO_done ?_
    simp only [ascii_Unquote_L0, lt_false (Nat.le_refl s.length), bif_false]; rfl
  | succ k ih =>
    intro i out hk hi ho
    by_cases hlt : i < s.length
    · have e2 : wr ((i : Int) + 1) = ((i + 1 : Nat) : Int) := wrs (by omega)
      rw [List.drop_eq_getElem_cons hlt]
      have ex := xnth_get hlt
      generalize s[i] = c at ex
      unfold unqL
      by_cases h34 : c = 34
      · subst h34
        rw [if_pos rfl]
        refine whileO_done ?_
        simp only [ascii_Unquote_L0, lt_true hlt, bif_true, ex, some_bind]; rfl
      · have h34' : (c == 34) = false := by simpa using h34
        rw [if_neg h34]
        by_cases h92 : c = 92
        · subst h92
          rw [if_pos rfl]
          by_cases hl2 : i + 1 < s.length
          · rw [List.drop_eq_getElem_cons hl2]
            have e3 : (((i + 1 : Nat) : Int) == (s.length : Int)) = false := by rw [eqI]; simp; omega
            have e4 : wr (((i + 1 : Nat) : Int) + 1) = ((i + 1 + 1 : Nat) : Int) := wrs (by omega)
            have hb : ascii_Unquote_L0 s (out, (i : Int)) = some (.inl (out ++ [s[i + 1]], ((i + 1 + 1 : Nat) : Int))) := by
              simp only [ascii_Unquote_L0, lt_true hlt, bif_true, ex, some_bind, h34', bif_false, beq_self_eq_true, e2, e3, xnth_get hl2]
              rw [xapp_sm (by omega) (one_sm _), some_bind, e4]
            rw [whileO_next hb, ih (i + 1 + 1) _ (by omega) (by omega) (by rw [List.length_append, List.length_singleton]; omega)]
          · have e3 : (((i + 1 : Nat) : Int) == (s.length : Int)) = true := by rw [eqI]; simp; omega
            rw [List.drop_eq_nil_of_le (by omega)]
            refine whileO_done ?_
            simp only [ascii_Unquote_L0, lt_true hlt, bif_true, ex, some_bind, h34', bif_false, beq_self_eq_true, e2, e3]; rfl
        · have h92' : (c == 92) = false := by simpa using h92
          rw [if_neg h92]
          have hb : ascii_Unquote_L0 s (out, (i : Int)) = some (.inl (out ++ [c], ((i + 1 : Nat) : Int))) := by
            simp only [ascii_Unquote_L0, lt_true hlt, bif_true, ex, some_bind, h34', bif_false, h92', e2]
            rw [xapp_sm (by omega) (one_sm _), some_bind]
          rw [whileO_next hb, ih (i + 1) _ (by omega) (by omega) (by rw [List.length_append, List.length_singleton]; omega)]
    · obtain rfl : i = s.length := by omega
      rw [List.drop_length]
      refine whileO_done ?_
      simp only [ascii_Unquote_L0, lt_false (Nat.le_refl s.length), bif_false]; rfl
def unqT : Str → Str → Option Str
  | [], acc => some acc
  | c :: r, acc => if c = 34 then none else if c = 92 then (match r with | [] => none | d :: r' => if txtB d then unqT r' (acc ++ [d]) else none) else if txtB c then unqT r (acc ++ [c]) else none
theorem unqT_eq : ∀ (n : Nat) (s acc : Str), s.length ≤ n → unqT s acc = if txt s then unqL s acc else none := by
  intro n
  induction n with
  | zero =>
    intro s acc h
    obtain rfl := List.eq_nil_of_length_eq_zero (Nat.le_zero.1 h)
    rfl
  | succ n ih =>
    intro s acc h
    match s with
    | [] => rfl
    | c :: r =>
      unfold unqT unqL txt
      rw [List.all_cons]
      by_cases h34 : c = 34
      · rw [if_pos h34, if_pos h34]; split <;> rfl
      · rw [if_neg h34, if_neg h34]
        by_cases h92 : c = 92
        · subst h92
          rw [if_pos rfl, if_pos rfl, show txtB 92 = true from rfl, Bool.true_and]
          match r with
          | [] => rfl
          | d :: r' =>
            rw [List.all_cons]
            show (if txtB d then unqT r' (acc ++ [d]) else none) = _
            have := ih r' (acc ++ [d]) (by simp at h; omega)
            rw [this]
            cases txtB d
            · rfl
            · simp [txt]
        · rw [if_neg h92, if_neg h92]
          have := ih r (acc ++ [c]) (by simp at h; omega)
          rw [this]
          cases txtB c
          · rfl
          · simp [txt]
theorem RUnq_loop (s : Str) (hs : s.length ≤ 1073741824) : ∀ (k i : Nat) (out : Str), s.length ≤ i + k → i ≤ s.length → out.length ≤ i → whileO (ref01_Unquote_L0 s) (out, (i : Int)) = some (unqO (unqT (s.drop i) out)) := by
  intro k
  induction k with
  | zero =>
    intro i out hk hi ho
    obtain rfl : i = s.length := by omega
    rw [List.drop_length]
    refine whileO_done ?_
    simp only [ref01_Unquote_L0, lt_false (Nat.le_refl s.length), bif_false]; rfl
  | succ k ih =>
    intro i out hk hi ho
    by_cases hlt : i < s.length
    · have e2 : wr ((i : Int) + 1) = ((i + 1 : Nat) : Int) := wrs (by omega)
      rw [List.drop_eq_getElem_cons hlt]
      have ex := xnth_get hlt
      generalize s[i] = c at ex
      unfold unqT
      by_cases h34 : c = 34
      · subst h34
        rw [if_pos rfl]
        refine whileO_done ?_
        simp only [ref01_Unquote_L0, lt_true hlt, bif_true, ex, some_bind]; rfl
      · have h34' : (c == 34) = false := by simpa using h34
        rw [if_neg h34]
        by_cases h92 : c = 92
        · subst h92
          rw [if_pos rfl]
          by_cases hl2 : i + 1 < s.length
          · rw [List.drop_eq_getElem_cons hl2]
            have e3 : (((i + 1 : Nat) : Int) == (s.length : Int)) = false := by rw [eqI]; simp; omega
            have e4 : wr (((i + 1 : Nat) : Int) + 1) = ((i + 1 + 1 : Nat) : Int) := wrs (by omega)
            have hb : ref01_Unquote_L0 s (out, (i : Int)) = some (if txtB s[i + 1] then .inl (out ++ [s[i + 1]], ((i + 1 + 1 : Nat) : Int)) else .inr (.inr ([], false))) := by
              simp only [ref01_Unquote_L0, lt_true hlt, bif_true, ex, some_bind, h34', bif_false, beq_self_eq_true, e2, e3, xnth_get hl2, textByte_eq]
              rw [xapp_sm (by omega) (one_sm _), some_bind, e4]
              cases txtB s[i + 1] <;> rfl
            cases ht : txtB s[i + 1] with
            | true =>
              rw [ht, if_pos rfl] at hb
              rw [whileO_next hb, ih (i + 1 + 1) _ (by omega) (by omega) (by rw [List.length_append, List.length_singleton]; omega)]
              show _ = some (unqO (if txtB s[i + 1] = true then _ else _))
              rw [ht, if_pos rfl]
            | false =>
              rw [ht, if_neg (by decide)] at hb
              rw [whileO_done hb]
              show _ = some (unqO (if txtB s[i + 1] = true then _ else _))
              rw [ht, if_neg (by decide)]; rfl
          · have e3 : (((i + 1 : Nat) : Int) == (s.length : Int)) = true := by rw [eqI]; simp; omega
            rw [List.drop_eq_nil_of_le (by omega)]
            refine whileO_done ?_
            simp only [ref01_Unquote_L0, lt_true hlt, bif_true, ex, some_bind, h34', bif_false, beq_self_eq_true, e2, e3]; rfl
        · have h92' : (c == 92) = false := by simpa using h92
          rw [if_neg h92]
          have hb : ref01_Unquote_L0 s (out, (i : Int)) = some (if txtB c then .inl (out ++ [c], ((i + 1 : Nat) : Int)) else .inr (.inr ([], false))) := by
            simp only [ref01_Unquote_L0, lt_true hlt, bif_true, ex, some_bind, h34', bif_false, h92', e2, textByte_eq]
            rw [xapp_sm (by omega) (one_sm _), some_bind]
            cases txtB c <;> rfl
          cases ht : txtB c with
          | true =>
            rw [ht, if_pos rfl] at hb
            rw [whileO_next hb, ih (i + 1) _ (by omega) (by omega) (by rw [List.length_append, List.length_singleton]; omega), if_pos rfl]
          | false =>
            rw [ht, if_neg (by decide)] at hb
            rw [whileO_done hb, if_neg (by decide)]; rfl
    · obtain rfl : i = s.length := by omega
      rw [List.drop_length]
      refine whileO_done ?_
      simp only [ref01_Unquote_L0, lt_false (Nat.le_refl s.length), bif_false]; rfl
theorem quotes_split (s : Str) : (s.length < 2 ∧ unq s = ([], false)) ∨ ∃ a m z, s = a :: (m ++ [z]) ∧ unq s = if a = 34 ∧ z = 34 then unqIn m else ([], false) := by
  match s with
  | [] => exact .inl ⟨by simp, rfl⟩
  | [a] => exact .inl ⟨by simp, by simp [unq]⟩
  | a :: b :: r =>
    obtain ⟨m, z, hm⟩ : ∃ m z, b :: r = m ++ [z] := ⟨(b :: r).dropLast, (b :: r).getLast (by simp), (List.dropLast_concat_getLast (by simp)).symm⟩
    rw [hm]
    exact .inr ⟨a, m, z, rfl, by simp [unq]⟩
theorem quotes_facts (a z : UInt8) (m : Str) (h : (a :: (m ++ [z])).length ≤ 1073741824) :
    decide ((((a :: (m ++ [z])).length : Nat) : Int) < 2) = false ∧ wr ((((a :: (m ++ [z])).length : Nat) : Int) - 1) = ((m.length + 1 : Nat) : Int) ∧ xnth (a :: (m ++ [z])) ((m.length + 1 : Nat) : Int) = some z ∧ xsub (a :: (m ++ [z])) 1 ((m.length + 1 : Nat) : Int) = some m := by
  have hlen : (a :: (m ++ [z])).length = m.length + 2 := by simp
  rw [hlen] at h
  refine ⟨?_, ?_, ?_, ?_⟩
  · rw [hlen]
    exact decide_eq_false (by omega)
  · rw [hlen, wr_nat (by omega) (by omega)]; omega
  · rw [xnth_nat]; simp
  · have := xsub_nat (l := a :: (m ++ [z])) (i := 1) (j := m.length + 1) ⟨by omega, by simp⟩
    have e : xsub (a :: (m ++ [z])) 1 ((m.length + 1 : Nat) : Int) = _ := this
    rw [e]; simp
theorem Unquote_eq (s : Str) (hs : s.length ≤ 1073741824) : ascii_Unquote s = some (unq s) := by
  rcases quotes_split s with ⟨h, hu⟩ | ⟨a, m, z, rfl, hu⟩
  · have e : decide ((s.length : Int) < 2) = true := lt_true h
    rw [hu]; simp only [ascii_Unquote, e, bif_true, some_bind]
  · obtain ⟨e1, e2, e3, e4⟩ := quotes_facts a z m hs
    have hm : m.length ≤ 1073741824 := by simp at hs; omega
    rw [hu]
    simp only [ascii_Unquote, e1, e2, e3, e4, bif_false, xnth_cons, some_bind, Text_eq m hm]
    by_cases ha : a = 34
    · by_cases hz : z = 34
      · subst ha; subst hz
        have hl := Unq_loop m hm m.length 0 [] (by omega) (by omega) (by simp)
        have hl : whileO (ascii_Unquote_L0 m) ([], 0) = _ := hl
        rw [hl]
        simp only [bne_self_eq_false, bif_false, some_bind, and_self, if_true, List.drop_zero]
        unfold unqIn
        cases txt m
        · rfl
        · cases unqL m [] <;> rfl
      · have hz' : (z != 34) = true := by simpa using hz
        simp [ha, hz, hz']
    · have ha' : (a != 34) = true := by simpa using ha
      simp [ha, ha']
theorem RUnquote_eq (s : Str) (hs : s.length ≤ 1073741824) : ref01_Unquote s = some (unq s) := by
  rcases quotes_split s with ⟨h, hu⟩ | ⟨a, m, z, rfl, hu⟩
  · have e : decide ((s.length : Int) < 2) = true := lt_true h
    rw [hu]; simp only [ref01_Unquote, e, bif_true, some_bind]
  · obtain ⟨e1, e2, e3, e4⟩ := quotes_facts a z m hs
    have hm : m.length ≤ 1073741824 := by simp at hs; omega
    rw [hu]
    simp only [ref01_Unquote, e1, e2, e3, e4, bif_false, xnth_cons, some_bind]
    by_cases ha : a = 34
    · by_cases hz : z = 34
      · subst ha; subst hz
        have hl := RUnq_loop m hm m.length 0 [] (by omega) (by omega) (by simp)
        have hl : whileO (ref01_Unquote_L0 m) ([], 0) = _ := hl
        rw [hl]
        simp only [bne_self_eq_false, bif_false, some_bind, and_self, if_true, List.drop_zero]
        rw [unqT_eq m.length m [] (Nat.le_refl _)]
        unfold unqIn
        cases txt m
        · rfl
        · cases unqL m [] <;> rfl
      · have hz' : (z != 34) = true := by simpa using hz
        simp [ha, hz, hz']
    · have ha' : (a != 34) = true := by simpa using ha
      simp [ha, ha']
theorem Fold_eq (a b : Str) (ha : a.length ≤ 1073741824) (hb : b.length ≤ 1073741824) : ascii_Fold a b = some (fold a b) := by
  simp only [ascii_Fold, Lower_eq a ha, Lower_eq b hb, some_bind, eqI, fold]
  cases a.length == b.length <;> rfl
end Go.Eng.Pure
