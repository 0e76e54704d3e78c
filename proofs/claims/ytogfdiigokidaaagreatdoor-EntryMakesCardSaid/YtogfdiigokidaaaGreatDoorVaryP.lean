/- A part of the proof of laws of the seat. -/
import Derived.Test.YtogfdiigokidaaaGreatDoorListP
namespace Go.Eng.Pure
open Go Go.Eng
set_option linter.unusedVariables false
theorem all_u8 (p : UInt8 → Bool) (h : (List.range 256).all (fun n => p (UInt8.ofNat n)) = true) (c : UInt8) : p c = true := by
  have h1 := List.all_eq_true.1 h c.toNat (List.mem_range.2 c.toNat_lt)
  rwa [UInt8.ofNat_toNat] at h1
def signs : Str := [33, 35, 36, 37, 38, 39, 42, 43, 45, 46, 94, 95, 96, 124, 126]
def tokB (c : UInt8) : Bool := (((decide (97 ≤ c)) && (decide (c ≤ 122))) || ((decide (65 ≤ c)) && (decide (c ≤ 90)))) || ((decide (48 ≤ c)) && (decide (c ≤ 57))) || signs.contains c
def tok (s : Str) : Bool := s.all tokB && s != []
def txtB (c : UInt8) : Bool := ((c == 9) || ((decide (32 ≤ c)) && (decide (c ≤ 126)))) || (decide (128 ≤ c))
def txt (s : Str) : Bool := s.all txtB
theorem part_eq (c : UInt8) : ascii_part c = some (tokB c) := by
  have := all_u8 (fun c => decide (ascii_part c = some (tokB c))) (by decide +kernel) c
  simpa using this
theorem while_bad (l : Str) (hl : l.length ≤ 1073741824) (bad : UInt8 → Bool) (body : Int → Option (Int ⊕ (Unit ⊕ Bool))) (r : Bool)
    (h : ∀ (n : Nat) (hn : n < l.length), body (n : Int) = some (if bad l[n] = true then .inr (.inr r) else .inl (wr ((n : Int) + 1)))) (h' : body (l.length : Int) = some (.inr (.inl ()))) :
    whileO body 0 = some (if l.any bad then .inr r else .inl ()) := by
  refine while_any body l bad (.inr r) (.inl ()) (fun n hn => ?_) h'
  have e2 : wr ((n : Int) + 1) = (n : Int) + 1 := by rw [wrs (by omega)]; omega
  rw [h n hn, e2]
theorem TokenByte_eq (c : UInt8) : ref01_TokenByte c = some (tokB c) := by
  unfold ref01_TokenByte tokB
  rw [while_bad signs (by decide) (fun x => x == c) (ref01_TokenByte_L0 c) true]
  · have : signs.contains c = signs.any (fun x => x == c) := by
      rw [List.contains_eq_any_beq]
      congr 1; funext x
      rw [Bool.eq_iff_iff]; simp only [beq_iff_eq]; exact ⟨fun h => h.symm, fun h => h.symm⟩
    rw [this]
    cases ((((decide (97 ≤ c)) && (decide (c ≤ 122))) || ((decide (65 ≤ c)) && (decide (c ≤ 90)))) || ((decide (48 ≤ c)) && (decide (c ≤ 57)))) with
    | true => rfl
    | false => cases signs.any (fun x => x == c) <;> rfl
  · intro n hn
    have e1 : decide ((n : Int) < 15) = true := lt_true hn
    have e2 : xnth ([33, 35, 36, 37, 38, 39, 42, 43, 45, 46, 94, 95, 96, 124, 126] : Str) (n : Int) = some signs[n] := xnth_get hn
    simp only [ref01_TokenByte_L0, e1, bif_true, e2, some_bind]
    cases signs[n] == c <;> rfl
  · rfl
theorem not_any (l : Str) (p : UInt8 → Bool) : l.any (fun c => !p c) = !l.all p := by
  induction l with
  | nil => rfl
  | cons a l ih => rw [List.any_cons, List.all_cons, ih, Bool.not_and]
theorem Token_eq (s : Str) (hs : s.length ≤ 1073741824) : ascii_Token s = some (tok s) := by
  unfold ascii_Token tok
  rw [while_bad s hs (fun c => !tokB c) (ascii_Token_L0 s) false]
  · rw [not_any]; cases s.all tokB <;> rfl
  · intro n hn
    simp only [ascii_Token_L0, lt_true hn, bif_true, xnth_get hn, some_bind, part_eq]
    cases tokB s[n] <;> rfl
  · simp only [ascii_Token_L0, lt_false (Nat.le_refl s.length), bif_false]
theorem RToken_eq (s : Str) (hs : s.length ≤ 1073741824) : ref01_Token s = some (tok s) := by
  unfold ref01_Token tok
  rw [while_bad s hs (fun c => !tokB c) (ref01_Token_L0 s) false]
  · rw [not_any]; cases s.all tokB <;> rfl
  · intro n hn
    simp only [ref01_Token_L0, lt_true hn, bif_true, xnth_get hn, some_bind, TokenByte_eq]
    cases tokB s[n] <;> rfl
  · simp only [ref01_Token_L0, lt_false (Nat.le_refl s.length), bif_false]
theorem textByte_eq (c : UInt8) : ref01_textByte c = some (txtB c) := rfl
theorem text_eq (c : UInt8) : ((bif decide (c < 32) then some (c != 9) else some false).bind fun b17 => (bif b17 then some true else some (c == 127))) = some (!txtB c) := by
  have := all_u8 (fun c => decide (((bif decide (c < 32) then some (c != 9) else some false).bind fun b17 => (bif b17 then some true else some (c == 127))) = some (!txtB c))) (by decide +kernel) c
  simpa using this
theorem Text_eq (s : Str) (hs : s.length ≤ 1073741824) : ascii_Text s = some (txt s) := by
  unfold ascii_Text txt
  rw [while_bad s hs (fun c => !txtB c) (ascii_Text_L0 s) false]
  · rw [not_any]; cases s.all txtB <;> rfl
  · intro n hn
    have e := text_eq s[n]
    have e' : ((bif decide (s[n] < 32) then some (s[n] != 9) else some false).bind fun b17 => (bif b17 then some true else some (s[n] == 127)).bind fun b21 => (bif b21 then some (.inr (.inr false)) else some (.inl (wr ((n : Int) + 1))) : Option (Int ⊕ (Unit ⊕ Bool)))) = (some (!txtB s[n])).bind fun b21 => (bif b21 then some (.inr (.inr false)) else some (.inl (wr ((n : Int) + 1)))) := by
      rw [← e, Option.bind_assoc]
    simp only [ascii_Text_L0, lt_true hn, bif_true, xnth_get hn, some_bind]
    rw [e', some_bind]
    cases txtB s[n] <;> rfl
  · simp only [ascii_Text_L0, lt_false (Nat.le_refl s.length), bif_false]
theorem RText_eq (s : Str) (hs : s.length ≤ 1073741824) : ref01_Text s = some (txt s) := by
  unfold ref01_Text txt
  rw [while_bad s hs (fun c => !txtB c) (ref01_Text_L0 s) false]
  · rw [not_any]; cases s.all txtB <;> rfl
  · intro n hn
    simp only [ref01_Text_L0, lt_true hn, bif_true, xnth_get hn, some_bind, textByte_eq]
    cases txtB s[n] <;> rfl
  · simp only [ref01_Text_L0, lt_false (Nat.le_refl s.length), bif_false]
def isD (c : UInt8) : Bool := (decide (48 ≤ c)) && (decide (c ≤ 57))
def dvI (c : UInt8) : Int := ((c - 48).toNat : Int)
def cap (n : Int) : Int := if 2147483647 < n then 2147483647 else n
theorem RDigit_eq (c : UInt8) : ref01_Digit c = some (isD c) := rfl
theorem dvI_le (c : UInt8) (h : isD c = true) : 0 ≤ dvI c ∧ dvI c ≤ 9 := by
  have := all_u8 (fun c => !isD c || (decide (0 ≤ dvI c) && decide (dvI c ≤ 9))) (by decide +kernel) c
  rw [h] at this
  simpa using this
theorem isD_neg (c : UInt8) : (bif decide (c < 48) then some true else some (decide (57 < c))) = some (!isD c) := by
  have := all_u8 (fun c => decide ((bif decide (c < 48) then some true else some (decide (57 < c))) = some (!isD c))) (by decide +kernel) c
  simpa using this
def numL : Str → Int → Option Int
  | [], n => some n
  | c :: r, n => if isD c then numL r (cap (10 * n + dvI c)) else none
def num (s : Str) : Int × Bool := match numL s 0 with | some n => (n, s != []) | none => (0, false)
theorem cap_bd {n : Int} (h : 0 ≤ n) : 0 ≤ cap n ∧ cap n ≤ 2147483647 := by unfold cap; split <;> omega
def numStep (n : Int) (c : UInt8) : Int ⊕ (Int ⊕ (Int × Bool)) := if isD c then .inl (cap (10 * n + dvI c)) else .inr (.inr (0, false))
theorem num_run : ∀ (s : Str) (n : Int), run numStep .inl s n = match numL s n with | some n => .inl n | none => .inr (0, false)
  | [], n => rfl
  | c :: r, n => by
    unfold run numL numStep
    cases isD c with
    | true => exact num_run r _
    | false => rfl
theorem Number_eq (s : Str) (hs : s.length ≤ 1073741824) : ascii_Number s = some (num s) := by
  unfold ascii_Number num
  have h := while_run0 (fun (n : Int) (i : Int) => (n, i)) s numStep .inl (ascii_Number_L0 s) (fun _ n => 0 ≤ n ∧ n ≤ 2147483647) 0 ⟨by decide, by decide⟩ ?_ ?_
  · rw [h, some_bind, num_run]
    cases numL s 0 <;> rfl
  · intro n hn m hm
    unfold numStep
    refine ⟨?_, fun st' h => ?_⟩
    · simp only [ascii_Number_L0, lt_true hn, bif_true, xnth_get hn, some_bind]
      have e : ∀ x : Option Bool, x = some (!isD s[n]) → (x.bind fun b22 => (bif b22 then some (.inr (.inr (0, false))) else some (.inl ((if 2147483647 < (wr ((wr (10 * m)) + ((s[n] - 48).toNat : Int))) then 2147483647 else (wr ((wr (10 * m)) + ((s[n] - 48).toNat : Int)))), wr ((n : Int) + 1))) : Option ((Int × Int) ⊕ (Int ⊕ (Int × Bool))))) = some (if isD s[n] = true then .inl (cap (10 * m + dvI s[n]), ((n + 1 : Nat) : Int)) else .inr (.inr (0, false))) := by
        intro x hx
        rw [hx, some_bind]
        cases hd : isD s[n] with
        | false => rfl
        | true =>
          have hb := dvI_le _ hd
          have e1 : wr (10 * m) = 10 * m := wr_nat (by omega) (by omega)
          have e2 : ((s[n] - 48).toNat : Int) = dvI s[n] := rfl
          rw [e1, e2, wr_nat (n := 10 * m + dvI s[n]) (by omega) (by omega), wrs (by omega)]
          rfl
      rw [e _ (isD_neg s[n])]
      cases isD s[n] <;> rfl
    · split at h
      · rename_i hd
        have hb := dvI_le _ hd
        cases h
        exact cap_bd (by omega)
      · cases h
  · intro m _
    simp only [ascii_Number_L0, lt_false (Nat.le_refl s.length), bif_false]
theorem numL_bd : ∀ (s : Str) (n m : Int), 0 ≤ n → n ≤ 2147483647 → numL s n = some m → 0 ≤ m ∧ m ≤ 2147483647
  | [], n, m, h0, h1, h => by cases h; exact ⟨h0, h1⟩
  | c :: r, n, m, h0, h1, h => by
    unfold numL at h
    split at h
    · rename_i hd
      have hb := dvI_le _ hd
      have hc := cap_bd (n := 10 * n + dvI c) (by omega)
      exact numL_bd r _ m hc.1 hc.2 h
    · cases h
theorem num_bd (s : Str) : 0 ≤ (num s).1 ∧ (num s).1 ≤ 2147483647 := by
  unfold num
  cases h : numL s 0 with
  | none => exact ⟨Int.le_refl 0, by show (0 : Int) ≤ 2147483647; omega⟩
  | some m => exact numL_bd s 0 m (by decide) (by decide) h
def unqL : Str → Str → Option Str
  | [], acc => some acc
  | c :: r, acc => if c = 34 then none else if c = 92 then (match r with | [] => none | d :: r' => unqL r' (acc ++ [d])) else unqL r (acc ++ [c])
def unqIn (s : Str) : Str × Bool := if txt s then (match unqL s [] with | some x => (x, true) | none => ([], false)) else ([], false)
def unq (s : Str) : Str × Bool :=
  match s with
  | a :: r => if a = 34 ∧ r ≠ [] ∧ r.getLast? = some 34 then unqIn r.dropLast else ([], false)
  | [] => ([], false)
def unqO : Option Str → (List UInt8) ⊕ (Str × Bool) | some x => .inl x | none => .inr ([], false)
theorem Unq_loop (s : Str) (hs : s.length ≤ 1073741824) : ∀ (k i : Nat) (out : Str), s.length ≤ i + k → i ≤ s.length → out.length ≤ i → whileO (ascii_Unquote_L0 s) (out, (i : Int)) = some (unqO (unqL (s.drop i) out)) := by
  intro k
  induction k with
  | zero =>
    intro i out hk hi ho
    obtain rfl : i = s.length := by omega
    rw [List.drop_length]
    refine whileO_done ?_
    simp only [ascii_Unquote_L0, lt_false (Nat.le_refl s.length), bif_false]; rfl
  | succ k ih =>
    intro i out hk hi ho
    by_cases hlt : i < s.length
    · have e2 : wr ((i : Int) + 1) = ((i + 1 : Nat) : Int) := wrs (by omega)
      rw [List.drop_eq_getElem_cons hlt]
      have ex := xnth_get hlt
      generalize s[i] = c at ex
      unfold unqL
      by_cases h34 : c = 34
      · subst h34
        rw [if_pos rfl]
        refine whileO_done ?_
        simp only [ascii_Unquote_L0, lt_true hlt, bif_true, ex, some_bind]; rfl
      · have h34' : (c == 34) = false := by simpa using h34
        rw [if_neg h34]
        by_cases h92 : c = 92
        · subst h92
          rw [if_pos rfl]
          by_cases hl2 : i + 1 < s.length
          · rw [List.drop_eq_getElem_cons hl2]
            have e3 : (((i + 1 : Nat) : Int) == (s.length : Int)) = false := by rw [eqI]; simp; omega
            have e4 : wr (((i + 1 : Nat) : Int) + 1) = ((i + 1 + 1 : Nat) : Int) := wrs (by omega)
            have hb : ascii_Unquote_L0 s (out, (i : Int)) = some (.inl (out ++ [s[i + 1]], ((i + 1 + 1 : Nat) : Int))) := by
              simp only [ascii_Unquote_L0, lt_true hlt, bif_true, ex, some_bind, h34', bif_false, beq_self_eq_true, e2, e3, xnth_get hl2]
              rw [xapp_sm (by omega) (one_sm _), some_bind, e4]
            rw [whileO_next hb, ih (i + 1 + 1) _ (by omega) (by omega) (by rw [List.length_append, List.length_singleton]; omega)]
          · have e3 : (((i + 1 : Nat) : Int) == (s.length : Int)) = true := by rw [eqI]; simp; omega
            rw [List.drop_eq_nil_of_le (by omega)]
            refine whileO_done ?_
            simp only [ascii_Unquote_L0, lt_true hlt, bif_true, ex, some_bind, h34', bif_false, beq_self_eq_true, e2, e3]; rfl
        · have h92' : (c == 92) = false := by simpa using h92
          rw [if_neg h92]
          have hb : ascii_Unquote_L0 s (out, (i : Int)) = some (.inl (out ++ [c], ((i + 1 : Nat) : Int))) := by
            simp only [ascii_Unquote_L0, lt_true hlt, bif_true, ex, some_bind, h34', bif_false, h92', e2]
            rw [xapp_sm (by omega) (one_sm _), some_bind]
          rw [whileO_next hb, ih (i + 1) _ (by omega) (by omega) (by rw [List.length_append, List.length_singleton]; omega)]
    · obtain rfl : i = s.length := by omega
      rw [List.drop_length]
      refine whileO_done ?_
      simp only [ascii_Unquote_L0, lt_false (Nat.le_refl s.length), bif_false]; rfl
def unqT : Str → Str → Option Str
  | [], acc => some acc
  | c :: r, acc => if c = 34 then none else if c = 92 then (match r with | [] => none | d :: r' => if txtB d then unqT r' (acc ++ [d]) else none) else if txtB c then unqT r (acc ++ [c]) else none
theorem unqT_eq : ∀ (n : Nat) (s acc : Str), s.length ≤ n → unqT s acc = if txt s then unqL s acc else none := by
  intro n
  induction n with
  | zero =>
    intro s acc h
    obtain rfl := List.eq_nil_of_length_eq_zero (Nat.le_zero.1 h)
    rfl
  | succ n ih =>
    intro s acc h
    match s with
    | [] => rfl
    | c :: r =>
      unfold unqT unqL txt
      rw [List.all_cons]
      by_cases h34 : c = 34
      · rw [if_pos h34, if_pos h34]; split <;> rfl
      · rw [if_neg h34, if_neg h34]
        by_cases h92 : c = 92
        · subst h92
          rw [if_pos rfl, if_pos rfl, show txtB 92 = true from rfl, Bool.true_and]
          match r with
          | [] => rfl
          | d :: r' =>
            rw [List.all_cons]
            show (if txtB d then unqT r' (acc ++ [d]) else none) = _
            have := ih r' (acc ++ [d]) (by simp at h; omega)
            rw [this]
            cases txtB d
            · rfl
            · simp [txt]
        · rw [if_neg h92, if_neg h92]
          have := ih r (acc ++ [c]) (by simp at h; omega)
          rw [this]
          cases txtB c
          · rfl
          · simp [txt]
theorem RUnq_loop (s : Str) (hs : s.length ≤ 1073741824) : ∀ (k i : Nat) (out : Str), s.length ≤ i + k → i ≤ s.length → out.length ≤ i → whileO (ref01_Unquote_L0 s) (out, (i : Int)) = some (unqO (unqT (s.drop i) out)) := by
  intro k
  induction k with
  | zero =>
    intro i out hk hi ho
    obtain rfl : i = s.length := by omega
    rw [List.drop_length]
    refine whileO_done ?_
    simp only [ref01_Unquote_L0, lt_false (Nat.le_refl s.length), bif_false]; rfl
  | succ k ih =>
    intro i out hk hi ho
    by_cases hlt : i < s.length
    · have e2 : wr ((i : Int) + 1) = ((i + 1 : Nat) : Int) := wrs (by omega)
      rw [List.drop_eq_getElem_cons hlt]
      have ex := xnth_get hlt
      generalize s[i] = c at ex
      unfold unqT
      by_cases h34 : c = 34
      · subst h34
        rw [if_pos rfl]
        refine whileO_done ?_
        simp only [ref01_Unquote_L0, lt_true hlt, bif_true, ex, some_bind]; rfl
      · have h34' : (c == 34) = false := by simpa using h34
        rw [if_neg h34]
        by_cases h92 : c = 92
        · subst h92
          rw [if_pos rfl]
          by_cases hl2 : i + 1 < s.length
          · rw [List.drop_eq_getElem_cons hl2]
            have e3 : (((i + 1 : Nat) : Int) == (s.length : Int)) = false := by rw [eqI]; simp; omega
            have e4 : wr (((i + 1 : Nat) : Int) + 1) = ((i + 1 + 1 : Nat) : Int) := wrs (by omega)
            have hb : ref01_Unquote_L0 s (out, (i : Int)) = some (if txtB s[i + 1] then .inl (out ++ [s[i + 1]], ((i + 1 + 1 : Nat) : Int)) else .inr (.inr ([], false))) := by
              simp only [ref01_Unquote_L0, lt_true hlt, bif_true, ex, some_bind, h34', bif_false, beq_self_eq_true, e2, e3, xnth_get hl2, textByte_eq]
              rw [xapp_sm (by omega) (one_sm _), some_bind, e4]
              cases txtB s[i + 1] <;> rfl
            cases ht : txtB s[i + 1] with
            | true =>
              rw [ht, if_pos rfl] at hb
              rw [whileO_next hb, ih (i + 1 + 1) _ (by omega) (by omega) (by rw [List.length_append, List.length_singleton]; omega)]
              show _ = some (unqO (if txtB s[i + 1] = true then _ else _))
              rw [ht, if_pos rfl]
            | false =>
              rw [ht, if_neg (by decide)] at hb
              rw [whileO_done hb]
              show _ = some (unqO (if txtB s[i + 1] = true then _ else _))
              rw [ht, if_neg (by decide)]; rfl
          · have e3 : (((i + 1 : Nat) : Int) == (s.length : Int)) = true := by rw [eqI]; simp; omega
            rw [List.drop_eq_nil_of_le (by omega)]
            refine whileO_done ?_
            simp only [ref01_Unquote_L0, lt_true hlt, bif_true, ex, some_bind, h34', bif_false, beq_self_eq_true, e2, e3]; rfl
        · have h92' : (c == 92) = false := by simpa using h92
          rw [if_neg h92]
          have hb : ref01_Unquote_L0 s (out, (i : Int)) = some (if txtB c then .inl (out ++ [c], ((i + 1 : Nat) : Int)) else .inr (.inr ([], false))) := by
            simp only [ref01_Unquote_L0, lt_true hlt, bif_true, ex, some_bind, h34', bif_false, h92', e2, textByte_eq]
            rw [xapp_sm (by omega) (one_sm _), some_bind]
            cases txtB c <;> rfl
          cases ht : txtB c with
          | true =>
            rw [ht, if_pos rfl] at hb
            rw [whileO_next hb, ih (i + 1) _ (by omega) (by omega) (by rw [List.length_append, List.length_singleton]; omega), if_pos rfl]
          | false =>
            rw [ht, if_neg (by decide)] at hb
            rw [whileO_done hb, if_neg (by decide)]; rfl
    · obtain rfl : i = s.length := by omega
      rw [List.drop_length]
      refine whileO_done ?_
      simp only [ref01_Unquote_L0, lt_false (Nat.le_refl s.length), bif_false]; rfl
theorem quotes_split (s : Str) : (s.length < 2 ∧ unq s = ([], false)) ∨ ∃ a m z, s = a :: (m ++ [z]) ∧ unq s = if a = 34 ∧ z = 34 then unqIn m else ([], false) := by
  match s with
  | [] => exact .inl ⟨by simp, rfl⟩
  | [a] => exact .inl ⟨by simp, by simp [unq]⟩
  | a :: b :: r =>
    obtain ⟨m, z, hm⟩ : ∃ m z, b :: r = m ++ [z] := ⟨(b :: r).dropLast, (b :: r).getLast (by simp), (List.dropLast_concat_getLast (by simp)).symm⟩
    rw [hm]
    exact .inr ⟨a, m, z, rfl, by simp [unq]⟩
theorem quotes_facts (a z : UInt8) (m : Str) (h : (a :: (m ++ [z])).length ≤ 1073741824) :
    decide ((((a :: (m ++ [z])).length : Nat) : Int) < 2) = false ∧ wr ((((a :: (m ++ [z])).length : Nat) : Int) - 1) = ((m.length + 1 : Nat) : Int) ∧ xnth (a :: (m ++ [z])) ((m.length + 1 : Nat) : Int) = some z ∧ xsub (a :: (m ++ [z])) 1 ((m.length + 1 : Nat) : Int) = some m := by
  have hlen : (a :: (m ++ [z])).length = m.length + 2 := by simp
  rw [hlen] at h
  refine ⟨?_, ?_, ?_, ?_⟩
  · rw [hlen]
    exact decide_eq_false (by omega)
  · rw [hlen, wr_nat (by omega) (by omega)]; omega
  · rw [xnth_nat]; simp
  · have := xsub_nat (l := a :: (m ++ [z])) (i := 1) (j := m.length + 1) ⟨by omega, by simp⟩
    have e : xsub (a :: (m ++ [z])) 1 ((m.length + 1 : Nat) : Int) = _ := this
    rw [e]; simp
theorem Unquote_eq (s : Str) (hs : s.length ≤ 1073741824) : ascii_Unquote s = some (unq s) := by
  rcases quotes_split s with ⟨h, hu⟩ | ⟨a, m, z, rfl, hu⟩
  · have e : decide ((s.length : Int) < 2) = true := lt_true h
    rw [hu]; simp only [ascii_Unquote, e, bif_true, some_bind]
  · obtain ⟨e1, e2, e3, e4⟩ := quotes_facts a z m hs
    have hm : m.length ≤ 1073741824 := by simp at hs; omega
    rw [hu]
    simp only [ascii_Unquote, e1, e2, e3, e4, bif_false, xnth_cons, some_bind, Text_eq m hm]
    by_cases ha : a = 34
    · by_cases hz : z = 34
      · subst ha; subst hz
        have hl := Unq_loop m hm m.length 0 [] (by omega) (by omega) (by simp)
        have hl : whileO (ascii_Unquote_L0 m) ([], 0) = _ := hl
        rw [hl]
        simp only [bne_self_eq_false, bif_false, some_bind, and_self, if_true, List.drop_zero]
        unfold unqIn
        cases txt m
        · rfl
        · cases unqL m [] <;> rfl
      · have hz' : (z != 34) = true := by simpa using hz
        simp [ha, hz, hz']
    · have ha' : (a != 34) = true := by simpa using ha
      simp [ha, ha']
theorem RUnquote_eq (s : Str) (hs : s.length ≤ 1073741824) : ref01_Unquote s = some (unq s) := by
  rcases quotes_split s with ⟨h, hu⟩ | ⟨a, m, z, rfl, hu⟩
  · have e : decide ((s.length : Int) < 2) = true := lt_true h
    rw [hu]; simp only [ref01_Unquote, e, bif_true, some_bind]
  · obtain ⟨e1, e2, e3, e4⟩ := quotes_facts a z m hs
    have hm : m.length ≤ 1073741824 := by simp at hs; omega
    rw [hu]
    simp only [ref01_Unquote, e1, e2, e3, e4, bif_false, xnth_cons, some_bind]
    by_cases ha : a = 34
    · by_cases hz : z = 34
      · subst ha; subst hz
        have hl := RUnq_loop m hm m.length 0 [] (by omega) (by omega) (by simp)
        have hl : whileO (ref01_Unquote_L0 m) ([], 0) = _ := hl
        rw [hl]
        simp only [bne_self_eq_false, bif_false, some_bind, and_self, if_true, List.drop_zero]
        rw [unqT_eq m.length m [] (Nat.le_refl _)]
        unfold unqIn
        cases txt m
        · rfl
        · cases unqL m [] <;> rfl
      · have hz' : (z != 34) = true := by simpa using hz
        simp [ha, hz, hz']
    · have ha' : (a != 34) = true := by simpa using ha
      simp [ha, ha']
theorem Fold_eq (a b : Str) (ha : a.length ≤ 1073741824) (hb : b.length ≤ 1073741824) : ascii_Fold a b = some (fold a b) := by
  simp only [ascii_Fold, Lower_eq a ha, Lower_eq b hb, some_bind, eqI, fold]
  cases a.length == b.length <;> rfl
end Go.Eng.Pure
namespace Go.Eng
open Go
theorem while_same {α : Type} [DecidableEq α] (a b : List α) (body : Int → Option (Int ⊕ (Unit ⊕ Bool))) (hlen : a.length = b.length)
    (h : ∀ (n : Nat) (hn : n < a.length) (hb : n < b.length), body (n : Int) = some (if a[n] = b[n] then .inl ((n + 1 : Nat) : Int) else .inr (.inr false))) (h' : body (a.length : Int) = some (.inr (.inl ()))) :
    whileO body 0 = some (if a = b then .inl () else .inr false) := by
  have key : ∀ (k n : Nat), n + k = a.length → whileO body (n : Int) = some (if a.drop n = b.drop n then .inl () else .inr false) := by
    intro k
    induction k with
    | zero =>
      intro n hn
      obtain rfl : n = a.length := by omega
      rw [whileO_done h', List.drop_length, if_pos]
      rw [hlen, List.drop_length]
    | succ k ih =>
      intro n hn
      have hlt : n < a.length := by omega
      have hlb : n < b.length := by omega
      have hb := h n hlt hlb
      rw [List.drop_eq_getElem_cons hlt, List.drop_eq_getElem_cons hlb]
      by_cases he : a[n] = b[n]
      · rw [if_pos he] at hb
        have hi : (a[n] :: a.drop (n + 1) = b[n] :: b.drop (n + 1)) ↔ (a.drop (n + 1) = b.drop (n + 1)) := by
          rw [he]; exact ⟨fun h => (List.cons.inj h).2, fun h => by rw [h]⟩
        rw [whileO_next hb, ih (n + 1) (by omega)]
        simp only [hi]
      · rw [if_neg he] at hb
        rw [whileO_done hb, if_neg]
        intro hc
        exact he (List.cons.inj hc).1
  have := key a.length 0 (by omega)
  simpa using this
end Go.Eng
namespace Go.Eng.Pure
open Go Go.Eng
set_option linter.unusedVariables false
theorem SameStrings10_eq (a b : List Str) (ha : a.length ≤ 1073741824) : ref10_SameStrings a b = some (a == b) := by
  unfold ref10_SameStrings
  rw [neI]
  by_cases hl : a.length = b.length
  · have e : (a.length != b.length) = false := by simp [hl]
    rw [e, bif_false, while_same a b (ref10_SameStrings_L0 a b) hl]
    · by_cases h : a = b
      · simp [h]
      · simp [h]
    · intro n hn hb
      simp only [ref10_SameStrings_L0, lt_true hn, bif_true, xnth_get hn, xnth_get hb, some_bind, wrs (show n ≤ 4 * 1073741824 by omega)]
      by_cases he : a[n] = b[n]
      · have : (a[n] != b[n]) = false := by simp [he]
        rw [this, if_pos he]; rfl
      · have : (a[n] != b[n]) = true := by simp [he]
        rw [this, if_neg he]; rfl
    · simp only [ref10_SameStrings_L0, lt_false (Nat.le_refl a.length), bif_false]
  · have e : (a.length != b.length) = true := by simp [hl]
    have e2 : (a == b) = false := by
      rw [Bool.eq_false_iff]; intro h; exact hl (by rw [eq_of_beq h])
    rw [e, e2]; rfl
theorem while_keep {α : Type} (l : List α) (m : Nat) (bad : α → Bool) (body : Int → Option (Int ⊕ (Unit ⊕ Bool)))
    (h : ∀ (n : Nat) (hn : n < l.length), n < m → body (n : Int) = some (if bad l[n] = true then .inr (.inr false) else .inl ((n : Int) + 1)))
    (h' : ∀ n : Nat, (l.length ≤ n ∨ m ≤ n) → body (n : Int) = some (.inr (.inl ()))) :
    whileO body 0 = some (if (l.take m).any bad then .inr false else .inl ()) := by
  refine while_any body (l.take m) bad (.inr false) (.inl ()) (fun n hn => ?_) ?_
  · have h1 : n < l.length := by rw [List.length_take] at hn; omega
    have h2 : n < m := by rw [List.length_take] at hn; omega
    rw [h n h1 h2, List.getElem_take]
  · exact h' _ (by rw [List.length_take]; omega)
def badF (n : Nat) (f : GField) : Bool := decide (n < f.fName.length) || decide (n < f.fValue.length)
def keepF (l : List GField) : Bool := !((l.take 71).any (badF 300)) && decide (l.length ≤ 70)
theorem keep_Fields_eq (l : List GField) : keep_Fields l = some (keepF l) := by
  unfold keep_Fields keepF
  rw [while_keep l 71 (badF 300)]
  · have e : decide ((l.length : Int) ≤ 70) = decide (l.length ≤ 70) := le_nat l.length 70
    rw [e]
    cases (l.take 71).any (badF 300) <;> simp
  · intro n hn hm
    have e1 : decide ((n : Int) < 71) = true := lt_true hm
    have e2 : wr ((n : Int) + 1) = (n : Int) + 1 := by rw [wrs (by omega)]; omega
    simp only [keep_Fields_L0, lt_true hn, e1, Bool.and_self, bif_true, xnth_get hn, some_bind, e2]
    have e3 : decide (300 < ((l[n].fName.length : Nat) : Int)) = decide (300 < l[n].fName.length) := lt_nat 300 _
    have e4 : decide (300 < ((l[n].fValue.length : Nat) : Int)) = decide (300 < l[n].fValue.length) := lt_nat 300 _
    rw [e3, e4]
    unfold badF
    cases decide (300 < l[n].fName.length) <;> cases decide (300 < l[n].fValue.length) <;> rfl
  · intro n hn
    have : (decide ((n : Int) < (l.length : Int)) && decide ((n : Int) < 71)) = false := by
      rcases hn with hn | hn
      · rw [lt_false hn]; rfl
      · rw [show decide ((n : Int) < 71) = false from lt_false hn, Bool.and_false]
    simp only [keep_Fields_L0, this, bif_false]
theorem keepF_sm {l : List GField} (h : keepF l = true) : l.length ≤ 70 ∧ ∀ f ∈ l, f.fName.length ≤ 300 ∧ f.fValue.length ≤ 300 := by
  unfold keepF at h
  simp only [Bool.and_eq_true, Bool.not_eq_true', decide_eq_true_eq] at h
  refine ⟨h.2, fun f hf => ?_⟩
  rw [List.take_of_length_le (by omega)] at h
  have := List.any_eq_false.1 h.1 f hf
  simp only [badF, Bool.or_eq_true, decide_eq_true_eq] at this
  omega
end Go.Eng.Pure
namespace Go.Eng.Pure
open Go Go.Eng
set_option linter.unusedVariables false
def hasF (l : List GField) (name : Str) : Bool := decide (0 < (getF l name).length)
def firstF (l : List GField) (name : Str) : Str × Bool := match getF l name with | v :: _ => (v, true) | [] => ([], false)
theorem Has_eq (l : List GField) (name : Str) (hl : l.length ≤ 1073741824) (hf : ∀ f ∈ l, smF f) (hn : name.length ≤ 1073741824) : fieldline_Has l name = some (hasF l name) := by
  unfold fieldline_Has fieldline_named
  rw [Lower_eq _ hn]
  simp only [some_bind]
  rw [filter_eq l _ (fun f => fold f.fName name) hl (fun f h => named_eq name hn f (hf f h)), some_bind]
  unfold hasF getF
  rw [List.length_map]
  exact congrArg some (lt_nat 0 _)
theorem RHas_eq (l : List GField) (name : Str) (hl : l.length ≤ 1073741824) (hf : ∀ f ∈ l, smF f) (hn : name.length ≤ 1073741824) : ref01_Has l name = some (hasF l name) := by
  unfold ref01_Has
  rw [RGet_eq l name hl hf hn, some_bind]
  exact congrArg some (lt_nat 0 _)
theorem First_eq (l : List GField) (name : Str) (hl : l.length ≤ 1073741824) (hf : ∀ f ∈ l, smF f) (hn : name.length ≤ 1073741824) : fieldline_First l name = some (firstF l name) := by
  unfold fieldline_First firstF
  rw [Get_eq l name hl hf hn, some_bind]
  cases getF l name with
  | nil => rfl
  | cons v r =>
    have : ((((v :: r).length : Nat) : Int) == 0) = false := by
      rw [Bool.eq_false_iff]; simp only [ne_eq, beq_iff_eq, List.length_cons]; omega
    rw [this]; rfl
theorem firstF_sm (l : List GField) (name : Str) (B : Nat) (hf : ∀ f ∈ l, f.fValue.length ≤ B) : (firstF l name).1.length ≤ B := by
  have h := getF_sm l name B hf
  unfold firstF
  cases hg : getF l name with
  | nil => exact Nat.zero_le _
  | cons v r => rw [hg] at h; exact h v List.mem_cons_self
theorem allM_len (l : List GField) (name : Str) : (allM l name).length ≤ 64 := by
  unfold allM; rw [List.length_take]; omega
theorem allM_sm (l : List GField) (name : Str) (B : Nat) (hf : ∀ f ∈ l, f.fValue.length ≤ B) : ∀ x ∈ allM l name, x.length ≤ B := by
  intro x hx
  have h1 := List.mem_of_mem_take hx
  rw [List.mem_flatMap] at h1
  obtain ⟨v, hv, hx⟩ := h1
  exact Nat.le_trans (split_sm v x hx) (getF_sm l name B hf v hv)
def hd (m : Str) : Str := m.takeWhile tokB
theorem unqL_len : ∀ (n : Nat) (s acc x : Str), s.length ≤ n → unqL s acc = some x → x.length ≤ acc.length + s.length := by
  intro n
  induction n with
  | zero =>
    intro s acc x h hx
    obtain rfl := List.eq_nil_of_length_eq_zero (Nat.le_zero.1 h)
    cases hx; simp
  | succ n ih =>
    intro s acc x h hx
    match s with
    | [] => cases hx; simp
    | c :: r =>
      unfold unqL at hx
      split at hx
      · cases hx
      · split at hx
        · match r with
          | [] => cases hx
          | d :: r' =>
            have := ih r' (acc ++ [d]) x (by simp at h; omega) hx
            rw [List.length_append, List.length_singleton] at this
            simp only [List.length_cons]; omega
        · have := ih r (acc ++ [c]) x (by simp at h; omega) hx
          rw [List.length_append, List.length_singleton] at this
          simp only [List.length_cons]; omega
theorem unq_len (s : Str) : (unq s).1.length ≤ s.length := by
  rcases quotes_split s with ⟨h, hu⟩ | ⟨a, m, z, rfl, hu⟩
  · rw [hu]; exact Nat.zero_le _
  · rw [hu]
    split
    · unfold unqIn
      split
      · cases hx : unqL m [] with
        | none => exact Nat.zero_le _
        | some x =>
          have := unqL_len m.length m [] x (Nat.le_refl _) hx
          simp at this ⊢; omega
      · exact Nat.zero_le _
    · exact Nat.zero_le _
theorem lookup_mset {β : Type} (m : List (Str × β)) (k k' : Str) (v : β) : (mset m k v).lookup k' = if k' == k then some v else m.lookup k' := by
  induction m with
  | nil =>
    simp only [mset, List.lookup]
    cases k' == k <;> rfl
  | cons p r ih =>
    unfold mset
    by_cases h : k = p.1
    · subst h
      rw [beq_self_eq_true, if_pos rfl]
      simp only [List.lookup]
      cases k' == p.1 <;> rfl
    · have h' : (k == p.1) = false := by simpa using h
      rw [h', if_neg (by decide)]
      simp only [List.lookup]
      cases hk : k' == p.1 with
      | true =>
        have e : k' = p.1 := by simpa using hk
        have : (k' == k) = false := by rw [e]; simp [Ne.symm h]
        rw [this]; rfl
      | false => exact ih
end Go.Eng.Pure
namespace Go.Eng.Pure
open Go Go.Eng
set_option linter.unusedVariables false
def join (l : List Str) : Str := Lib.join l [44, 32]
theorem join_cons2 (x : Str) (r : List Str) : join (x :: r) = x ++ (r.map ([44, 32] ++ ·)).flatten := Lib.join_cons x r [44, 32]
theorem join_snoc (l : List Str) (x : Str) : join (l ++ [x]) = (if l = [] then [] else join l ++ [44, 32]) ++ x := by
  cases l with
  | nil => simp [join_cons2]
  | cons y r => simp [join_cons2]
theorem join_len (l : List Str) (B : Nat) (h : ∀ s ∈ l, s.length ≤ B) : (join l).length ≤ (B + 2) * l.length := by
  have : ∀ r : List Str, (∀ s ∈ r, s.length ≤ B) → ((r.map ([44, 32] ++ ·)).flatten).length ≤ (B + 2) * r.length := by
    intro r
    induction r with
    | nil => intro _; simp
    | cons y r ih =>
      intro hr
      have h1 := ih fun s hs => hr s (List.mem_cons_of_mem _ hs)
      have h2 := hr y List.mem_cons_self
      rw [List.map_cons, List.flatten_cons, List.length_append, List.length_cons, Nat.mul_succ]
      have : (([44, 32] : Str) ++ y).length = y.length + 2 := by simp
      omega
  cases l with
  | nil => simp [join, Lib.join_nil]
  | cons x r =>
    have h1 := this r fun s hs => h s (List.mem_cons_of_mem _ hs)
    have h2 := h x List.mem_cons_self
    rw [join_cons2, List.length_append, List.length_cons, Nat.mul_succ]
    omega
theorem Join_eq (l : List Str) (h1 : l.length ≤ 1073741824) (h2 : (join l).length ≤ 1073741824) : list_Join l = some (join l) := by
  unfold list_Join strings_Join jo
  rw [if_pos ⟨by show (join l).length ≤ big; simp only [big]; omega, by simp only [big]; omega⟩]; rfl
theorem RJoin_eq (l : List Str) (h1 : l.length ≤ 1073741824) (h2 : (join l).length ≤ 1073741824) : ref01_Join l = some (join l) := by
  have hp : ∀ n, n ≤ l.length → (join (l.take n)).length ≤ (join l).length := by
    intro n hn
    cases l with
    | nil => simp
    | cons x r =>
      cases n with
      | zero => simp [join, Lib.join_nil]
      | succ n =>
        rw [List.take_succ_cons, join_cons2, join_cons2, List.map_take]
        rw [List.length_append, List.length_append]
        have : ∀ (r : List Str) n, (r.take n).flatten.length ≤ r.flatten.length := by
          intro r
          induction r with
          | nil => intro n; simp
          | cons y r ih =>
            intro n
            cases n with
            | zero => simp
            | succ n => have := ih n; simp only [List.take_succ_cons, List.flatten_cons, List.length_append]; omega
        exact Nat.add_le_add_left (this (r.map ([44, 32] ++ ·)) n) _
  have := while_count (fun n => (join (l.take n), (n : Int))) l.length (join l) (ref01_Join_L0 l) ?_ ?_
  · unfold ref01_Join
    have e : (([] : Str), (0 : Int)) = (join (l.take 0), ((0 : Nat) : Int)) := by simp [join, Lib.join_nil]
    rw [e, this]; rfl
  · intro n hn
    have h3 := hp n (by omega)
    have h4 := hp (n + 1) (by omega)
    have ht : l.take (n + 1) = l.take n ++ [l[n]] := take_succ_get hn
    have hj := join_snoc (l.take n) l[n]
    rw [← ht] at hj
    simp only [ref01_Join_L0, lt_true hn, bif_true, xnth_get hn, some_bind, wrs (show n ≤ 4 * 1073741824 by omega)]
    by_cases h0 : n = 0
    · subst h0
      have e1 : join (l.take 0) = [] := by simp [join, Lib.join_nil]
      rw [e1]
      have e2 : decide ((0 : Int) < ((0 : Nat) : Int)) = false := rfl
      rw [e2, bif_false, some_bind]
      rw [if_pos (by simp)] at hj
      rw [hj] at h4 ⊢
      rw [xcat_sm (by simp) (by simp at h4; omega)]
      rfl
    · have e2 : decide ((0 : Int) < (n : Int)) = true := by simp; omega
      have hne : l.take n ≠ [] := fun h => by
        have hl : (l.take n).length = 0 := by rw [h]; rfl
        rw [List.length_take] at hl
        omega
      rw [if_neg hne] at hj
      rw [hj, List.length_append, List.length_append] at h4
      rw [e2, bif_true, xcat_sm (by omega) (by decide), some_bind, some_bind, xcat_sm (by rw [List.length_append]; omega) (by omega), some_bind, hj]
  · simp only [ref01_Join_L0, lt_false (Nat.le_refl l.length), bif_false, List.take_length]
end Go.Eng.Pure
namespace Go.Eng.Pure
open Go Go.Eng
set_option linter.unusedVariables false
theorem SJoin_eq (l : List Str) (h1 : l.length ≤ 1073741824) (h2 : (join l).length ≤ 1073741824) : strings_Join l [44, 32] = some (join l) := by
  unfold strings_Join jo
  rw [if_pos ⟨by show (join l).length ≤ big; simp only [big]; omega, by simp only [big]; omega⟩]; rfl
def kindF (n : Str) : Int :=
  if fold n [65, 99, 99, 101, 112, 116] then 1 else if fold n [65, 99, 99, 101, 112, 116, 45, 76, 97, 110, 103, 117, 97, 103, 101] then 2
  else if fold n [65, 99, 99, 101, 112, 116, 45, 67, 104, 97, 114, 115, 101, 116] then 3 else if fold n [65, 99, 99, 101, 112, 116, 45, 69, 110, 99, 111, 100, 105, 110, 103] then 4 else 0
theorem Kind_eq (n : Str) (hn : n.length ≤ 1073741824) : accept_Kind n = some (kindF n) := by
  unfold accept_Kind kindF
  simp only [show accept_Name 1 = some [65, 99, 99, 101, 112, 116] from rfl, show accept_Name 2 = some [65, 99, 99, 101, 112, 116, 45, 76, 97, 110, 103, 117, 97, 103, 101] from rfl,
    show accept_Name 3 = some [65, 99, 99, 101, 112, 116, 45, 67, 104, 97, 114, 115, 101, 116] from rfl, show accept_Name 4 = some [65, 99, 99, 101, 112, 116, 45, 69, 110, 99, 111, 100, 105, 110, 103] from rfl, some_bind]
  rw [Fold_eq _ _ hn (by decide), Fold_eq _ _ hn (by decide), Fold_eq _ _ hn (by decide), Fold_eq _ _ hn (by decide)]
  simp only [some_bind]
  generalize fold n [65, 99, 99, 101, 112, 116] = a
  generalize fold n [65, 99, 99, 101, 112, 116, 45, 76, 97, 110, 103, 117, 97, 103, 101] = b
  generalize fold n [65, 99, 99, 101, 112, 116, 45, 67, 104, 97, 114, 115, 101, 116] = c
  generalize fold n [65, 99, 99, 101, 112, 116, 45, 69, 110, 99, 111, 100, 105, 110, 103] = d
  cases a <;> cases b <;> cases c <;> cases d <;> rfl
theorem RKind_eq (n : Str) (hn : n.length ≤ 1073741824) : ref10_Kind n = some (kindF n) := by
  unfold ref10_Kind kindF
  simp only [show ref10_Name 1 = some [65, 99, 99, 101, 112, 116] from rfl, show ref10_Name 2 = some [65, 99, 99, 101, 112, 116, 45, 76, 97, 110, 103, 117, 97, 103, 101] from rfl,
    show ref10_Name 3 = some [65, 99, 99, 101, 112, 116, 45, 67, 104, 97, 114, 115, 101, 116] from rfl, show ref10_Name 4 = some [65, 99, 99, 101, 112, 116, 45, 69, 110, 99, 111, 100, 105, 110, 103] from rfl, some_bind]
  rw [RFold_eq _ _ hn (by decide), RFold_eq _ _ hn (by decide), RFold_eq _ _ hn (by decide), RFold_eq _ _ hn (by decide)]
  simp only [some_bind]
  generalize fold n [65, 99, 99, 101, 112, 116] = a
  generalize fold n [65, 99, 99, 101, 112, 116, 45, 76, 97, 110, 103, 117, 97, 103, 101] = b
  generalize fold n [65, 99, 99, 101, 112, 116, 45, 67, 104, 97, 114, 115, 101, 116] = c
  generalize fold n [65, 99, 99, 101, 112, 116, 45, 69, 110, 99, 111, 100, 105, 110, 103] = d
  cases a <;> cases b <;> cases c <;> cases d <;> rfl
def varyV (l : List GField) (n : Str) : Str :=
  if (getF l n).length = 0 then [] else if (kindF n != 0) && decide ((allM l n).length < 64) then 61 :: lower (join (allM l n)) else 61 :: join (getF l n)
def smL (l : List GField) : Prop := l.length ≤ 70 ∧ ∀ f ∈ l, f.fName.length ≤ 300 ∧ f.fValue.length ≤ 300
theorem smL_F {l : List GField} (h : smL l) : l.length ≤ 1073741824 ∧ ∀ f ∈ l, smF f := ⟨by have := h.1; omega, fun f hf => by have := h.2 f hf; exact ⟨by omega, by omega⟩⟩
theorem joinG_sm {l : List GField} (h : smL l) (n : Str) : (getF l n).length ≤ 70 ∧ (join (getF l n)).length ≤ 30000 := by
  have h1 := getF_len l n
  have h2 := join_len (getF l n) 300 (getF_sm l n 300 fun f hf => (h.2 f hf).2)
  have h3 := h.1
  exact ⟨by omega, by omega⟩
theorem joinA_sm {l : List GField} (h : smL l) (n : Str) : (allM l n).length ≤ 64 ∧ (join (allM l n)).length ≤ 30000 := by
  have h1 := allM_len l n
  have h2 := join_len (allM l n) 300 (allM_sm l n 300 fun f hf => (h.2 f hf).2)
  exact ⟨h1, by omega⟩
theorem eq61 {s : Str} (h : s.length ≤ 30000) : xcat [61] s = some (61 :: s) := by
  rw [xcat_sm (one_sm _) (by omega)]; rfl
theorem Value_eq (n : Str) (l : List GField) (hl : smL l) (hn : n.length ≤ 1073741824) : vary_Value n l = some (varyV l n) := by
  obtain ⟨h1, h2⟩ := smL_F hl
  obtain ⟨g1, g2⟩ := joinG_sm hl n
  obtain ⟨a1, a2⟩ := joinA_sm hl n
  unfold vary_Value varyV
  rw [Has_eq l n h1 h2 hn, All_eq l n h1 h2 hn, Kind_eq n hn, Get_eq l n h1 h2 hn]
  simp only [some_bind]
  rw [Join_eq _ (by omega) (by omega), SJoin_eq _ (by omega) (by omega)]
  simp only [some_bind]
  rw [Lower_eq _ (by omega)]
  simp only [some_bind]
  rw [eq61 g2, eq61 (by rw [lower_len]; exact a2)]
  simp only [some_bind]
  rw [show decide (((allM l n).length : Int) < 64) = decide ((allM l n).length < 64) from lt_nat _ 64]
  unfold hasF
  by_cases hz : (getF l n).length = 0
  · rw [if_pos hz, decide_eq_false (by omega)]; rfl
  · rw [if_neg hz, decide_eq_true (by omega)]
    cases (kindF n != 0) && decide ((allM l n).length < 64) <;> rfl
theorem RValue_eq (n : Str) (l : List GField) (hl : smL l) (hn : n.length ≤ 1073741824) : ref19_VaryValue n l = some (varyV l n) := by
  obtain ⟨h1, h2⟩ := smL_F hl
  obtain ⟨g1, g2⟩ := joinG_sm hl n
  obtain ⟨a1, a2⟩ := joinA_sm hl n
  unfold ref19_VaryValue varyV
  rw [RGet_eq l n h1 h2 hn, RAll_eq l n h1 h2 hn, RKind_eq n hn]
  simp only [some_bind]
  rw [RJoin_eq _ (by omega) (by omega), RJoin_eq _ (by omega) (by omega)]
  simp only [some_bind]
  rw [RLower_eq _ (by omega)]
  simp only [some_bind]
  rw [eq61 g2, eq61 (by rw [lower_len]; exact a2)]
  simp only [some_bind]
  rw [show decide (((allM l n).length : Int) < 64) = decide ((allM l n).length < 64) from lt_nat _ 64, show (((getF l n).length : Int) == 0) = ((getF l n).length == 0) from eqI _ 0]
  by_cases hz : (getF l n).length = 0
  · rw [if_pos hz, beq_iff_eq.2 hz]; rfl
  · rw [if_neg hz, beq_eq_false_iff_ne.2 hz]
    cases (kindF n != 0) <;> cases decide ((allM l n).length < 64) <;> rfl
def snapF (l : List GField) (ns : List Str) : List Str := ns.map (varyV l)
theorem Snapshot_eq (ns : List Str) (l : List GField) (hl : smL l) (hs : ns.length ≤ 1000) (hn : ∀ n ∈ ns, n.length ≤ 1073741824) : vary_Snapshot ns l = some (snapF l ns) := by
  have := while_count (fun n => ((ns.take n).map (varyV l), (n : Int))) ns.length (ns.map (varyV l)) (vary_Snapshot_L0 ns l) ?_ ?_
  · unfold vary_Snapshot
    have e : (([] : List Str), (0 : Int)) = ((ns.take 0).map (varyV l), ((0 : Nat) : Int)) := by simp
    rw [e, this]; rfl
  · intro n hn'
    simp only [vary_Snapshot_L0, lt_true hn', bif_true, xnth_get hn', some_bind, Value_eq _ l hl (hn _ (List.getElem_mem hn')), wrs (show n ≤ 4 * 1073741824 by omega)]
    rw [xapp_sm (by simp; omega) (one_sm _), take_succ_get hn', List.map_append]
    rfl
  · simp only [vary_Snapshot_L0, lt_false (Nat.le_refl ns.length), bif_false, List.take_length]
theorem RSnapshot_eq (ns : List Str) (l : List GField) (hl : smL l) (hs : ns.length ≤ 1000) (hn : ∀ n ∈ ns, n.length ≤ 1073741824) : ref19_Snapshot ns l = some (snapF l ns) := by
  have := while_count (fun n => ((ns.take n).map (varyV l), (n : Int))) ns.length (ns.map (varyV l)) (ref19_Snapshot_L0 ns l) ?_ ?_
  · unfold ref19_Snapshot
    have e : (([] : List Str), (0 : Int)) = ((ns.take 0).map (varyV l), ((0 : Nat) : Int)) := by simp
    rw [e, this]; rfl
  · intro n hn'
    simp only [ref19_Snapshot_L0, lt_true hn', bif_true, xnth_get hn', some_bind, RValue_eq _ l hl (hn _ (List.getElem_mem hn')), wrs (show n ≤ 4 * 1073741824 by omega)]
    rw [xapp_sm (by simp; omega) (one_sm _), take_succ_get hn', List.map_append]
    rfl
  · simp only [ref19_Snapshot_L0, lt_false (Nat.le_refl ns.length), bif_false, List.take_length]
theorem SEqual_eq (a b : List Str) (ha : a.length ≤ 1073741824) : slices_Equal_string_string a b = some (a == b) := by
  unfold slices_Equal_string_string
  rw [neI]
  by_cases hl : a.length = b.length
  · have e : (a.length != b.length) = false := by simp [hl]
    rw [e, bif_false, while_same a b (slices_Equal_string_string_L0 a b) hl]
    · by_cases h : a = b
      · simp [h]
      · simp [h]
    · intro n hn hb
      simp only [slices_Equal_string_string_L0, lt_true hn, bif_true, xnth_get hn, xnth_get hb, some_bind, wrs (show n ≤ 4 * 1073741824 by omega)]
      by_cases he : a[n] = b[n]
      · have : (a[n] != b[n]) = false := by simp [he]
        rw [this, if_pos he]; rfl
      · have : (a[n] != b[n]) = true := by simp [he]
        rw [this, if_neg he]; rfl
    · simp only [slices_Equal_string_string_L0, lt_false (Nat.le_refl a.length), bif_false]
  · have e : (a.length != b.length) = true := by simp [hl]
    have e2 : (a == b) = false := by
      rw [Bool.eq_false_iff]; intro h; exact hl (by rw [eq_of_beq h])
    rw [e, e2]; rfl
theorem snap_len (l : List GField) (ns : List Str) : (snapF l ns).length = ns.length := by simp [snapF]
def without (l : List GField) (n : Str) : List GField := l.filter fun f => !fold f.fName n
theorem without_sm {l : List GField} (h : smL l) (n : Str) : smL (without l n) :=
  ⟨Nat.le_trans (List.length_filter_le _ _) h.1, fun f hf => h.2 f ((List.mem_filter.1 hf).1)⟩
end Go.Eng.Pure
