/- A part of the proof of laws of the seat. -/
import Derived.Test.YtogfdiigokidaaaGreatDoorEntryP
/- Layer 26: an entry's response as text, and read again. -/
namespace Go.Eng.Pure
open Go Go.Eng
set_option linter.unusedVariables false
theorem ixB (c : UInt8) (b : Str) : ∀ a : Str, (∀ x ∈ a, x ≠ c) → Lib.indexByte (a ++ c :: b) c = (a.length : Int)
  | [], _ => by simp [Lib.indexByte]
  | x :: a, h => by
    have h1 : (x == c) = false := by simpa using h x List.mem_cons_self
    have h2 := ixB c b a (fun y hy => h y (List.mem_cons_of_mem _ hy))
    rw [List.cons_append, Lib.indexByte, h2, h1, List.length_cons]
    rw [show (((a.length : Int) == -1) : Bool) = false by rw [beq_eq_false_iff_ne]; omega]
    simp
theorem SCut_eq (a b : Str) (ha : ∀ x ∈ a, x ≠ 32) (hl : a.length + b.length ≤ 1073741824) : strings_Cut (a ++ 32 :: b) [32] = some (a, b, true) := by
  have e1 : (a.length : Int) + (([32] : Str).length : Int) = (a.length : Int) + 1 := rfl
  have e2 : (a ++ 32 :: b).length = a.length + 1 + b.length := by rw [List.length_append, List.length_cons]; omega
  unfold strings_Cut stringslite_Cut stringslite_Index strings_IndexByte
  simp only [ixB 32 b a ha, some_bind]
  rw [show decide ((0 : Int) ≤ (a.length : Int)) = true from decide_eq_true (by omega), bif_true, xsub_to (by omega), some_bind, e1, wrs (by omega), xsub_from (by omega), some_bind]
  simp only [some_bind]
  rw [List.take_left', List.drop_append]
  · simp
  · rfl
/-- The start of the status line. -/
def stT : Str := [72, 84, 84, 80, 47, 49, 46, 49, 32, 50, 48, 48, 32]
theorem stat200 : startline_status [50, 48, 48] = some (200, true) := by
  unfold startline_status
  rw [Number_eq _ (by decide)]
  decide
theorem vers11 : startline_version [72, 84, 84, 80, 47, 49, 46, 49] = some (1, ()) := by decide
theorem rvers11 : ref01_version [72, 84, 84, 80, 47, 49, 46, 49] = some (1, 0) := by decide
theorem PS_eq (s : Str) (h : s.length ≤ 1000) : startline_ParseStatus (stT ++ s) = some (if txt s then (1, 200, s, 0) else (0, 0, [], 1)) := by
  have hl : (stT ++ s).length = 13 + s.length := by rw [List.length_append]; rfl
  have e1 : stT ++ s = [72, 84, 84, 80, 47, 49, 46, 49] ++ 32 :: ([50, 48, 48, 32] ++ s) := by simp [stT]
  have e2 : ([50, 48, 48, 32] : Str) ++ s = [50, 48, 48] ++ 32 :: s := by simp
  have c1 : strings_Cut (stT ++ s) [32] = some ([72, 84, 84, 80, 47, 49, 46, 49], [50, 48, 48, 32] ++ s, true) := by
    rw [e1]
    exact SCut_eq _ _ (by decide) (by simp only [List.length_append, List.length_cons, List.length_nil]; omega)
  have c2 : strings_Cut ([50, 48, 48, 32] ++ s) [32] = some ([50, 48, 48], s, true) := by
    rw [e2]
    exact SCut_eq _ _ (by decide) (by simp only [List.length_cons, List.length_nil]; omega)
  unfold startline_ParseStatus
  rw [hl, show decide ((2000 : Int) < ((13 + s.length : Nat) : Int)) = false from decide_eq_false (by omega), bif_false, c1, some_bind]
  simp only [c2, some_bind, stat200, Bool.not_true, Bool.or_self, bif_false, Text_eq s (by omega), vers11]
  cases txt s <;> rfl
theorem FS_eq (s : Str) (h : s.length ≤ 1000) : startline_FormatStatus 1 200 s = some (if txt s then stT ++ s else []) := by
  have i1 : strconv_Itoa 1 = some [49] := by unfold strconv_Itoa; rw [if_pos (by decide), itoa1]
  have i2 : strconv_Itoa 200 = some [50, 48, 48] := by
    unfold strconv_Itoa; rw [if_pos (by decide)]
    unfold Lib.itoa; rw [if_neg (by decide), show (200 : Int).toNat = 200 from rfl]
    show some (dec 200) = _
    rw [dec_big (by decide), dec_big (by decide), dec_small (by decide)]; rfl
  unfold startline_FormatStatus
  rw [i1, some_bind, xcat_sm (by decide) (by decide), some_bind, xcat_sm (by decide) (by decide), some_bind, i2, some_bind, xcat_sm (by decide) (by decide), some_bind, xcat_sm (by decide) (by decide), some_bind, xcat_sm (by decide) (by omega), some_bind]
  rw [show (((([72, 84, 84, 80, 47, 49, 46] : Str) ++ [49] ++ [32]) ++ [50, 48, 48]) ++ [32]) = stT from rfl, PS_eq s h, some_bind]
  cases txt s <;> simp
theorem xnth_app {a b : Str} {n : Nat} (h : n < a.length) : xnth (a ++ b) (n : Int) = some a[n] := by
  rw [xnth_get (by rw [List.length_append]; omega), List.getElem_append_left h]
theorem RPS_eq (s : Str) (h : s.length ≤ 1000) : ref01_ParseStatusLine (stT ++ s) = some (if txt s then (1, 200, s, 0) else (0, 0, [], 1)) := by
  have hl : (stT ++ s).length = 13 + s.length := by rw [List.length_append]; rfl
  have x8 : xnth (stT ++ s) 8 = some 32 := xnth_app (n := 8) (by decide)
  have x9 : xnth (stT ++ s) 9 = some 50 := xnth_app (n := 9) (by decide)
  have x10 : xnth (stT ++ s) 10 = some 48 := xnth_app (n := 10) (by decide)
  have x11 : xnth (stT ++ s) 11 = some 48 := xnth_app (n := 11) (by decide)
  have x12 : xnth (stT ++ s) 12 = some 32 := xnth_app (n := 12) (by decide)
  have s13 : xsub (stT ++ s) 13 ((13 + s.length : Nat) : Int) = some s := by
    have := xsub_from (l := stT ++ s) (i := 13) (by omega)
    rw [hl] at this
    exact this
  have s8 : xsub (stT ++ s) 0 8 = some [72, 84, 84, 80, 47, 49, 46, 49] := by
    have := xsub_to (l := stT ++ s) (j := 8) (by omega)
    exact this
  have s9 : xsub (stT ++ s) 9 12 = some [50, 48, 48] := by
    have := xsub_nat (l := stT ++ s) (i := 9) (j := 12) (by omega)
    exact this
  have n200 : ref01_Number [50, 48, 48] = some (200, true) := by rw [RNumber_eq _ (by decide)]; decide
  unfold ref01_ParseStatusLine
  rw [hl, show decide ((2000 : Int) < ((13 + s.length : Nat) : Int)) = false from decide_eq_false (by omega), bif_false,
    show decide (((13 + s.length : Nat) : Int) < (13 : Int)) = false from decide_eq_false (by omega), bif_false]
  simp only [x8, x9, x10, x11, x12, s13, s8, s9, n200, some_bind, RDigit_eq, rvers11, RText_eq s (by omega)]
  cases txt s <;> rfl
theorem RFS_eq (s : Str) (h : s.length ≤ 1000) : ref01_FormatStatusLine 1 200 s = some (if txt s then stT ++ s else []) := by
  have i2 : Lib.itoa 200 = [50, 48, 48] := by
    unfold Lib.itoa; rw [if_neg (by decide), show (200 : Int).toNat = 200 from rfl]
    show (dec 200) = _
    rw [dec_big (by decide), dec_big (by decide), dec_small (by decide)]; rfl
  unfold ref01_FormatStatusLine
  rw [show decide ((2000 : Int) < (s.length : Int)) = false from decide_eq_false (by omega)]
  rw [show ((((decide ((1 : Int) < 0) || decide ((1 : Int) < 1)) || decide ((200 : Int) < 100)) || decide ((599 : Int) < 200)) || false) = false from rfl, bif_false,
    Decimal_eq _ (by decide) (by decide), itoa1, some_bind, xcat_sm (by decide) (by decide), some_bind, xcat_sm (by decide) (by decide), some_bind, Decimal_eq _ (by decide) (by decide), i2, some_bind, xcat_sm (by decide) (by decide), some_bind, xcat_sm (by decide) (by decide), some_bind, xcat_sm (by decide) (by omega), some_bind]
  rw [show (((([72, 84, 84, 80, 47, 49, 46] : Str) ++ [49] ++ [32]) ++ [50, 48, 48]) ++ [32]) = stT from rfl, RPS_eq s h, some_bind]
  cases txt s <;> simp
end Go.Eng.Pure

/- Layer 26: an entry's response as text, second part: the head and the text. -/
namespace Go.Eng.Pure
open Go Go.Eng
set_option linter.unusedVariables false
/-- A field's line. -/
def lineF (f : GField) : Str := if f.fValue = [] then f.fName ++ [58] else (f.fName ++ [58, 32]) ++ f.fValue
def vldF (f : GField) : Bool := ((tok f.fName && txt f.fValue) && (trim f.fValue == f.fValue)) && decide ((lineF f).length ≤ 2000)
def smG (f : GField) : Prop := f.fName.length ≤ 1000 ∧ f.fValue.length ≤ 1000
theorem lineF_len {f : GField} (h : smG f) : (lineF f).length ≤ 2002 := by
  unfold lineF
  split
  · simp only [List.length_append, List.length_cons, List.length_nil]; have := h.1; omega
  · simp only [List.length_append, List.length_cons, List.length_nil]; have := h.1; have := h.2; omega
theorem lineF_ne (f : GField) : lineF f ≠ [] := by unfold lineF; split <;> simp
theorem line_eq (f : GField) (h : smG f) : fieldline_line f = some (lineF f) := by
  unfold fieldline_line lineF
  have h1 := h.1; have h2 := h.2
  by_cases hv : f.fValue = []
  · rw [hv, if_pos rfl, show ((([] : Str) == []) : Bool) = true from rfl, bif_true, xcat_sm (by omega) (by decide)]; rfl
  · rw [if_neg hv, show (f.fValue == []) = false by simpa using hv, bif_false, xcat_sm (by omega) (by decide), some_bind, xcat_sm (by rw [List.length_append]; simp; omega) (by omega)]; rfl
theorem Rform_eq (f : GField) (h : smG f) : ref01_form f = some (lineF f) := by
  unfold ref01_form lineF
  have h1 := h.1; have h2 := h.2
  by_cases hv : f.fValue = []
  · rw [hv, if_pos rfl, show ((([] : Str) == []) : Bool) = true from rfl, bif_true, xcat_sm (by omega) (by decide)]; rfl
  · rw [if_neg hv, show (f.fValue == []) = false by simpa using hv, bif_false, xcat_sm (by omega) (by decide), some_bind, xcat_sm (by rw [List.length_append]; simp; omega) (by omega)]; rfl
theorem le2000 (n : Nat) : decide ((n : Int) ≤ 2000) = decide (n ≤ 2000) := le_nat n 2000
theorem FValid_eq (f : GField) (h : smG f) : fieldline_Valid f = some (vldF f) := by
  have h1 := h.1; have h2 := h.2
  unfold fieldline_Valid vldF
  rw [Token_eq _ (by omega), some_bind, Text_eq _ (by omega), Trim_eq _ (by omega), line_eq f h]
  simp only [some_bind, le2000]
  cases tok f.fName <;> cases txt f.fValue <;> cases (trim f.fValue == f.fValue) <;> rfl
theorem RValidF_eq (f : GField) (h : smG f) : ref01_ValidField f = some (vldF f) := by
  have h1 := h.1; have h2 := h.2
  unfold ref01_ValidField vldF
  rw [RToken_eq _ (by omega), some_bind, RText_eq _ (by omega), RTrim_eq _ (by omega), Rform_eq f h]
  simp only [some_bind, le2000]
  cases tok f.fName <;> cases txt f.fValue <;> cases (trim f.fValue == f.fValue) <;> rfl
theorem FFormat_eq (f : GField) (h : smG f) : fieldline_Format f = some (if vldF f then lineF f else []) := by
  unfold fieldline_Format
  rw [FValid_eq f h, some_bind, line_eq f h]
  cases vldF f <;> rfl
def crlf : Str := [13, 10]
def clN : Str := [67, 111, 110, 116, 101, 110, 116, 45, 76, 101, 110, 103, 116, 104]
def teN : Str := [84, 114, 97, 110, 115, 102, 101, 114, 45, 69, 110, 99, 111, 100, 105, 110, 103]
def clT : Str := [67, 111, 110, 116, 101, 110, 116, 45, 76, 101, 110, 103, 116, 104, 58, 32]
def frm (f : GField) : Bool := fold f.fName clN || fold f.fName teN
/-- Without the fields that frame. -/
def unfr (l : List GField) : List GField := l.filter fun f => !frm f
def linesF (l : List GField) : Str := l.flatMap fun f => lineF f ++ crlf
/-- The end of the head. -/
def tailS (n : Nat) (x3 : Bool) : Str := (if x3 then clT ++ Lib.itoa n ++ crlf else []) ++ crlf
def joinS (start : Str) (l : List GField) (body : Str) (x3 x4 : Bool) : Str :=
  if start = [] ∨ 63 < (unfr l).length ∨ (unfr l).all vldF = false ∨ 16000 < (start ++ crlf ++ linesF (unfr l) ++ tailS body.length x3).length then []
  else start ++ crlf ++ linesF (unfr l) ++ tailS body.length x3 ++ (if x4 then body else [])
def smT (l : List GField) : Prop := l.length ≤ 100 ∧ ∀ f ∈ l, smG f
theorem smT_F {l : List GField} (h : smT l) : l.length ≤ 1073741824 ∧ ∀ f ∈ l, smF f := ⟨by have := h.1; omega, fun f hf => by have := h.2 f hf; exact ⟨by have := this.1; omega, by have := this.2; omega⟩⟩
theorem without_T {l : List GField} (h : smT l) (n : Str) : smT (without l n) := ⟨Nat.le_trans (List.length_filter_le _ _) h.1, fun f hf => h.2 f (List.mem_filter.1 hf).1⟩
theorem unfr_eq (l : List GField) : without (without l clN) teN = unfr l := by
  unfold without unfr frm
  rw [List.filter_filter]
  congr 1; funext f
  cases fold f.fName clN <;> cases fold f.fName teN <;> rfl
theorem Unframed_eq (l : List GField) (h : smT l) : ref01_Unframed l = some (unfr l) := by
  obtain ⟨h1, h2⟩ := smT_F h
  obtain ⟨h3, h4⟩ := smT_F (without_T h clN)
  unfold ref01_Unframed
  rw [show ([67, 111, 110, 116, 101, 110, 116, 45, 76, 101, 110, 103, 116, 104] : Str) = clN from rfl, Remove01_eq _ _ h1 h2 (by decide), some_bind,
    show ([84, 114, 97, 110, 115, 102, 101, 114, 45, 69, 110, 99, 111, 100, 105, 110, 103] : Str) = teN from rfl, Remove01_eq _ _ h3 h4 (by decide), some_bind, unfr_eq]
theorem unfr_T {l : List GField} (h : smT l) : smT (unfr l) := ⟨Nat.le_trans (List.length_filter_le _ _) h.1, fun f hf => h.2 f (List.mem_filter.1 hf).1⟩
theorem linesF_len {l : List GField} (h : smT l) : (linesF l).length ≤ 100 * 2004 := by
  have : ∀ k : List GField, (∀ f ∈ k, smG f) → (linesF k).length ≤ k.length * 2004 := by
    intro k hk
    induction k with
    | nil => simp [linesF]
    | cons x k ih =>
      have h3 := ih (fun f hf => hk f (List.mem_cons_of_mem _ hf))
      have h4 := lineF_len (hk x List.mem_cons_self)
      unfold linesF at h3 ⊢
      rw [List.flatMap_cons, List.length_append, List.length_append, List.length_cons, Nat.succ_mul]
      have : crlf.length = 2 := rfl
      omega
  exact Nat.le_trans (this l h.2) (Nat.mul_le_mul_right _ h.1)
/-- The reference's loop over the fields. -/
theorem joined_loop (l : List GField) (h : smT l) (s : Str) (hs : s.length ≤ 1073741824) : whileO (ref01_joined_L0 l) (s, 0) = some (if l.all vldF then .inl (s ++ linesF l) else .inr []) := by
  have := while_run0 (fun st i => (st, i)) l (fun st f => if vldF f then .inl (st ++ (lineF f ++ crlf)) else .inr (.inr [])) (fun st => (.inl st : Str ⊕ Str)) (ref01_joined_L0 l) (fun n st => st.length ≤ 1073741824 + 2004 * n) s (by omega) ?_ ?_
  · rw [this]
    clear this
    have key : ∀ (k : List GField) (st : Str), run (fun st f => if vldF f then .inl (st ++ (lineF f ++ crlf)) else .inr (.inr [])) (fun st => (.inl st : Str ⊕ Str)) k st = if k.all vldF then .inl (st ++ linesF k) else .inr [] := by
      intro k
      induction k with
      | nil => intro st; simp [run, linesF]
      | cons x k ih =>
        intro st
        unfold run
        cases hv : vldF x with
        | true => simp only [hv, if_true, ih, List.all_cons, Bool.true_and]; simp [linesF]
        | false => simp [hv]
    rw [key]
  · intro n hn st hI
    have hm := h.2 l[n] (List.getElem_mem hn)
    have h1 := h.1
    have h2 := lineF_len hm
    have h4 : (lineF l[n] ++ [13, 10]).length = (lineF l[n]).length + 2 := by rw [List.length_append]; rfl
    refine ⟨?_, ?_⟩
    · simp only [ref01_joined_L0, lt_true hn, bif_true, xnth_get hn, some_bind, RValidF_eq _ hm]
      cases hv : vldF l[n] with
      | false => rfl
      | true =>
        rw [Bool.not_true, bif_false, Rform_eq _ hm, some_bind, xcat_sm (by omega) (by decide), some_bind, xcat_sm (by omega) (by rw [h4]; omega), some_bind, wrs (n := n) (by omega)]
        rfl
    · intro st' hst
      split at hst
      · injection hst with hst
        subst hst
        show (st ++ (lineF l[n] ++ crlf)).length ≤ _
        rw [List.length_append]
        unfold crlf
        omega
      · cases hst
  · intro st hI
    simp only [ref01_joined_L0, lt_false (Nat.le_refl _), bif_false]
theorem lt63 (n : Nat) : decide ((63 : Int) < (n : Int)) = decide (63 < n) := by rw [Bool.eq_iff_iff, decide_eq_true_eq, decide_eq_true_eq]; omega
theorem lt16 (n : Nat) : decide ((16000 : Int) < (n : Int)) = decide (16000 < n) := by rw [Bool.eq_iff_iff, decide_eq_true_eq, decide_eq_true_eq]; omega
theorem itoaN (n : Nat) (h : n ≤ 100000) : ref01_Decimal (n : Int) = some (Lib.itoa n) ∧ ascii_Decimal (n : Int) = some (Lib.itoa n) ∧ (Lib.itoa n).length ≤ 21 := ⟨Decimal_eq _ (by omega) (by omega), ADecimal_eq _ (by omega) (by omega), itoa_len _ (by omega) (by omega)⟩
theorem joined_eq (s : Str) (l : List GField) (b : Str) (x3 x4 : Bool) (hs : s.length ≤ 100000) (hl : smT l) (hb : b.length ≤ 100000) : ref01_joined s l b x3 x4 = some (joinS s l b x3 x4) := by
  obtain ⟨i1, _, i3⟩ := itoaN b.length hb
  have hu := unfr_T hl
  have hll := linesF_len hu
  have c2 : crlf.length = 2 := rfl
  unfold ref01_joined joinS
  rw [Unframed_eq l hl, some_bind, lt63, show decide ((100000 : Int) < (b.length : Int)) = false from decide_eq_false (by omega), Bool.or_false]
  by_cases h0 : s = []
  · subst h0; simp
  rw [show (s == []) = false by simpa using h0, Bool.false_or]
  by_cases h1 : 63 < (unfr l).length
  · simp [h1]
  rw [decide_eq_false h1, bif_false, show ([13, 10] : Str) = crlf from rfl, xcat_sm (by omega) (by decide), some_bind, joined_loop _ hu _ (by rw [List.length_append]; omega), some_bind]
  cases hv : (unfr l).all vldF with
  | false => simp
  | true =>
    have ht : (match x3 with | true => (ref01_Decimal (b.length : Int)).bind fun r61 => (xcat [67, 111, 110, 116, 101, 110, 116, 45, 76, 101, 110, 103, 116, 104, 58, 32] r61).bind fun s66 => (xcat s66 crlf).bind fun s67 => (xcat (s ++ crlf ++ linesF (unfr l)) s67).bind fun s68 => some s68 | false => some (s ++ crlf ++ linesF (unfr l))) = some (s ++ crlf ++ linesF (unfr l) ++ (if x3 then clT ++ Lib.itoa b.length ++ crlf else [])) := by
      cases x3 with
      | false => simp
      | true =>
        show ((ref01_Decimal (b.length : Int)).bind fun r61 => (xcat [67, 111, 110, 116, 101, 110, 116, 45, 76, 101, 110, 103, 116, 104, 58, 32] r61).bind fun s66 => (xcat s66 crlf).bind fun s67 => (xcat (s ++ crlf ++ linesF (unfr l)) s67).bind fun s68 => some s68) = _
        rw [i1, some_bind, xcat_sm (by decide) (by omega), some_bind, xcat_sm (by rw [List.length_append]; simp; omega) (by decide), some_bind, xcat_sm (by simp only [List.length_append]; omega) (by simp only [List.length_append, List.length_cons, List.length_nil]; omega), some_bind]
        rfl
    have hc : (bif x3 then (ref01_Decimal (b.length : Int)).bind fun r61 => (xcat [67, 111, 110, 116, 101, 110, 116, 45, 76, 101, 110, 103, 116, 104, 58, 32] r61).bind fun s66 => (xcat s66 crlf).bind fun s67 => (xcat (s ++ crlf ++ linesF (unfr l)) s67).bind fun s68 => some s68 else some (s ++ crlf ++ linesF (unfr l))) = some (s ++ crlf ++ linesF (unfr l) ++ (if x3 then clT ++ Lib.itoa b.length ++ crlf else [])) := by
      rw [← ht]; cases x3 <;> rfl
    rw [if_pos rfl]
    show Option.bind (bif x3 then _ else _) _ = _
    rw [hc, some_bind]
    have htl : (if x3 then clT ++ Lib.itoa b.length ++ crlf else []).length ≤ 100 := by
      split
      · simp only [List.length_append]; have : clT.length = 16 := rfl; omega
      · simp
    rw [xcat_sm (by simp only [List.length_append]; omega) (by decide), some_bind, List.append_assoc _ (if x3 then clT ++ Lib.itoa b.length ++ crlf else []) crlf]
    rw [show (if x3 then clT ++ Lib.itoa b.length ++ crlf else []) ++ crlf = tailS b.length x3 from rfl]
    have htl2 : (tailS b.length x3).length ≤ 102 := by unfold tailS; rw [List.length_append]; omega
    generalize hh : s ++ crlf ++ linesF (unfr l) ++ tailS b.length x3 = hd at *
    have hhl : hd.length ≤ 1000000 := by rw [← hh]; simp only [List.length_append]; omega
    rw [lt16]
    by_cases h2 : 16000 < hd.length
    · simp [h2]
    · rw [decide_eq_false h2, bif_false, if_neg (by simp [h0, h1, h2])]
      cases x4 with
      | false => simp
      | true => simp only [cond_true]; rw [xcat_sm (by omega) (by omega)]; rfl
end Go.Eng.Pure

/- Layer 26: an entry's response as text, third part: the two formatters say the same. -/
namespace Go.Eng.Pure
open Go Go.Eng
set_option linter.unusedVariables false
def stepM (st : Nat × Str) (f : GField) : (Nat × Str) ⊕ (Str ⊕ Str) :=
  if frm f then .inl st else if vldF f = false ∨ 64 ≤ st.1 + 1 ∨ 16000 < st.2.length then .inr (.inr []) else .inl (st.1 + 1, st.2 ++ (lineF f ++ crlf))
def finM (st : Nat × Str) : Str ⊕ Str := .inl st.2
def endM (tail body : Str) : Str ⊕ Str → Str
  | .inr e => e
  | .inl m => if 16000 < (m ++ tail).length then [] else m ++ tail ++ body
theorem run_M (tail body : Str) : ∀ (k : List GField) (st : Nat × Str), st.1 ≤ 63 → endM tail body (run stepM finM k st) = if 63 < st.1 + (unfr k).length ∨ (unfr k).all vldF = false ∨ 16000 < (st.2 ++ linesF (unfr k) ++ tail).length then [] else st.2 ++ linesF (unfr k) ++ tail ++ body
  | [], st, h => by
    unfold run finM endM unfr linesF
    simp only [List.filter_nil, List.length_nil, List.all_nil, List.flatMap_nil, List.append_nil]
    by_cases h2 : 16000 < (st.2 ++ tail).length
    · rw [if_pos h2, if_pos (Or.inr (Or.inr h2))]
    · rw [if_neg h2, if_neg (fun h5 => h5.elim (fun h6 => by omega) (fun h6 => h6.elim (fun h7 => by cases h7) h2))]
  | x :: k, st, h => by
    unfold run
    cases hf : frm x with
    | true =>
      have e1 : stepM st x = .inl st := by unfold stepM; rw [hf, if_pos rfl]
      have e2 : unfr (x :: k) = unfr k := by unfold unfr; rw [List.filter_cons, hf]; rfl
      rw [e1, e2]
      exact run_M tail body k st h
    | false =>
      have e2 : unfr (x :: k) = x :: unfr k := by unfold unfr; rw [List.filter_cons, hf]; rfl
      have e4 : linesF (x :: unfr k) = (lineF x ++ crlf) ++ linesF (unfr k) := by unfold linesF; rw [List.flatMap_cons]
      by_cases hb : vldF x = false ∨ 64 ≤ st.1 + 1 ∨ 16000 < st.2.length
      · have e1 : stepM st x = .inr (.inr []) := by unfold stepM; rw [hf, if_neg (by decide), if_pos hb]
        rw [e1, e2, e4, if_pos]
        · rfl
        · rcases hb with hb | hb | hb
          · exact Or.inr (Or.inl (by rw [List.all_cons, hb]; rfl))
          · exact Or.inl (by rw [List.length_cons]; omega)
          · exact Or.inr (Or.inr (by simp only [List.length_append]; omega))
      · have e1 : stepM st x = .inl (st.1 + 1, st.2 ++ (lineF x ++ crlf)) := by unfold stepM; rw [hf, if_neg (by decide), if_neg hb]
        have hv : vldF x = true := by
          cases hv : vldF x with
          | true => rfl
          | false => exact absurd (Or.inl hv) hb
        have hn : st.1 + 1 ≤ 63 := by
          have : ¬ 64 ≤ st.1 + 1 := fun h' => hb (Or.inr (Or.inl h'))
          omega
        rw [e1, e2, e4]
        show endM tail body (run stepM finM k (st.1 + 1, st.2 ++ (lineF x ++ crlf))) = _
        rw [run_M tail body k _ hn]
        have e5 : (st.1 + 1 : Nat) + (unfr k).length = st.1 + (x :: unfr k).length := by rw [List.length_cons]; omega
        have e6 : (x :: unfr k).all vldF = (unfr k).all vldF := by rw [List.all_cons, hv, Bool.true_and]
        have e7 : st.2 ++ (lineF x ++ crlf) ++ linesF (unfr k) = st.2 ++ (lineF x ++ crlf ++ linesF (unfr k)) := by rw [List.append_assoc]
        simp only [e5, e6, e7]
theorem le64 (n : Nat) : decide ((64 : Int) ≤ (n : Int)) = decide (64 ≤ n) := by rw [Bool.eq_iff_iff, decide_eq_true_eq, decide_eq_true_eq]; omega
theorem WS_eq (s m : Str) (h1 : s.length ≤ 64 * 1073741824) (h2 : m.length ≤ 64 * 1073741824) : strings_Builder_WriteString__Builder s m = some ((s.length : Int), (), m ++ s) := by
  unfold strings_Builder_WriteString__Builder strings_Builder_copyCheck__Builder
  rw [some_bind, xapp_sm h2 h1, some_bind]
theorem FFold_eq (f : GField) (n : Str) (h : smG f) (hn : n.length ≤ 1000) : ascii_Fold f.fName n = some (fold f.fName n) := Fold_eq _ _ (by have := h.1; omega) (by omega)
theorem frm_eq (f : GField) (h : smG f) : ((ascii_Fold f.fName [67, 111, 110, 116, 101, 110, 116, 45, 76, 101, 110, 103, 116, 104]).bind fun r54 =>
      (bif r54 then
        some true
      else
        (ascii_Fold f.fName [84, 114, 97, 110, 115, 102, 101, 114, 45, 69, 110, 99, 111, 100, 105, 110, 103]).bind fun r61 =>
        some (r61))) = some (frm f) := by
  rw [FFold_eq f _ h (by decide), some_bind, FFold_eq f _ h (by decide), some_bind]
  show (bif fold f.fName clN then some true else some (fold f.fName teN)) = some (fold f.fName clN || fold f.fName teN)
  cases fold f.fName clN <;> rfl
theorem bind_assoc' {α β γ : Type} (o : Option α) (f : α → Option β) (g : β → Option γ) : (o.bind f).bind g = o.bind fun x => (f x).bind g := by cases o <;> rfl
theorem body_M (l : List GField) (h : smT l) (n : Nat) (hn : n < l.length) (st : Nat × Str) (h1 : st.1 ≤ n) (h2 : st.2.length ≤ 200000 + 2004 * n) :
    message_format_L0 l ((st.1 : Int), (n : Int), st.2) = some (match stepM st l[n] with | .inl st' => .inl ((st'.1 : Int), ((n + 1 : Nat) : Int), st'.2) | .inr r => .inr r) := by
  have hm := h.2 l[n] (List.getElem_mem hn)
  have hl := h.1
  have hln := lineF_len hm
  unfold message_format_L0
  simp only []
  rw [lt_true hn, bif_true, xnth_get hn, some_bind, ← bind_assoc', frm_eq _ hm, some_bind]
  unfold stepM
  cases hf : frm l[n] with
  | true => rw [bif_true, wrs (n := n) (by omega), if_pos rfl]
  | false =>
    rw [bif_false, if_neg (by decide), FFormat_eq _ hm, some_bind]
    rw [wrs (n := st.1) (by omega), le64]
    unfold strings_Builder_Len__Builder
    rw [some_bind, lt16]
    cases hv : vldF l[n] with
    | false =>
      rw [if_neg (by decide), if_pos (Or.inl rfl)]; rfl
    | true =>
      rw [if_pos rfl]
      rw [show ((lineF l[n] == []) : Bool) = false by simpa using lineF_ne l[n], Bool.false_or]
      by_cases h3 : 64 ≤ st.1 + 1
      · rw [decide_eq_true h3, if_pos (Or.inr (Or.inl h3))]; rfl
      · rw [decide_eq_false h3, bif_false, some_bind]
        by_cases h4 : 16000 < st.2.length
        · rw [decide_eq_true h4, bif_true, if_pos (Or.inr (Or.inr h4))]
        · rw [decide_eq_false h4, bif_false, if_neg (fun h5 => h5.elim (fun h6 => by cases h6) (fun h6 => h6.elim h3 h4))]
          rw [xcat_sm (by omega) (by decide), some_bind, WS_eq _ _ (by rw [List.length_append]; have : ([13, 10] : Str).length = 2 := rfl; omega) (by omega), some_bind, wrs (n := n) (by omega)]
          rfl
theorem loop_M (l : List GField) (h : smT l) (s : Str) (hs : s.length ≤ 200000) : whileO (message_format_L0 l) (0, 0, s) = some (run stepM finM l (0, s)) := by
  have := while_run0 (fun (st : Nat × Str) i => ((st.1 : Int), i, st.2)) l stepM finM (message_format_L0 l) (fun n st => st.1 ≤ n ∧ st.2.length ≤ 200000 + 2004 * n) (0, s) ⟨Nat.le_refl 0, by show s.length ≤ _; omega⟩ ?_ ?_
  · exact this
  · intro n hn st hI
    refine ⟨by rw [body_M l h n hn st hI.1 hI.2]; cases stepM st l[n] <;> rfl, ?_⟩
    intro st' hst
    have hln := lineF_len (h.2 l[n] (List.getElem_mem hn))
    unfold stepM at hst
    split at hst
    · injection hst with hst; subst hst; exact ⟨by have := hI.1; omega, by have := hI.2; omega⟩
    · split at hst
      · cases hst
      · injection hst with hst; subst hst
        refine ⟨by have := hI.1; show st.1 + 1 ≤ n + 1; omega, ?_⟩
        show (st.2 ++ (lineF l[n] ++ crlf)).length ≤ _
        have := hI.2
        rw [List.length_append, List.length_append, show crlf.length = 2 from rfl]
        omega
  · intro st hI
    unfold message_format_L0
    simp only []
    rw [lt_false (Nat.le_refl _), bif_false]; rfl
theorem run_len (l : List GField) (h : smT l) : ∀ (k : List GField) (st : Nat × Str) (m : Str), (∀ f ∈ k, smG f) → run stepM finM k st = .inl m → m.length ≤ st.2.length + 2004 * k.length
  | [], st, m, hk, e => by
    unfold run finM at e; injection e with e; subst e; omega
  | x :: k, st, m, hk, e => by
    unfold run at e
    have hx := lineF_len (hk x List.mem_cons_self)
    have hk' : ∀ f ∈ k, smG f := fun f hf => hk f (List.mem_cons_of_mem _ hf)
    rw [List.length_cons]
    unfold stepM at e
    split at e
    · rename_i st' hst
      split at hst
      · injection hst with hst; subst hst
        have := run_len l h k _ m hk' e; omega
      · split at hst
        · cases hst
        · injection hst with hst; subst hst
          have := run_len l h k _ m hk' e
          have e2 : (st.2 ++ (lineF x ++ crlf)).length = st.2.length + (lineF x).length + 2 := by rw [List.length_append, List.length_append, show crlf.length = 2 from rfl]; omega
          simp only [e2] at this
          omega
    · rename_i r hst
      split at hst
      · cases hst
      · split at hst
        · injection hst with hst; subst hst; cases e
        · cases hst
theorem format_eq (s : Str) (l : List GField) (b : Str) (hs : s.length ≤ 100000) (hl : smT l) (hb : b.length ≤ 100000) : message_format s l (b.length : Int) b = some (joinS s l b true true) := by
  obtain ⟨_, i2, i3⟩ := itoaN b.length hb
  have c2 : crlf.length = 2 := rfl
  unfold message_format
  by_cases h0 : s = []
  · subst h0; simp [joinS]
  rw [show (s == []) = false by simpa using h0, bif_false, show ([13, 10] : Str) = crlf from rfl, xcat_sm (by omega) (by decide), some_bind, WS_eq _ _ (by rw [List.length_append]; omega) (by decide), some_bind]
  rw [List.nil_append, loop_M l hl _ (by rw [List.length_append]; omega), some_bind]
  have key := run_M (tailS b.length true) b l (0, s ++ crlf) (Nat.zero_le 63)
  have hlen := run_len l hl l (0, s ++ crlf)
  generalize run stepM finM l (0, s ++ crlf) = R at *
  have hj : joinS s l b true true = endM (tailS b.length true) b R := by
    rw [key]; unfold joinS
    simp only [h0, false_or, Nat.zero_add, if_true]
  rw [hj]
  cases R with
  | inr e => rfl
  | inl m =>
    have hm := hlen m hl.2 rfl
    have hl1 := hl.1
    have e2 : (s ++ crlf).length = s.length + 2 := by rw [List.length_append, c2]
    simp only [e2] at hm
    have hm2 : m.length ≤ 400000 := by omega
    simp only []
    rw [show decide ((0 : Int) ≤ (b.length : Int)) = true from decide_eq_true (by omega), bif_true, i2, some_bind, xcat_sm (by decide) (by omega), some_bind, xcat_sm (by rw [List.length_append]; simp; omega) (by decide), some_bind]
    have e3 : ([67, 111, 110, 116, 101, 110, 116, 45, 76, 101, 110, 103, 116, 104, 58, 32] ++ Lib.itoa (b.length : Int) ++ crlf).length ≤ 100 := by
      rw [List.length_append, List.length_append, c2]; simp; omega
    rw [WS_eq _ _ (by omega) (by omega), some_bind, some_bind, WS_eq _ _ (by decide) (by rw [List.length_append]; omega), some_bind]
    unfold strings_Builder_Len__Builder strings_Builder_String__Builder
    rw [some_bind]
    have e4 : m ++ ([67, 111, 110, 116, 101, 110, 116, 45, 76, 101, 110, 103, 116, 104, 58, 32] ++ Lib.itoa (b.length : Int) ++ crlf) ++ crlf = m ++ tailS b.length true := by
      unfold tailS clT; rw [if_pos rfl, List.append_assoc m]
    have e5 : (m ++ tailS b.length true).length ≤ 500000 := by rw [← e4, List.length_append, List.length_append]; omega
    rw [e4, lt16]
    show _ = some (if 16000 < (m ++ tailS b.length true).length then [] else m ++ tailS b.length true ++ b)
    by_cases h1 : 16000 < (m ++ tailS b.length true).length
    · rw [decide_eq_true h1, bif_true, if_pos h1]
    · rw [decide_eq_false h1, bif_false, some_bind, if_neg h1]
      show (xcat (m ++ tailS b.length true) b).bind _ = _
      rw [xcat_sm (by omega) (by omega), some_bind]
/-- Responses of status 200. -/
def fmtS (r : GResponse) (x : Bool) : Str := joinS (if txt r.fReason then stT ++ r.fReason else []) r.fFields r.fBody x x
def smR (r : GResponse) : Prop := r.fMinor = 1 ∧ r.fStatus = 200 ∧ r.fReason.length ≤ 1000 ∧ smT r.fFields ∧ r.fBody.length ≤ 2000
theorem FResp_eq (r : GResponse) (h : smR r) : message_FormatResponse r [71, 69, 84] = some (fmtS r true) := by
  obtain ⟨h1, h2, h3, h4, h5⟩ := h
  have hl : (if txt r.fReason then stT ++ r.fReason else []).length ≤ 100000 := by
    split
    · rw [List.length_append, show stT.length = 13 from rfl]; omega
    · simp
  unfold message_FormatResponse
  rw [show decide ((100000 : Int) < (r.fBody.length : Int)) = false from decide_eq_false (by omega), bif_false, h1, h2, FS_eq _ h3, some_bind,
    show message_Bodiless 200 [71, 69, 84] = some false from rfl, some_bind, bif_false, format_eq _ _ _ hl h4 (by omega), some_bind]
  rfl
theorem RFResp_eq (r : GResponse) (h : smR r) (m : Str) : ref01_FormatResponse r m = some (fmtS r (!(m == [72, 69, 65, 68]))) := by
  obtain ⟨h1, h2, h3, h4, h5⟩ := h
  have hl : (if txt r.fReason then stT ++ r.fReason else []).length ≤ 100000 := by
    split
    · rw [List.length_append, show stT.length = 13 from rfl]; omega
    · simp
  unfold ref01_FormatResponse
  rw [h1, h2, show ref01_Bodiless 200 m = some (m == [72, 69, 65, 68]) from rfl, some_bind, RFS_eq _ h3, some_bind, joined_eq _ _ _ _ _ hl h4 (by omega), some_bind]
  rfl
theorem RVia_eq (l : List GField) (minor : Int) (name : Str) (hl : l.length ≤ 1073741824) (hn : name.length ≤ 1073741824) (h1 : -9223372036854775808 ≤ minor) (h2 : minor ≤ 9223372036854775807) : ref19_Via l minor name = some (viaF l minor name) := by
  have := itoa_len minor h1 h2
  unfold ref19_Via
  rw [xapp_sm (by simp) (by omega), some_bind, List.nil_append, Decimal_eq minor h1 h2, some_bind, xcat_sm (by decide) (by omega), some_bind, xcat_sm (by rw [List.length_append, show ([49, 46] : Str).length = 2 from rfl]; omega) (by decide), some_bind,
    xcat_sm (by rw [List.length_append, List.length_append, show ([49, 46] : Str).length = 2 from rfl, show ([32] : Str).length = 1 from rfl]; omega) (by omega), some_bind, xapp_sm (by omega) (one_sm _), some_bind]
  rfl
theorem Rrespond_eq (e : GEntry) (age : Int) (name : Str) (hf : smL e.fFields) (hn : name.length ≤ 1073741824) (h1 : -9223372036854775808 ≤ age) (h2 : age ≤ 9223372036854775807) : ref26_response e age name = some (respS e age name) := by
  obtain ⟨f1, f2⟩ := smL_F hf
  have hw := (without_sm hf ageN).1
  unfold ref26_response
  rw [Remove01_eq _ _ f1 f2 (by decide), some_bind, Decimal_eq age h1 h2, some_bind]
  unfold ageN at hw
  rw [xapp_sm (by omega) (one_sm _), some_bind, RVia_eq _ _ _ (by rw [List.length_append, List.length_singleton]; omega) hn (by decide) (by decide), some_bind]
  rfl
theorem RResponse26_eq (e : GEntry) (now : Int) (name : Str) (hf : smL e.fFields) (hn : name.length ≤ 1073741824) : ref26_Response e now name = some (respS e (ageE e now) name) := by
  have := ageS_bd e.fFields e.fRequested e.fReceived now
  unfold ref26_Response
  rw [REAge_eq e now hf, some_bind, Rrespond_eq e _ name hf hn (by unfold ageE; omega) (by unfold ageE; omega), some_bind]
theorem respS_sm (e : GEntry) (age : Int) (name : Str) (he : smE e) (hn : name.length ≤ 300) (h1 : -9223372036854775808 ≤ age) (h2 : age ≤ 9223372036854775807) : smR (respS e age name) := by
  obtain ⟨_, _, _, hf, hr, hb⟩ := he
  have hi := itoa_len age h1 h2
  have hw := without_sm hf ageN
  refine ⟨rfl, rfl, by show e.fReason.length ≤ 1000; omega, ⟨?_, ?_⟩, hb⟩
  · show (viaF (without e.fFields ageN ++ [⟨ageN, Lib.itoa age⟩]) 1 name).length ≤ 100
    unfold viaF
    have := hw.1
    simp only [List.length_append, List.length_cons, List.length_nil]; omega
  · intro f hm
    have hm : f ∈ viaF (without e.fFields ageN ++ [⟨ageN, Lib.itoa age⟩]) 1 name := hm
    unfold viaF at hm
    rw [List.mem_append, List.mem_append, List.mem_singleton, List.mem_singleton] at hm
    rcases hm with (hm | hm) | hm
    · have := hw.2 f hm; exact ⟨by omega, by omega⟩
    · subst hm; exact ⟨by show ageN.length ≤ 1000; decide, by show (Lib.itoa age).length ≤ 1000; omega⟩
    · subst hm
      refine ⟨by show viaN.length ≤ 1000; decide, ?_⟩
      show (([49, 46] ++ Lib.itoa 1) ++ [32] ++ name).length ≤ 1000
      rw [itoa1]; simp; omega
theorem SameResp (r : GResponse) (h : r.fFields.length ≤ 1073741824) : keep_SameResponse r r = some true := by
  unfold keep_SameResponse
  rw [RSameFields_eq _ _ h]
  simp
theorem Sendable_eq (e : GEntry) (name : Str) (he : smE e) (hn : name.length ≤ 300) : entry_Sendable e name = some (fmtS (respS e 2147483647 name) true != []) := by
  unfold entry_Sendable
  rw [respond_eq e _ name he.2.2.2.1 (by omega) (by decide) (by decide), some_bind, FResp_eq _ (respS_sm e _ name he hn (by decide) (by decide)), some_bind]
theorem RSendable_eq (e : GEntry) (name : Str) (he : smE e) (hn : name.length ≤ 300) : ref26_Sendable e name = some (fmtS (respS e 2147483647 name) true != []) := by
  unfold ref26_Sendable
  rw [Rrespond_eq e _ name he.2.2.2.1 (by omega) (by decide) (by decide), some_bind, RFResp_eq _ (respS_sm e _ name he hn (by decide) (by decide)), some_bind]
  rfl
theorem EntryResponses_true (e : GEntry) (now : Int) (name : Str) : law26_EntryResponses e now name = some true := by
  unfold law26_EntryResponses
  rw [keep_Entry_eq, some_bind, show decide ((300 : Int) < (name.length : Int)) = decide (300 < name.length) by rw [Bool.eq_iff_iff, decide_eq_true_eq, decide_eq_true_eq]; omega]
  cases he : keepE e with
  | false => rfl
  | true =>
    have hs := keepE_sm he
    by_cases hn : 300 < name.length
    · rw [decide_eq_true hn]; rfl
    · have hn' : name.length ≤ 300 := by omega
      have ha := ageS_bd e.fFields e.fRequested e.fReceived now
      rw [decide_eq_false hn, EResponse_eq e now name hs.2.2.2.1 (by omega), RResponse26_eq e now name hs.2.2.2.1 (by omega), Sendable_eq e name hs hn', RSendable_eq e name hs hn']
      have hr := (respS_sm e (ageE e now) name hs hn' (by unfold ageE; omega) (by unfold ageE; omega)).2.2.2.1.1
      simp only [Bool.not_true, Bool.or_self, bif_false, some_bind, SameResp (respS e (ageE e now) name) (by omega), bif_true, beq_self_eq_true, awake26]
end Go.Eng.Pure
