/- A part of the proof of laws of the seat. -/
import Derived.Test.YtogfdiigokidaaaGreatDoorSend1
/- Layer 26: an entry's response as text, second part: the head and the text. -/
namespace Go.Eng.Pure
open Go Go.Eng
set_option linter.unusedVariables false
/-- A field's line. -/
def lineF (f : GField) : Str := if f.fValue = [] then f.fName ++ [58] else (f.fName ++ [58, 32]) ++ f.fValue
def vldF (f : GField) : Bool := ((tok f.fName && txt f.fValue) && (trim f.fValue == f.fValue)) && decide ((lineF f).length ≤ 2000)
def smG (f : GField) : Prop := f.fName.length ≤ 1000 ∧ f.fValue.length ≤ 1000
theorem lineF_len {f : GField} (h : smG f) : (lineF f).length ≤ 2002 := by
  unfold lineF
  split
  · simp only [List.length_append, List.length_cons, List.length_nil]; have := h.1; omega
  · simp only [List.length_append, List.length_cons, List.length_nil]; have := h.1; have := h.2; omega
theorem lineF_ne (f : GField) : lineF f ≠ [] := by unfold lineF; split <;> simp
theorem line_eq (f : GField) (h : smG f) : fieldline_line f = some (lineF f) := by
  unfold fieldline_line lineF
  have h1 := h.1; have h2 := h.2
  by_cases hv : f.fValue = []
  · rw [hv, if_pos rfl, show ((([] : Str) == []) : Bool) = true from rfl, bif_true, xcat_sm (by omega) (by decide)]; rfl
  · rw [if_neg hv, show (f.fValue == []) = false by simpa using hv, bif_false, xcat_sm (by omega) (by decide), some_bind, xcat_sm (by rw [List.length_append]; simp; omega) (by omega)]; rfl
theorem Rform_eq (f : GField) (h : smG f) : ref01_form f = some (lineF f) := by
  unfold ref01_form lineF
  have h1 := h.1; have h2 := h.2
  by_cases hv : f.fValue = []
  · rw [hv, if_pos rfl, show ((([] : Str) == []) : Bool) = true from rfl, bif_true, xcat_sm (by omega) (by decide)]; rfl
  · rw [if_neg hv, show (f.fValue == []) = false by simpa using hv, bif_false, xcat_sm (by omega) (by decide), some_bind, xcat_sm (by rw [List.length_append]; simp; omega) (by omega)]; rfl
theorem le2000 (n : Nat) : decide ((n : Int) ≤ 2000) = decide (n ≤ 2000) := le_nat n 2000
theorem FValid_eq (f : GField) (h : smG f) : fieldline_Valid f = some (vldF f) := by
  have h1 := h.1; have h2 := h.2
  unfold fieldline_Valid vldF
  rw [Token_eq _ (by omega), some_bind, Text_eq _ (by omega), Trim_eq _ (by omega), line_eq f h]
  simp only [some_bind, le2000]
  cases tok f.fName <;> cases txt f.fValue <;> cases (trim f.fValue == f.fValue) <;> rfl
theorem RValidF_eq (f : GField) (h : smG f) : ref01_ValidField f = some (vldF f) := by
  have h1 := h.1; have h2 := h.2
  unfold ref01_ValidField vldF
  rw [RToken_eq _ (by omega), some_bind, RText_eq _ (by omega), RTrim_eq _ (by omega), Rform_eq f h]
  simp only [some_bind, le2000]
  cases tok f.fName <;> cases txt f.fValue <;> cases (trim f.fValue == f.fValue) <;> rfl
theorem FFormat_eq (f : GField) (h : smG f) : fieldline_Format f = some (if vldF f then lineF f else []) := by
  unfold fieldline_Format
  rw [FValid_eq f h, some_bind, line_eq f h]
  cases vldF f <;> rfl
def crlf : Str := [13, 10]
def clN : Str := [67, 111, 110, 116, 101, 110, 116, 45, 76, 101, 110, 103, 116, 104]
def teN : Str := [84, 114, 97, 110, 115, 102, 101, 114, 45, 69, 110, 99, 111, 100, 105, 110, 103]
def clT : Str := [67, 111, 110, 116, 101, 110, 116, 45, 76, 101, 110, 103, 116, 104, 58, 32]
def frm (f : GField) : Bool := fold f.fName clN || fold f.fName teN
/-- Without the fields that frame. -/
def unfr (l : List GField) : List GField := l.filter fun f => !frm f
def linesF (l : List GField) : Str := l.flatMap fun f => lineF f ++ crlf
/-- The end of the head. -/
def tailS (n : Nat) (x3 : Bool) : Str := (if x3 then clT ++ Lib.itoa n ++ crlf else []) ++ crlf
def joinS (start : Str) (l : List GField) (body : Str) (x3 x4 : Bool) : Str :=
  if start = [] ∨ 63 < (unfr l).length ∨ (unfr l).all vldF = false ∨ 16000 < (start ++ crlf ++ linesF (unfr l) ++ tailS body.length x3).length then []
  else start ++ crlf ++ linesF (unfr l) ++ tailS body.length x3 ++ (if x4 then body else [])
def smT (l : List GField) : Prop := l.length ≤ 100 ∧ ∀ f ∈ l, smG f
theorem smT_F {l : List GField} (h : smT l) : l.length ≤ 1073741824 ∧ ∀ f ∈ l, smF f := ⟨by have := h.1; omega, fun f hf => by have := h.2 f hf; exact ⟨by have := this.1; omega, by have := this.2; omega⟩⟩
theorem without_T {l : List GField} (h : smT l) (n : Str) : smT (without l n) := ⟨Nat.le_trans (List.length_filter_le _ _) h.1, fun f hf => h.2 f (List.mem_filter.1 hf).1⟩
theorem unfr_eq (l : List GField) : without (without l clN) teN = unfr l := by
  unfold without unfr frm
  rw [List.filter_filter]
  congr 1; funext f
  cases fold f.fName clN <;> cases fold f.fName teN <;> rfl
theorem Unframed_eq (l : List GField) (h : smT l) : ref01_Unframed l = some (unfr l) := by
  obtain ⟨h1, h2⟩ := smT_F h
  obtain ⟨h3, h4⟩ := smT_F (without_T h clN)
  unfold ref01_Unframed
  rw [show ([67, 111, 110, 116, 101, 110, 116, 45, 76, 101, 110, 103, 116, 104] : Str) = clN from rfl, Remove01_eq _ _ h1 h2 (by decide), some_bind,
    show ([84, 114, 97, 110, 115, 102, 101, 114, 45, 69, 110, 99, 111, 100, 105, 110, 103] : Str) = teN from rfl, Remove01_eq _ _ h3 h4 (by decide), some_bind, unfr_eq]
theorem unfr_T {l : List GField} (h : smT l) : smT (unfr l) := ⟨Nat.le_trans (List.length_filter_le _ _) h.1, fun f hf => h.2 f (List.mem_filter.1 hf).1⟩
theorem linesF_len {l : List GField} (h : smT l) : (linesF l).length ≤ 100 * 2004 := by
  have : ∀ k : List GField, (∀ f ∈ k, smG f) → (linesF k).length ≤ k.length * 2004 := by
    intro k hk
    induction k with
    | nil => simp [linesF]
    | cons x k ih =>
      have h3 := ih (fun f hf => hk f (List.mem_cons_of_mem _ hf))
      have h4 := lineF_len (hk x List.mem_cons_self)
      unfold linesF at h3 ⊢
      rw [List.flatMap_cons, List.length_append, List.length_append, List.length_cons, Nat.succ_mul]
      have : crlf.length = 2 := rfl
      omega
  exact Nat.le_trans (this l h.2) (Nat.mul_le_mul_right _ h.1)
theorem linesF_snoc (l : List GField) (n : Nat) (h : n < l.length) : linesF (l.take (n + 1)) = linesF (l.take n) ++ (lineF l[n] ++ crlf) := by
  unfold linesF
  rw [take_succ_get h, List.flatMap_append]; simp
/-- The reference's loop over the fields. -/
theorem joined_loop (l : List GField) (h : smT l) (s : Str) (hs : s.length ≤ 1073741824) : whileO (ref01_joined_L0 l) (s, 0) = some (if l.all vldF then .inl (s ++ linesF l) else .inr []) := by
  have := while_run0 (fun st i => (st, i)) l (fun st f => if vldF f then .inl (st ++ (lineF f ++ crlf)) else .inr (.inr [])) (fun st => (.inl st : Str ⊕ Str)) (ref01_joined_L0 l) (fun n st => st.length ≤ 1073741824 + 2004 * n) s (by omega) ?_ ?_
  · rw [this]
    clear this
    have key : ∀ (k : List GField) (st : Str), run (fun st f => if vldF f then .inl (st ++ (lineF f ++ crlf)) else .inr (.inr [])) (fun st => (.inl st : Str ⊕ Str)) k st = if k.all vldF then .inl (st ++ linesF k) else .inr [] := by
      intro k
      induction k with
      | nil => intro st; simp [run, linesF]
      | cons x k ih =>
        intro st
        unfold run
        cases hv : vldF x with
        | true => simp only [hv, if_true, ih, List.all_cons, Bool.true_and]; simp [linesF]
        | false => simp [hv]
    rw [key]
  · intro n hn st hI
    have hm := h.2 l[n] (List.getElem_mem hn)
    have h1 := h.1
    have h2 := lineF_len hm
    have h4 : (lineF l[n] ++ [13, 10]).length = (lineF l[n]).length + 2 := by rw [List.length_append]; rfl
    refine ⟨?_, ?_⟩
    · simp only [ref01_joined_L0, lt_true hn, bif_true, xnth_get hn, some_bind, RValidF_eq _ hm]
      cases hv : vldF l[n] with
      | false => rfl
      | true =>
        rw [Bool.not_true, bif_false, Rform_eq _ hm, some_bind, xcat_sm (by omega) (by decide), some_bind, xcat_sm (by omega) (by rw [h4]; omega), some_bind, wrs (n := n) (by omega)]
        rfl
    · intro st' hst
      split at hst
      · injection hst with hst
        subst hst
        show (st ++ (lineF l[n] ++ crlf)).length ≤ _
        rw [List.length_append]
        unfold crlf
        omega
      · cases hst
  · intro st hI
    simp only [ref01_joined_L0, lt_false (Nat.le_refl _), bif_false]
theorem lt63 (n : Nat) : decide ((63 : Int) < (n : Int)) = decide (63 < n) := by rw [Bool.eq_iff_iff, decide_eq_true_eq, decide_eq_true_eq]; omega
theorem lt16 (n : Nat) : decide ((16000 : Int) < (n : Int)) = decide (16000 < n) := by rw [Bool.eq_iff_iff, decide_eq_true_eq, decide_eq_true_eq]; omega
theorem itoaN (n : Nat) (h : n ≤ 100000) : ref01_Decimal (n : Int) = some (Lib.itoa n) ∧ ascii_Decimal (n : Int) = some (Lib.itoa n) ∧ (Lib.itoa n).length ≤ 21 := ⟨Decimal_eq _ (by omega) (by omega), ADecimal_eq _ (by omega) (by omega), itoa_len _ (by omega) (by omega)⟩
theorem joined_eq (s : Str) (l : List GField) (b : Str) (x3 x4 : Bool) (hs : s.length ≤ 100000) (hl : smT l) (hb : b.length ≤ 100000) : ref01_joined s l b x3 x4 = some (joinS s l b x3 x4) := by
  obtain ⟨i1, _, i3⟩ := itoaN b.length hb
  have hu := unfr_T hl
  have hll := linesF_len hu
  have c2 : crlf.length = 2 := rfl
  unfold ref01_joined joinS
  rw [Unframed_eq l hl, some_bind, lt63, show decide ((100000 : Int) < (b.length : Int)) = false from decide_eq_false (by omega), Bool.or_false]
  by_cases h0 : s = []
  · subst h0; simp
  rw [show (s == []) = false by simpa using h0, Bool.false_or]
  by_cases h1 : 63 < (unfr l).length
  · simp [h1]
  rw [decide_eq_false h1, bif_false, show ([13, 10] : Str) = crlf from rfl, xcat_sm (by omega) (by decide), some_bind, joined_loop _ hu _ (by rw [List.length_append]; omega), some_bind]
  cases hv : (unfr l).all vldF with
  | false => simp
  | true =>
    have ht : (match x3 with | true => (ref01_Decimal (b.length : Int)).bind fun r61 => (xcat [67, 111, 110, 116, 101, 110, 116, 45, 76, 101, 110, 103, 116, 104, 58, 32] r61).bind fun s66 => (xcat s66 crlf).bind fun s67 => (xcat (s ++ crlf ++ linesF (unfr l)) s67).bind fun s68 => some s68 | false => some (s ++ crlf ++ linesF (unfr l))) = some (s ++ crlf ++ linesF (unfr l) ++ (if x3 then clT ++ Lib.itoa b.length ++ crlf else [])) := by
      cases x3 with
      | false => simp
      | true =>
        show ((ref01_Decimal (b.length : Int)).bind fun r61 => (xcat [67, 111, 110, 116, 101, 110, 116, 45, 76, 101, 110, 103, 116, 104, 58, 32] r61).bind fun s66 => (xcat s66 crlf).bind fun s67 => (xcat (s ++ crlf ++ linesF (unfr l)) s67).bind fun s68 => some s68) = _
        rw [i1, some_bind, xcat_sm (by decide) (by omega), some_bind, xcat_sm (by rw [List.length_append]; simp; omega) (by decide), some_bind, xcat_sm (by simp only [List.length_append]; omega) (by simp only [List.length_append, List.length_cons, List.length_nil]; omega), some_bind]
        rfl
    have hc : (bif x3 then (ref01_Decimal (b.length : Int)).bind fun r61 => (xcat [67, 111, 110, 116, 101, 110, 116, 45, 76, 101, 110, 103, 116, 104, 58, 32] r61).bind fun s66 => (xcat s66 crlf).bind fun s67 => (xcat (s ++ crlf ++ linesF (unfr l)) s67).bind fun s68 => some s68 else some (s ++ crlf ++ linesF (unfr l))) = some (s ++ crlf ++ linesF (unfr l) ++ (if x3 then clT ++ Lib.itoa b.length ++ crlf else [])) := by
      rw [← ht]; cases x3 <;> rfl
    rw [if_pos rfl]
    show Option.bind (bif x3 then _ else _) _ = _
    rw [hc, some_bind]
    have htl : (if x3 then clT ++ Lib.itoa b.length ++ crlf else []).length ≤ 100 := by
      split
      · simp only [List.length_append]; have : clT.length = 16 := rfl; omega
      · simp
    rw [xcat_sm (by simp only [List.length_append]; omega) (by decide), some_bind, List.append_assoc _ (if x3 then clT ++ Lib.itoa b.length ++ crlf else []) crlf]
    rw [show (if x3 then clT ++ Lib.itoa b.length ++ crlf else []) ++ crlf = tailS b.length x3 from rfl]
    have htl2 : (tailS b.length x3).length ≤ 102 := by unfold tailS; rw [List.length_append]; omega
    generalize hh : s ++ crlf ++ linesF (unfr l) ++ tailS b.length x3 = hd at *
    have hhl : hd.length ≤ 1000000 := by rw [← hh]; simp only [List.length_append]; omega
    rw [lt16]
    by_cases h2 : 16000 < hd.length
    · simp [h2]
    · rw [decide_eq_false h2, bif_false, if_neg (by simp [h0, h1, h2])]
      cases x4 with
      | false => simp
      | true => simp only [cond_true]; rw [xcat_sm (by omega) (by omega)]; rfl
end Go.Eng.Pure

/- Layer 26: an entry's response as text, third part: the two formatters say the same. -/
namespace Go.Eng.Pure
open Go Go.Eng
set_option linter.unusedVariables false
def stepM (st : Nat × Str) (f : GField) : (Nat × Str) ⊕ (Str ⊕ Str) :=
  if frm f then .inl st else if vldF f = false ∨ 64 ≤ st.1 + 1 ∨ 16000 < st.2.length then .inr (.inr []) else .inl (st.1 + 1, st.2 ++ (lineF f ++ crlf))
def finM (st : Nat × Str) : Str ⊕ Str := .inl st.2
def endM (tail body : Str) : Str ⊕ Str → Str
  | .inr e => e
  | .inl m => if 16000 < (m ++ tail).length then [] else m ++ tail ++ body
theorem run_M (tail body : Str) : ∀ (k : List GField) (st : Nat × Str), st.1 ≤ 63 → endM tail body (run stepM finM k st) = if 63 < st.1 + (unfr k).length ∨ (unfr k).all vldF = false ∨ 16000 < (st.2 ++ linesF (unfr k) ++ tail).length then [] else st.2 ++ linesF (unfr k) ++ tail ++ body
  | [], st, h => by
    unfold run finM endM unfr linesF
    simp only [List.filter_nil, List.length_nil, List.all_nil, List.flatMap_nil, List.append_nil]
    by_cases h2 : 16000 < (st.2 ++ tail).length
    · rw [if_pos h2, if_pos (Or.inr (Or.inr h2))]
    · rw [if_neg h2, if_neg (fun h5 => h5.elim (fun h6 => by omega) (fun h6 => h6.elim (fun h7 => by cases h7) h2))]
  | x :: k, st, h => by
    unfold run
    cases hf : frm x with
    | true =>
      have e1 : stepM st x = .inl st := by unfold stepM; rw [hf, if_pos rfl]
      have e2 : unfr (x :: k) = unfr k := by unfold unfr; rw [List.filter_cons, hf]; rfl
      rw [e1, e2]
      exact run_M tail body k st h
    | false =>
      have e2 : unfr (x :: k) = x :: unfr k := by unfold unfr; rw [List.filter_cons, hf]; rfl
      have e4 : linesF (x :: unfr k) = (lineF x ++ crlf) ++ linesF (unfr k) := by unfold linesF; rw [List.flatMap_cons]
      by_cases hb : vldF x = false ∨ 64 ≤ st.1 + 1 ∨ 16000 < st.2.length
      · have e1 : stepM st x = .inr (.inr []) := by unfold stepM; rw [hf, if_neg (by decide), if_pos hb]
        rw [e1, e2, e4, if_pos]
        · rfl
        · rcases hb with hb | hb | hb
          · exact Or.inr (Or.inl (by rw [List.all_cons, hb]; rfl))
          · exact Or.inl (by rw [List.length_cons]; omega)
          · exact Or.inr (Or.inr (by simp only [List.length_append]; omega))
      · have e1 : stepM st x = .inl (st.1 + 1, st.2 ++ (lineF x ++ crlf)) := by unfold stepM; rw [hf, if_neg (by decide), if_neg hb]
        have hv : vldF x = true := by
          cases hv : vldF x with
          | true => rfl
          | false => exact absurd (Or.inl hv) hb
        have hn : st.1 + 1 ≤ 63 := by
          have : ¬ 64 ≤ st.1 + 1 := fun h' => hb (Or.inr (Or.inl h'))
          omega
        rw [e1, e2, e4]
        show endM tail body (run stepM finM k (st.1 + 1, st.2 ++ (lineF x ++ crlf))) = _
        rw [run_M tail body k _ hn]
        have e5 : (st.1 + 1 : Nat) + (unfr k).length = st.1 + (x :: unfr k).length := by rw [List.length_cons]; omega
        have e6 : (x :: unfr k).all vldF = (unfr k).all vldF := by rw [List.all_cons, hv, Bool.true_and]
        have e7 : st.2 ++ (lineF x ++ crlf) ++ linesF (unfr k) = st.2 ++ (lineF x ++ crlf ++ linesF (unfr k)) := by rw [List.append_assoc]
        simp only [e5, e6, e7]
theorem le64 (n : Nat) : decide ((64 : Int) ≤ (n : Int)) = decide (64 ≤ n) := by rw [Bool.eq_iff_iff, decide_eq_true_eq, decide_eq_true_eq]; omega
theorem WS_eq (s m : Str) (h1 : s.length ≤ 64 * 1073741824) (h2 : m.length ≤ 64 * 1073741824) : strings_Builder_WriteString__Builder s m = some ((s.length : Int), (), m ++ s) := by
  unfold strings_Builder_WriteString__Builder strings_Builder_copyCheck__Builder
  rw [some_bind, xapp_sm h2 h1, some_bind]
theorem FFold_eq (f : GField) (n : Str) (h : smG f) (hn : n.length ≤ 1000) : ascii_Fold f.fName n = some (fold f.fName n) := Fold_eq _ _ (by have := h.1; omega) (by omega)
theorem frm_eq (f : GField) (h : smG f) : ((ascii_Fold f.fName [67, 111, 110, 116, 101, 110, 116, 45, 76, 101, 110, 103, 116, 104]).bind fun r54 =>
      (bif r54 then
        some true
      else
        (ascii_Fold f.fName [84, 114, 97, 110, 115, 102, 101, 114, 45, 69, 110, 99, 111, 100, 105, 110, 103]).bind fun r61 =>
        some (r61))) = some (frm f) := by
  rw [FFold_eq f _ h (by decide), some_bind, FFold_eq f _ h (by decide), some_bind]
  show (bif fold f.fName clN then some true else some (fold f.fName teN)) = some (fold f.fName clN || fold f.fName teN)
  cases fold f.fName clN <;> rfl
theorem bind_assoc' {α β γ : Type} (o : Option α) (f : α → Option β) (g : β → Option γ) : (o.bind f).bind g = o.bind fun x => (f x).bind g := by cases o <;> rfl
theorem body_M (l : List GField) (h : smT l) (n : Nat) (hn : n < l.length) (st : Nat × Str) (h1 : st.1 ≤ n) (h2 : st.2.length ≤ 200000 + 2004 * n) :
    message_format_L0 l ((st.1 : Int), (n : Int), st.2) = some (match stepM st l[n] with | .inl st' => .inl ((st'.1 : Int), ((n + 1 : Nat) : Int), st'.2) | .inr r => .inr r) := by
  have hm := h.2 l[n] (List.getElem_mem hn)
  have hl := h.1
  have hln := lineF_len hm
  unfold message_format_L0
  simp only []
  rw [lt_true hn, bif_true, xnth_get hn, some_bind, ← bind_assoc', frm_eq _ hm, some_bind]
  unfold stepM
  cases hf : frm l[n] with
  | true => rw [bif_true, wrs (n := n) (by omega), if_pos rfl]
  | false =>
    rw [bif_false, if_neg (by decide), FFormat_eq _ hm, some_bind]
    rw [wrs (n := st.1) (by omega), le64]
    unfold strings_Builder_Len__Builder
    rw [some_bind, lt16]
    cases hv : vldF l[n] with
    | false =>
      rw [if_neg (by decide), if_pos (Or.inl rfl)]; rfl
    | true =>
      rw [if_pos rfl]
      rw [show ((lineF l[n] == []) : Bool) = false by simpa using lineF_ne l[n], Bool.false_or]
      by_cases h3 : 64 ≤ st.1 + 1
      · rw [decide_eq_true h3, if_pos (Or.inr (Or.inl h3))]; rfl
      · rw [decide_eq_false h3, bif_false, some_bind]
        by_cases h4 : 16000 < st.2.length
        · rw [decide_eq_true h4, bif_true, if_pos (Or.inr (Or.inr h4))]
        · rw [decide_eq_false h4, bif_false, if_neg (fun h5 => h5.elim (fun h6 => by cases h6) (fun h6 => h6.elim h3 h4))]
          rw [xcat_sm (by omega) (by decide), some_bind, WS_eq _ _ (by rw [List.length_append]; have : ([13, 10] : Str).length = 2 := rfl; omega) (by omega), some_bind, wrs (n := n) (by omega)]
          rfl
theorem loop_M (l : List GField) (h : smT l) (s : Str) (hs : s.length ≤ 200000) : whileO (message_format_L0 l) (0, 0, s) = some (run stepM finM l (0, s)) := by
  have := while_run0 (fun (st : Nat × Str) i => ((st.1 : Int), i, st.2)) l stepM finM (message_format_L0 l) (fun n st => st.1 ≤ n ∧ st.2.length ≤ 200000 + 2004 * n) (0, s) ⟨Nat.le_refl 0, by show s.length ≤ _; omega⟩ ?_ ?_
  · exact this
  · intro n hn st hI
    refine ⟨by rw [body_M l h n hn st hI.1 hI.2]; cases stepM st l[n] <;> rfl, ?_⟩
    intro st' hst
    have hln := lineF_len (h.2 l[n] (List.getElem_mem hn))
    unfold stepM at hst
    split at hst
    · injection hst with hst; subst hst; exact ⟨by have := hI.1; omega, by have := hI.2; omega⟩
    · split at hst
      · cases hst
      · injection hst with hst; subst hst
        refine ⟨by have := hI.1; show st.1 + 1 ≤ n + 1; omega, ?_⟩
        show (st.2 ++ (lineF l[n] ++ crlf)).length ≤ _
        have := hI.2
        rw [List.length_append, List.length_append, show crlf.length = 2 from rfl]
        omega
  · intro st hI
    unfold message_format_L0
    simp only []
    rw [lt_false (Nat.le_refl _), bif_false]; rfl
theorem run_len (l : List GField) (h : smT l) : ∀ (k : List GField) (st : Nat × Str) (m : Str), (∀ f ∈ k, smG f) → run stepM finM k st = .inl m → m.length ≤ st.2.length + 2004 * k.length
  | [], st, m, hk, e => by
    unfold run finM at e; injection e with e; subst e; omega
  | x :: k, st, m, hk, e => by
    unfold run at e
    have hx := lineF_len (hk x List.mem_cons_self)
    have hk' : ∀ f ∈ k, smG f := fun f hf => hk f (List.mem_cons_of_mem _ hf)
    rw [List.length_cons]
    unfold stepM at e
    split at e
    · rename_i st' hst
      split at hst
      · injection hst with hst; subst hst
        have := run_len l h k _ m hk' e; omega
      · split at hst
        · cases hst
        · injection hst with hst; subst hst
          have := run_len l h k _ m hk' e
          have e2 : (st.2 ++ (lineF x ++ crlf)).length = st.2.length + (lineF x).length + 2 := by rw [List.length_append, List.length_append, show crlf.length = 2 from rfl]; omega
          simp only [e2] at this
          omega
    · rename_i r hst
      split at hst
      · cases hst
      · split at hst
        · injection hst with hst; subst hst; cases e
        · cases hst
theorem format_eq (s : Str) (l : List GField) (b : Str) (hs : s.length ≤ 100000) (hl : smT l) (hb : b.length ≤ 100000) : message_format s l (b.length : Int) b = some (joinS s l b true true) := by
  obtain ⟨_, i2, i3⟩ := itoaN b.length hb
  have c2 : crlf.length = 2 := rfl
  unfold message_format
  by_cases h0 : s = []
  · subst h0; simp [joinS]
  rw [show (s == []) = false by simpa using h0, bif_false, show ([13, 10] : Str) = crlf from rfl, xcat_sm (by omega) (by decide), some_bind, WS_eq _ _ (by rw [List.length_append]; omega) (by decide), some_bind]
  rw [List.nil_append, loop_M l hl _ (by rw [List.length_append]; omega), some_bind]
  have key := run_M (tailS b.length true) b l (0, s ++ crlf) (Nat.zero_le 63)
  have hlen := run_len l hl l (0, s ++ crlf)
  generalize run stepM finM l (0, s ++ crlf) = R at *
  have hj : joinS s l b true true = endM (tailS b.length true) b R := by
    rw [key]; unfold joinS
    simp only [h0, false_or, Nat.zero_add, if_true]
  rw [hj]
  cases R with
  | inr e => rfl
  | inl m =>
    have hm := hlen m hl.2 rfl
    have hl1 := hl.1
    have e2 : (s ++ crlf).length = s.length + 2 := by rw [List.length_append, c2]
    simp only [e2] at hm
    have hm2 : m.length ≤ 400000 := by omega
    simp only []
    rw [show decide ((0 : Int) ≤ (b.length : Int)) = true from decide_eq_true (by omega), bif_true, i2, some_bind, xcat_sm (by decide) (by omega), some_bind, xcat_sm (by rw [List.length_append]; simp; omega) (by decide), some_bind]
    have e3 : ([67, 111, 110, 116, 101, 110, 116, 45, 76, 101, 110, 103, 116, 104, 58, 32] ++ Lib.itoa (b.length : Int) ++ crlf).length ≤ 100 := by
      rw [List.length_append, List.length_append, c2]; simp; omega
    rw [WS_eq _ _ (by omega) (by omega), some_bind, some_bind, WS_eq _ _ (by decide) (by rw [List.length_append]; omega), some_bind]
    unfold strings_Builder_Len__Builder strings_Builder_String__Builder
    rw [some_bind]
    have e4 : m ++ ([67, 111, 110, 116, 101, 110, 116, 45, 76, 101, 110, 103, 116, 104, 58, 32] ++ Lib.itoa (b.length : Int) ++ crlf) ++ crlf = m ++ tailS b.length true := by
      unfold tailS clT; rw [if_pos rfl, List.append_assoc m]
    have e5 : (m ++ tailS b.length true).length ≤ 500000 := by rw [← e4, List.length_append, List.length_append]; omega
    rw [e4, lt16]
    show _ = some (if 16000 < (m ++ tailS b.length true).length then [] else m ++ tailS b.length true ++ b)
    by_cases h1 : 16000 < (m ++ tailS b.length true).length
    · rw [decide_eq_true h1, bif_true, if_pos h1]
    · rw [decide_eq_false h1, bif_false, some_bind, if_neg h1]
      show (xcat (m ++ tailS b.length true) b).bind _ = _
      rw [xcat_sm (by omega) (by omega), some_bind]
/-- Responses of status 200. -/
def fmtS (r : GResponse) (x : Bool) : Str := joinS (if txt r.fReason then stT ++ r.fReason else []) r.fFields r.fBody x x
def smR (r : GResponse) : Prop := r.fMinor = 1 ∧ r.fStatus = 200 ∧ r.fReason.length ≤ 1000 ∧ smT r.fFields ∧ r.fBody.length ≤ 2000
theorem FResp_eq (r : GResponse) (h : smR r) : message_FormatResponse r [71, 69, 84] = some (fmtS r true) := by
  obtain ⟨h1, h2, h3, h4, h5⟩ := h
  have hl : (if txt r.fReason then stT ++ r.fReason else []).length ≤ 100000 := by
    split
    · rw [List.length_append, show stT.length = 13 from rfl]; omega
    · simp
  unfold message_FormatResponse
  rw [show decide ((100000 : Int) < (r.fBody.length : Int)) = false from decide_eq_false (by omega), bif_false, h1, h2, FS_eq _ h3, some_bind,
    show message_Bodiless 200 [71, 69, 84] = some false from rfl, some_bind, bif_false, format_eq _ _ _ hl h4 (by omega), some_bind]
  rfl
theorem RFResp_eq (r : GResponse) (h : smR r) (m : Str) : ref01_FormatResponse r m = some (fmtS r (!(m == [72, 69, 65, 68]))) := by
  obtain ⟨h1, h2, h3, h4, h5⟩ := h
  have hl : (if txt r.fReason then stT ++ r.fReason else []).length ≤ 100000 := by
    split
    · rw [List.length_append, show stT.length = 13 from rfl]; omega
    · simp
  unfold ref01_FormatResponse
  rw [h1, h2, show ref01_Bodiless 200 m = some (m == [72, 69, 65, 68]) from rfl, some_bind, RFS_eq _ h3, some_bind, joined_eq _ _ _ _ _ hl h4 (by omega), some_bind]
  rfl
theorem respS_sm (e : GEntry) (age : Int) (name : Str) (he : smE e) (hn : name.length ≤ 300) (h1 : -9223372036854775808 ≤ age) (h2 : age ≤ 9223372036854775807) : smR (respS e age name) := by
  obtain ⟨_, _, _, hf, hr, hb⟩ := he
  have hi := itoa_len age h1 h2
  have hw := without_sm hf ageN
  refine ⟨rfl, rfl, by show e.fReason.length ≤ 1000; omega, ⟨?_, ?_⟩, hb⟩
  · show (viaF (without e.fFields ageN ++ [⟨ageN, Lib.itoa age⟩]) 1 name).length ≤ 100
    unfold viaF
    have := hw.1
    simp only [List.length_append, List.length_cons, List.length_nil]; omega
  · intro f hm
    have hm : f ∈ viaF (without e.fFields ageN ++ [⟨ageN, Lib.itoa age⟩]) 1 name := hm
    unfold viaF at hm
    rw [List.mem_append, List.mem_append, List.mem_singleton, List.mem_singleton] at hm
    rcases hm with (hm | hm) | hm
    · have := hw.2 f hm; exact ⟨by omega, by omega⟩
    · subst hm; exact ⟨by show ageN.length ≤ 1000; decide, by show (Lib.itoa age).length ≤ 1000; omega⟩
    · subst hm
      refine ⟨by show viaN.length ≤ 1000; decide, ?_⟩
      show (([49, 46] ++ Lib.itoa 1) ++ [32] ++ name).length ≤ 1000
      rw [itoa1]; simp; omega
theorem Sendable_eq (e : GEntry) (name : Str) (he : smE e) (hn : name.length ≤ 300) : entry_Sendable e name = some (fmtS (respS e 2147483647 name) true != []) := by
  unfold entry_Sendable
  rw [respond_eq e _ name he.2.2.2.1 (by omega) (by decide) (by decide), some_bind, FResp_eq _ (respS_sm e _ name he hn (by decide) (by decide)), some_bind]
end Go.Eng.Pure

/- Layer 26: an entry's response as text, fourth part: what is sent reads back. -/
namespace Go.Eng.Pure
open Go Go.Eng
set_option linter.unusedVariables false
/-- No end of line within. -/
def oneL (s : Str) : Prop := ∀ c ∈ s, c ≠ 13 ∧ c ≠ 10
theorem wrsub {a b : Nat} (h : b ≤ a) (h2 : a ≤ 4 * 1073741824) : wr ((a : Int) - (b : Int)) = ((a - b : Nat) : Int) := by
  rw [show (a : Int) - (b : Int) = ((a - b : Nat) : Int) by omega, wrn (by omega)]
theorem get_mid (p line rest : Str) (k : Nat) (hk : k < line.length) : xnth (p ++ (line ++ (crlf ++ rest))) ((p.length + k : Nat) : Int) = some line[k] := by
  rw [xnth_get (by simp only [List.length_append]; omega), List.getElem_append_right (by omega)]
  congr 1
  rw [List.getElem_append_left (by omega)]
  congr 1; omega
theorem get_cr (p line rest : Str) : xnth (p ++ (line ++ (crlf ++ rest))) ((p.length + line.length : Nat) : Int) = some 13 := by
  have h2 : crlf.length = 2 := rfl
  rw [xnth_get (by simp only [List.length_append]; omega), List.getElem_append_right (by omega), List.getElem_append_right (by omega)]
  have : p.length + line.length - p.length - line.length = 0 := by omega
  simp only [this]; rfl
theorem get_lf (p line rest : Str) : xnth (p ++ (line ++ (crlf ++ rest))) ((p.length + line.length + 1 : Nat) : Int) = some 10 := by
  have h2 : crlf.length = 2 := rfl
  rw [xnth_get (by simp only [List.length_append]; omega), List.getElem_append_right (by omega), List.getElem_append_right (by omega)]
  have : p.length + line.length + 1 - p.length - line.length = 1 := by omega
  simp only [this]; rfl
theorem NL_eq (p line rest : Str) (h : oneL line) (hl : line.length ≤ 2000) (hb : (p ++ (line ++ (crlf ++ rest))).length ≤ 1073741824) :
    ref01_NextLine (p ++ (line ++ (crlf ++ rest))) (p.length : Int) = some (line, ((p.length + line.length + 2 : Nat) : Int), 0) := by
  have h2 : crlf.length = 2 := rfl
  have hT : (p ++ (line ++ (crlf ++ rest))).length = p.length + line.length + 2 + rest.length := by simp only [List.length_append]; omega
  have hcr := get_cr p line rest
  have hlf := get_lf p line rest
  have hmid := get_mid p line rest
  have hsub : xsub (p ++ (line ++ (crlf ++ rest))) (p.length : Int) ((p.length + line.length : Nat) : Int) = some line := by
    rw [xsub_nat (by omega), List.take_append, List.take_of_length_le (by omega), show p.length + line.length - p.length = line.length by omega, List.take_left', List.drop_left']
    · rfl
    · rfl
  generalize p ++ (line ++ (crlf ++ rest)) = T at *
  have hloop : whileO (ref01_NextLine_L0 T) (p.length : Int) = some ((p.length + line.length : Nat) : Int) := by
    have := while_count (fun k => ((p.length + k : Nat) : Int)) line.length ((p.length + line.length : Nat) : Int) (ref01_NextLine_L0 T) ?_ ?_
    · exact this
    · intro k hk
      have hm : line[k] ∈ line := List.getElem_mem hk
      have h13 : (line[k] != 13) = true := by simpa using (h _ hm).1
      have h10 : (line[k] != 10) = true := by simpa using (h _ hm).2
      unfold ref01_NextLine_L0
      rw [show decide (((p.length + k : Nat) : Int) < (T.length : Int)) = true from lt_true (by omega), bif_true, hmid k hk, some_bind, some_bind, h13, bif_true, some_bind, h10, some_bind, bif_true, wrs (by omega)]
      rfl
    · unfold ref01_NextLine_L0
      rw [show decide (((p.length + line.length : Nat) : Int) < (T.length : Int)) = true from lt_true (by omega), bif_true, hcr, some_bind, some_bind]
      rfl
  unfold ref01_NextLine
  rw [hloop, some_bind, wrsub (by omega) (by omega), show decide ((2000 : Int) < ((p.length + line.length - p.length : Nat) : Int)) = false from decide_eq_false (by omega), bif_false,
    show ((((p.length + line.length : Nat) : Int) == (T.length : Int)) : Bool) = false by rw [beq_eq_false_iff_ne]; omega, bif_false, hcr, some_bind]
  rw [show ((13 : UInt8) == 10) = false from rfl, bif_false, wrs (by omega), show ((((p.length + line.length + 1 : Nat) : Int) == (T.length : Int)) : Bool) = false by rw [beq_eq_false_iff_ne]; omega, bif_false, hlf, some_bind]
  rw [show ((10 : UInt8) != 10) = false from rfl, bif_false, hsub, some_bind]
  rw [show ((p.length + line.length : Nat) : Int) + 2 = ((p.length + line.length + 2 : Nat) : Int) by omega, wrn (by omega)]
theorem tok_oneL {s : Str} (h : tok s = true) : oneL s ∧ (58 : UInt8) ∉ s := by
  unfold tok at h
  rw [Bool.and_eq_true, List.all_eq_true] at h
  refine ⟨fun c hc => ⟨?_, ?_⟩, fun hc => ?_⟩
  · intro e; subst e; have := h.1 _ hc; revert this; decide
  · intro e; subst e; have := h.1 _ hc; revert this; decide
  · have := h.1 _ hc; revert this; decide
theorem txt_oneL {s : Str} (h : txt s = true) : oneL s := by
  unfold txt at h
  rw [List.all_eq_true] at h
  intro c hc
  refine ⟨?_, ?_⟩
  · intro e; subst e; have := h _ hc; revert this; decide
  · intro e; subst e; have := h _ hc; revert this; decide
def spF (f : GField) : Str := if f.fValue = [] then [] else 32 :: f.fValue
theorem lineF_sp (f : GField) : lineF f = f.fName ++ 58 :: spF f := by
  unfold lineF spF
  split
  · rfl
  · rw [List.append_assoc]; rfl
theorem vldF_parts {f : GField} (h : vldF f = true) : tok f.fName = true ∧ txt f.fValue = true ∧ trim f.fValue = f.fValue ∧ (lineF f).length ≤ 2000 := by
  unfold vldF at h
  simp only [Bool.and_eq_true, beq_iff_eq, decide_eq_true_eq] at h
  exact ⟨h.1.1.1, h.1.1.2, h.1.2, h.2⟩
theorem line_one {f : GField} (h : vldF f = true) : oneL (lineF f) := by
  obtain ⟨h1, h2, _, _⟩ := vldF_parts h
  have a1 := (tok_oneL h1).1
  have a2 := txt_oneL h2
  rw [lineF_sp]
  intro c hc
  rw [List.mem_append, List.mem_cons] at hc
  rcases hc with hc | rfl | hc
  · exact a1 c hc
  · decide
  · unfold spF at hc
    split at hc
    · cases hc
    · rw [List.mem_cons] at hc
      rcases hc with rfl | hc
      · decide
      · exact a2 c hc
theorem trim_sp (v : Str) : trim (32 :: v) = trim v := by
  unfold trim
  rw [← trim_comm, ← trim_comm]
  rfl
theorem PF_eq (f : GField) (h : vldF f = true) (hs : smG f) : ref01_ParseField (lineF f) = some (f, 0) := by
  obtain ⟨h1, h2, h3, h4⟩ := vldF_parts h
  have hn := (tok_oneL h1).2
  have hv := RValidF_eq f hs
  have htr : ref01_Trim (spF f) = some f.fValue := by
    rw [RTrim_eq _ (by unfold spF; have := hs.2; split <;> simp; omega)]
    unfold spF
    split
    · rename_i e; rw [e]; rfl
    · rw [trim_sp, h3]
  have htx : ref01_Text (spF f) = some true := by
    rw [RText_eq _ (by unfold spF; have := hs.2; split <;> simp; omega)]
    unfold spF
    split
    · rfl
    · unfold txt at h2 ⊢; rw [List.all_cons, h2]; rfl
  have hix : ref01_Index (lineF f) 58 0 = some (f.fName.length : Int) := by
    have := Etag.Index_eq (lineF f) 58 (by omega) (lineF f).length 0 (by omega)
    rw [List.drop_zero] at this
    have hm : (58 : UInt8) ∈ lineF f := by rw [lineF_sp]; simp
    rw [if_pos hm] at this
    have hidx : (lineF f).idxOf 58 = f.fName.length := by
      rw [lineF_sp, List.idxOf_append, if_neg hn]; simp
    rw [hidx, Nat.zero_add] at this
    exact this
  have e0 : xsub (lineF f) 0 (f.fName.length : Int) = some f.fName := by
    rw [xsub_to (by rw [lineF_sp, List.length_append]; omega), lineF_sp, List.take_left']; rfl
  have e1 : xsub (lineF f) ((f.fName.length + 1 : Nat) : Int) ((lineF f).length : Int) = some (spF f) := by
    rw [xsub_from (by rw [lineF_sp, List.length_append, List.length_cons]; omega), lineF_sp, show f.fName.length + 1 = f.fName.length + 1 from rfl, List.drop_append]
    simp
  have hnl := hs.1
  unfold ref01_ParseField
  rw [show decide ((2000 : Int) < ((lineF f).length : Int)) = false from decide_eq_false (by omega), bif_false, hix, some_bind,
    show decide ((f.fName.length : Int) < 0) = false from decide_eq_false (by omega), bif_false, e0, some_bind, RToken_eq _ (by omega), some_bind, h1, some_bind, Bool.not_true, bif_false, wrs (by omega), e1, some_bind, htx, some_bind, some_bind, Bool.not_true, bif_false]
  rw [some_bind, some_bind, htr, some_bind, show (⟨f.fName, f.fValue⟩ : GField) = f from rfl, hv, some_bind, h]
  rfl
end Go.Eng.Pure

/- Layer 26: an entry's response as text, fifth part: the law of what is sent. -/
namespace Go.Eng.Pure
open Go Go.Eng
set_option linter.unusedVariables false
theorem linesF_app (a b : List GField) : linesF (a ++ b) = linesF a ++ linesF b := by unfold linesF; rw [List.flatMap_append]
theorem linesF_one (f : GField) : linesF [f] = lineF f ++ crlf := by unfold linesF; simp
theorem linesF_split (l : List GField) (k : Nat) (h : k < l.length) : linesF l = linesF (l.take k) ++ (lineF l[k] ++ (crlf ++ linesF (l.drop (k + 1)))) := by
  conv => lhs; rw [← List.take_append_drop k l, linesF_app, List.drop_eq_getElem_cons h]
  unfold linesF
  rw [List.flatMap_cons, List.append_assoc]
theorem head_eq (s : Str) (F : List GField) (b : Str) (hs : s.length ≤ 1500) (hF : F.length ≤ 64) (hsm : ∀ f ∈ F, smG f) (hv : F.all vldF = true) (h1 : oneL s) (h0 : s ≠ [])
    (hp : ∃ a c d, ref01_ParseStatusLine s = some (a, c, d, 0)) (hb : b.length ≤ 100000) (hh : (s ++ crlf ++ linesF F ++ crlf).length ≤ 16000) :
    ref01_head (s ++ crlf ++ linesF F ++ crlf ++ b) false = some (s, F, ((s ++ crlf ++ linesF F ++ crlf).length : Int), 0) := by
  obtain ⟨a, c, d, hp⟩ := hp
  have h2 : crlf.length = 2 := rfl
  have hvf : ∀ f ∈ F, vldF f = true := fun f hf => List.all_eq_true.1 hv f hf
  have hl0 : (s ++ crlf ++ linesF F ++ crlf).length = s.length + 2 + (linesF F).length + 2 := by simp only [List.length_append]; omega
  have hlT : (s ++ crlf ++ linesF F ++ crlf ++ b).length = s.length + 2 + (linesF F).length + 2 + b.length := by rw [List.length_append]; omega
  have nl0 : ref01_NextLine (s ++ crlf ++ linesF F ++ crlf ++ b) 0 = some (s, ((s.length + 2 : Nat) : Int), 0) := by
    have := NL_eq [] s (linesF F ++ (crlf ++ b)) h1 (by omega) (by simp only [List.length_append, List.nil_append]; omega)
    simp only [List.nil_append, List.length_nil, Nat.zero_add] at this
    simp only [List.append_assoc]
    exact this
  have nlk : ∀ k (hk : k < F.length), ref01_NextLine (s ++ crlf ++ linesF F ++ crlf ++ b) ((s.length + 2 + (linesF (F.take k)).length : Nat) : Int) = some (lineF F[k], ((s.length + 2 + (linesF (F.take (k + 1))).length : Nat) : Int), 0) ∧ (linesF (F.take (k + 1))).length ≤ (linesF F).length := by
    intro k hk
    have hm := List.getElem_mem hk
    have e := linesF_split F k hk
    have e3 : (linesF F).length = (linesF (F.take k)).length + (lineF F[k]).length + 2 + (linesF (F.drop (k + 1))).length := by
      rw [e]; simp only [List.length_append]; omega
    have e4 : (linesF (F.take (k + 1))).length = (linesF (F.take k)).length + (lineF F[k]).length + 2 := by
      rw [linesF_snoc F k hk]; simp only [List.length_append]; omega
    have := NL_eq (s ++ crlf ++ linesF (F.take k)) (lineF F[k]) (linesF (F.drop (k + 1)) ++ (crlf ++ b)) (line_one (hvf _ hm)) (vldF_parts (hvf _ hm)).2.2.2 (by simp only [List.length_append]; omega)
    have e5 : (s ++ crlf ++ linesF (F.take k)).length = s.length + 2 + (linesF (F.take k)).length := by simp only [List.length_append]; omega
    rw [e5] at this
    refine ⟨?_, by omega⟩
    rw [e4, show s.length + 2 + ((linesF (F.take k)).length + (lineF F[k]).length + 2) = s.length + 2 + (linesF (F.take k)).length + (lineF F[k]).length + 2 by omega, ← this]
    congr 1
    rw [e]
    simp only [List.append_assoc]
  have nlN : ref01_NextLine (s ++ crlf ++ linesF F ++ crlf ++ b) ((s.length + 2 + (linesF F).length : Nat) : Int) = some ([], ((s.length + 2 + (linesF F).length + 2 : Nat) : Int), 0) := by
    have := NL_eq (s ++ crlf ++ linesF F) [] b (fun c hc => by cases hc) (by simp) (by simp only [List.length_append, List.nil_append]; omega)
    have e5 : (s ++ crlf ++ linesF F).length = s.length + 2 + (linesF F).length := by simp only [List.length_append]; omega
    rw [e5] at this
    simp only [List.nil_append, List.length_nil, Nat.add_zero] at this
    rw [List.append_assoc _ crlf b]
    exact this
  generalize hT : s ++ crlf ++ linesF F ++ crlf ++ b = T at *
  unfold ref01_head
  have step0 : ref01_head_L0 T false ([], ([] : List GField), 0, 0) = some (.inl (s, [], ((s.length + 2 : Nat) : Int), 1)) := by
    unfold ref01_head_L0
    simp only []
    rw [nl0, some_bind]
    simp only []
    rw [show ((0 : Int) != 0) = false from rfl, bif_false, show decide ((16000 : Int) < ((s.length + 2 : Nat) : Int)) = false from decide_eq_false (by omega), show decide ((64 : Int) < 0) = false from rfl, Bool.false_and, Bool.or_self, bif_false,
      show ((0 : Int) == 0) = true from rfl, bif_true, hp, some_bind]
    rfl
  rw [whileO_next step0]
  have := while_count (fun k => (s, F.take k, ((s.length + 2 + (linesF (F.take k)).length : Nat) : Int), ((k + 1 : Nat) : Int))) F.length (s, F, ((s.length + 2 + (linesF F).length + 2 : Nat) : Int), 0) (ref01_head_L0 T false) ?_ ?_
  · have e0 : (s, ([] : List GField), ((s.length + 2 : Nat) : Int), (1 : Int)) = (s, F.take 0, ((s.length + 2 + (linesF (F.take 0)).length : Nat) : Int), ((0 + 1 : Nat) : Int)) := rfl
    rw [e0, this, some_bind, hl0]
  · intro k hk
    have hm := List.getElem_mem hk
    obtain ⟨n1, n2⟩ := nlk k hk
    have hne := lineF_ne F[k]
    unfold ref01_head_L0
    simp only []
    rw [n1, some_bind]
    simp only []
    rw [show ((0 : Int) != 0) = false from rfl, bif_false, show decide ((16000 : Int) < ((s.length + 2 + (linesF (F.take (k + 1))).length : Nat) : Int)) = false from decide_eq_false (by omega), show decide ((64 : Int) < ((k + 1 : Nat) : Int)) = false from decide_eq_false (by omega), Bool.false_and, Bool.or_self, bif_false,
      show ((((k + 1 : Nat) : Int) == 0) : Bool) = false by rw [beq_eq_false_iff_ne]; omega, bif_false, show ((lineF F[k] == []) : Bool) = false by rw [beq_eq_false_iff_ne]; exact hne, bif_false,
      PF_eq _ (hvf _ hm) (hsm _ hm), some_bind]
    simp only []
    rw [show ((0 : Int) != 0) = false from rfl, bif_false, xapp_sm (by rw [List.length_take]; omega) (one_sm _), some_bind, wrs (n := k + 1) (by omega), take_succ_get hk]
  · unfold ref01_head_L0
    simp only []
    rw [List.take_length, nlN, some_bind]
    simp only []
    rw [show ((0 : Int) != 0) = false from rfl, bif_false, show decide ((16000 : Int) < ((s.length + 2 + (linesF F).length + 2 : Nat) : Int)) = false from decide_eq_false (by omega), show ((([] : Str) != []) : Bool) = false from rfl, Bool.and_false, Bool.or_self, bif_false,
      show ((((F.length + 1 : Nat) : Int) == 0) : Bool) = false by rw [beq_eq_false_iff_ne]; omega, bif_false]
    rfl
/-- The field of the length. -/
def clF (n : Nat) : GField := ⟨clN, Lib.itoa n⟩
theorem itoa_dec (n : Nat) : Lib.itoa (n : Int) = dec n := by
  unfold Lib.itoa dec
  rw [if_neg (by omega), Int.toNat_natCast]
theorem dec_bd : ∀ (m u : Nat), u < 10 ^ (m + 1) → (dec u).length ≤ m + 1
  | 0, u, h => by
    rw [dec_small (by omega)]; simp
  | m + 1, u, h => by
    by_cases h2 : u < 10
    · rw [dec_small h2]; simp
    · rw [dec_big h2, List.length_append]
      have := dec_bd m (u / 10) (by rw [Nat.pow_succ] at h; omega)
      simp; omega
theorem dec_lb : ∀ (m u : Nat), 10 ^ m ≤ u → m < (dec u).length
  | 0, u, h => by
    have := (dec_all u).2
    exact List.length_pos_iff.2 this
  | m + 1, u, h => by
    have h1 : 1 ≤ 10 ^ m := Nat.pow_pos (by decide)
    rw [Nat.pow_succ] at h
    rw [dec_big (by omega), List.length_append]
    have := dec_lb m (u / 10) (by omega)
    simp; omega
theorem dig_txt (c : UInt8) (h : isD c = true) : txtB c = true ∧ bl c = false := by
  have := all_u8 (fun c => !isD c || (txtB c && !bl c)) (by decide +kernel) c
  simp only [h, Bool.not_true, Bool.false_or, Bool.and_eq_true, Bool.not_eq_true'] at this
  exact this
theorem ltrim_self {s : Str} (h : ∀ c ∈ s, bl c = false) : ltrim bl s = s := by
  unfold ltrim
  cases s with
  | nil => rfl
  | cons c s => rw [List.dropWhile_cons, h c List.mem_cons_self]; rfl
theorem trim_self {s : Str} (h : ∀ c ∈ s, bl c = false) : trim s = s := by
  unfold trim
  have : rtrim bl s = s := by
    unfold rtrim
    have := ltrim_self (s := s.reverse) (fun c hc => h c (List.mem_reverse.1 hc))
    unfold ltrim at this
    rw [this, List.reverse_reverse]
  rw [this, ltrim_self h]
theorem vld_num (nm : Str) (u : Nat) (ht : tok nm = true) (hl : nm.length ≤ 100) (hu : u < 10 ^ 20) : vldF ⟨nm, dec u⟩ = true := by
  obtain ⟨d1, d2⟩ := dec_all u
  have hd : ∀ c ∈ dec u, isD c = true := fun c hc => List.all_eq_true.1 d1 c hc
  have hb := dec_bd 19 u hu
  unfold vldF
  have e1 : txt (dec u) = true := by unfold txt; rw [List.all_eq_true]; exact fun c hc => (dig_txt c (hd c hc)).1
  have e2 : trim (dec u) = dec u := trim_self fun c hc => (dig_txt c (hd c hc)).2
  have e3 : (lineF ⟨nm, dec u⟩).length ≤ 2000 := by
    unfold lineF
    simp only [d2, if_false, List.length_append, List.length_cons, List.length_nil]
    omega
  simp only [ht, e1, e2, beq_self_eq_true, e3, decide_true, Bool.and_self]
theorem framed_eq (u : List GField) (n : Nat) (hu : ∀ f ∈ u, frm f = false) (hl : u.length ≤ 63) (hs : ∀ f ∈ u, smG f) (hn : n ≤ 100000) : ref01_framed (u ++ [clF n]) = some ((n : Int), 0) := by
  have hlen : (u ++ [clF n]).length ≤ 1073741824 := by rw [List.length_append]; simp; omega
  have hd : (dec n).length ≤ 9 := dec_bd 8 n (by omega)
  have hsm : ∀ f ∈ u ++ [clF n], smF f := by
    intro f hf
    rw [List.mem_append, List.mem_singleton] at hf
    rcases hf with hf | rfl
    · have := hs f hf; exact ⟨by have := this.1; omega, by have := this.2; omega⟩
    · refine ⟨by show clN.length ≤ _; decide, ?_⟩
      show (Lib.itoa n).length ≤ _
      rw [itoa_dec]; omega
  have g1 : getF (u ++ [clF n]) teN = [] := by
    unfold getF
    rw [List.map_eq_nil_iff, List.filter_eq_nil_iff]
    intro f hf
    rw [List.mem_append, List.mem_singleton] at hf
    rcases hf with hf | rfl
    · have := hu f hf; unfold frm at this; simp only [Bool.or_eq_false_iff] at this; simp [this.2]
    · have : fold (clF n).fName teN = false := by show fold clN teN = false; decide
      simp [this]
  have g2 : getF (u ++ [clF n]) clN = [dec n] := by
    unfold getF
    rw [List.filter_append]
    have e1 : u.filter (fun f => fold f.fName clN) = [] := by
      rw [List.filter_eq_nil_iff]
      intro f hf
      have := hu f hf; unfold frm at this; simp only [Bool.or_eq_false_iff] at this; simp [this.1]
    have e2 : [clF n].filter (fun f => fold f.fName clN) = [clF n] := by
      rw [List.filter_cons, if_pos (by show fold clN clN = true; decide)]; rfl
    rw [e1, e2]
    show [Lib.itoa n] = _
    rw [itoa_dec]
  have hnum : ref01_Number (dec n) = some ((n : Int), true) := by
    rw [RNumber_eq _ (by omega)]
    have := num_zeros 0 n
    simp only [List.replicate_zero, List.nil_append] at this
    rw [this]
    unfold cap
    rw [if_neg (by omega)]
  unfold ref01_framed
  rw [show ([84, 114, 97, 110, 115, 102, 101, 114, 45, 69, 110, 99, 111, 100, 105, 110, 103] : Str) = teN from rfl, RGet_eq _ _ hlen hsm (by decide), some_bind,
    show ([67, 111, 110, 116, 101, 110, 116, 45, 76, 101, 110, 103, 116, 104] : Str) = clN from rfl, RGet_eq _ _ hlen hsm (by decide), some_bind, g1, g2]
  simp only [List.length_nil, List.length_cons, Nat.zero_add]
  rw [show xnth [dec n] 0 = some (dec n) from rfl]
  simp only [some_bind, hnum]
  rw [show decide ((9 : Int) < ((dec n).length : Int)) = false from decide_eq_false (by omega)]
  rfl
end Go.Eng.Pure

/- Layer 26: an entry's response as text, sixth part: the law of what is sent, whole. -/
namespace Go.Eng.Pure
open Go Go.Eng
set_option linter.unusedVariables false
theorem joinS_ne {start : Str} {l : List GField} {b : Str} {x : Bool} : joinS start l b x x ≠ [] ↔ start ≠ [] ∧ (unfr l).length ≤ 63 ∧ (unfr l).all vldF = true ∧ (start ++ crlf ++ linesF (unfr l) ++ tailS b.length x).length ≤ 16000 := by
  unfold joinS
  constructor
  · intro h
    split at h
    · exact absurd rfl h
    · rename_i hn
      refine ⟨fun e => hn (Or.inl e), ?_, ?_, ?_⟩
      · rcases Nat.lt_or_ge 63 (unfr l).length with h1 | h1
        · exact absurd (Or.inr (Or.inl h1)) hn
        · exact h1
      · cases hv : (unfr l).all vldF with
        | true => rfl
        | false => exact absurd (Or.inr (Or.inr (Or.inl hv))) hn
      · rcases Nat.lt_or_ge 16000 (start ++ crlf ++ linesF (unfr l) ++ tailS b.length x).length with h1 | h1
        · exact absurd (Or.inr (Or.inr (Or.inr h1))) hn
        · exact h1
  · rintro ⟨h1, h2, h3, h4⟩
    rw [if_neg]
    · simp [crlf]
    · rintro (h | h | h | h)
      · exact h1 h
      · omega
      · rw [h3] at h; cases h
      · omega
theorem cl_line (n : Nat) : lineF (clF n) = clT ++ Lib.itoa n := by
  have : Lib.itoa (n : Int) ≠ [] := by rw [itoa_dec]; exact (dec_all n).2
  unfold lineF clF
  simp only [this, if_false]
  rfl
theorem joinS_text {start : Str} {l : List GField} {b : Str} (h : joinS start l b true true ≠ []) : joinS start l b true true = start ++ crlf ++ linesF (unfr l ++ [clF b.length]) ++ crlf ++ b ∧ (start ++ crlf ++ linesF (unfr l ++ [clF b.length]) ++ crlf).length ≤ 16000 := by
  obtain ⟨h1, h2, h3, h4⟩ := joinS_ne.1 h
  have e : start ++ crlf ++ linesF (unfr l) ++ tailS b.length true = start ++ crlf ++ linesF (unfr l ++ [clF b.length]) ++ crlf := by
    rw [linesF_app, linesF_one, cl_line]
    unfold tailS
    simp only [if_true, List.append_assoc]
  refine ⟨?_, by rw [← e]; exact h4⟩
  unfold joinS
  rw [if_neg]
  · rw [e]; rfl
  · rintro (h | h | h | h)
    · exact h1 h
    · omega
    · rw [h3] at h; cases h
    · omega
theorem ParseResp (r : GResponse) (h : smR r) (hne : fmtS r true ≠ []) : ∃ x : GResponse, ref01_ParseResponse (fmtS r true) [71, 69, 84] true = some (x, ((fmtS r true).length : Int), 0) ∧ x.fBody = r.fBody := by
  obtain ⟨r1, r2, r3, r4, r5⟩ := h
  have ht : txt r.fReason = true := by
    cases ht : txt r.fReason with
    | true => rfl
    | false =>
      exfalso; apply hne
      unfold fmtS joinS
      rw [ht, if_pos]
      left; rfl
  have hf : fmtS r true = joinS (stT ++ r.fReason) r.fFields r.fBody true true := by unfold fmtS; rw [ht]; rfl
  rw [hf] at hne ⊢
  obtain ⟨h1, h2, h3, h4⟩ := joinS_ne.1 hne
  obtain ⟨t1, t2⟩ := joinS_text hne
  rw [t1]
  have hu : ∀ f ∈ unfr r.fFields, frm f = false := fun f hf => by
    unfold unfr at hf
    simpa using (List.mem_filter.1 hf).2
  have hus := (unfr_T r4).2
  have hb : r.fBody.length ≤ 100000 := by omega
  have hcl : vldF (clF r.fBody.length) = true := by
    have := vld_num clN r.fBody.length (by decide) (by decide) (by omega)
    unfold clF; rw [itoa_dec]; exact this
  have hd : (dec r.fBody.length).length ≤ 9 := dec_bd 8 _ (by omega)
  have hFs : ∀ f ∈ unfr r.fFields ++ [clF r.fBody.length], smG f := by
    intro f hf
    rw [List.mem_append, List.mem_singleton] at hf
    rcases hf with hf | rfl
    · exact hus f hf
    · refine ⟨by show clN.length ≤ 1000; decide, ?_⟩
      show (Lib.itoa (r.fBody.length : Int)).length ≤ 1000
      rw [itoa_dec]; omega
  have hFl : (unfr r.fFields ++ [clF r.fBody.length]).length ≤ 64 := by rw [List.length_append]; simp; omega
  have hFv : (unfr r.fFields ++ [clF r.fBody.length]).all vldF = true := by rw [List.all_append, h3, List.all_cons, hcl]; rfl
  have hst : oneL (stT ++ r.fReason) := by
    intro c hc
    rw [List.mem_append] at hc
    rcases hc with hc | hc
    · have : ∀ c ∈ stT, c ≠ 13 ∧ c ≠ 10 := by decide
      exact this c hc
    · exact txt_oneL ht c hc
  have hps : ref01_ParseStatusLine (stT ++ r.fReason) = some (1, 200, r.fReason, 0) := by rw [RPS_eq _ r3, ht]; rfl
  have hfr := framed_eq (unfr r.fFields) r.fBody.length hu h2 hus hb
  have hun := Unframed_eq (unfr r.fFields ++ [clF r.fBody.length]) ⟨by omega, hFs⟩
  -- the head
  have hhd : ∀ (s : Str), s = stT ++ r.fReason → ref01_head (s ++ crlf ++ linesF (unfr r.fFields ++ [clF r.fBody.length]) ++ crlf ++ r.fBody) false = some (s, unfr r.fFields ++ [clF r.fBody.length], ((s ++ crlf ++ linesF (unfr r.fFields ++ [clF r.fBody.length]) ++ crlf).length : Int), 0) := by
    intro s e; subst e
    exact head_eq _ _ _ (by rw [List.length_append, show stT.length = 13 from rfl]; omega) hFl hFs hFv hst h1 ⟨_, _, _, hps⟩ hb t2
  have hhd := hhd _ rfl
  generalize unfr r.fFields ++ [clF r.fBody.length] = F at *
  generalize hH : stT ++ r.fReason ++ crlf ++ linesF F ++ crlf = H at *
  have hlT : (H ++ r.fBody).length = H.length + r.fBody.length := List.length_append
  have hsub : xsub (H ++ r.fBody) (H.length : Int) (((H ++ r.fBody).length : Nat) : Int) = some r.fBody := by
    rw [xsub_from (by omega), List.drop_left']; rfl
  refine ⟨⟨1, 200, r.fReason, unfr F, r.fBody⟩, ?_, rfl⟩
  unfold ref01_ParseResponse
  rw [hhd, some_bind]
  simp only []
  rw [show ((0 : Int) != 0) = false from rfl, bif_false, hps, some_bind, hfr, some_bind]
  simp only []
  rw [show ((0 : Int) != 0) = false from rfl, bif_false, hun, some_bind, show ref01_Bodiless 200 [71, 69, 84] = some false from rfl, some_bind, bif_false,
    show (((r.fBody.length : Int) == -2) : Bool) = false by rw [beq_eq_false_iff_ne]; omega, bif_false, some_bind]
  simp only []
  unfold ref01_body
  rw [show (((r.fBody.length : Int) == -1) : Bool) = false by rw [beq_eq_false_iff_ne]; omega, bif_false, show decide ((100000 : Int) < (r.fBody.length : Int)) = false from decide_eq_false (by omega), bif_false,
    wrsub (by omega) (by omega), show decide ((((H ++ r.fBody).length - H.length : Nat) : Int) < (r.fBody.length : Int)) = false from decide_eq_false (by omega), bif_false,
    show wr ((H.length : Int) + (r.fBody.length : Int)) = (((H ++ r.fBody).length : Nat) : Int) by rw [wra (by omega), hlT], hsub, some_bind, some_bind]
  simp only []
  rw [show ((0 : Int) != 0) = false from rfl, bif_false]
theorem unfr_app (a b : List GField) : unfr (a ++ b) = unfr a ++ unfr b := by unfold unfr; rw [List.filter_append]
theorem unfr_resp (e : GEntry) (age : Int) (name : Str) : unfr (respS e age name).fFields = unfr (without e.fFields ageN) ++ [⟨ageN, Lib.itoa age⟩] ++ [⟨viaN, ([49, 46] ++ Lib.itoa 1) ++ [32] ++ name⟩] := by
  show unfr (viaF (without e.fFields ageN ++ [⟨ageN, Lib.itoa age⟩]) 1 name) = _
  unfold viaF
  rw [unfr_app, unfr_app]
  congr 1
theorem age_send (e : GEntry) (a : Int) (name : Str) (x : Bool) (h1 : 0 ≤ a) (h2 : a ≤ 2147483647) (h : fmtS (respS e 2147483647 name) x ≠ []) : fmtS (respS e a name) x ≠ [] := by
  obtain ⟨n, rfl⟩ := Int.eq_ofNat_of_zero_le h1
  unfold fmtS at h ⊢
  rw [joinS_ne] at h ⊢
  rw [unfr_resp] at h ⊢
  obtain ⟨c1, c2, c3, c4⟩ := h
  have en : Lib.itoa (n : Int) = dec n := itoa_dec n
  have em : Lib.itoa (2147483647 : Int) = dec 2147483647 := itoa_dec 2147483647
  have ln : (dec n).length ≤ 10 := dec_bd 9 n (by omega)
  have lm : 9 < (dec 2147483647).length := dec_lb 9 _ (by decide)
  refine ⟨c1, ?_, ?_, ?_⟩
  · simpa only [List.length_append, List.length_cons, List.length_nil] using c2
  · simp only [List.all_append, List.all_cons, List.all_nil, Bool.and_true, Bool.and_eq_true] at c3 ⊢
    refine ⟨⟨c3.1.1, ?_⟩, c3.2⟩
    rw [en]
    exact vld_num ageN n (by decide) (by decide) (by omega)
  · have hl : ∀ u, (lineF ⟨ageN, dec u⟩).length = 5 + (dec u).length := by
      intro u
      unfold lineF
      simp only [(dec_all u).2, if_false, List.length_append, show ageN.length = 3 from rfl, List.length_cons, List.length_nil]
    rw [em] at c4
    rw [en]
    simp only [linesF_app, linesF_one, List.length_append, hl] at c4 ⊢
    show (if txt e.fReason then stT ++ e.fReason else []).length + _ + _ + _ ≤ _
    have c4' : (if txt e.fReason then stT ++ e.fReason else []).length + _ + _ + _ ≤ _ := c4
    have hbd : (respS e (n : Int) name).fBody = (respS e 2147483647 name).fBody := rfl
    rw [hbd]
    omega
theorem head_send (r : GResponse) (h : fmtS r true ≠ []) : fmtS r false ≠ [] := by
  unfold fmtS at h ⊢
  rw [joinS_ne] at h ⊢
  obtain ⟨c1, c2, c3, c4⟩ := h
  refine ⟨c1, c2, c3, ?_⟩
  unfold tailS at c4 ⊢
  simp only [List.length_append, if_true, Bool.false_eq_true, if_false, List.length_nil] at c4 ⊢
  omega
theorem EntrySends_true (e : GEntry) (now : Int) (name : Str) : law26_EntrySends e now name = some true := by
  unfold law26_EntrySends
  rw [keep_Entry_eq, some_bind, show decide ((100 : Int) < (name.length : Int)) = decide (100 < name.length) by rw [Bool.eq_iff_iff, decide_eq_true_eq, decide_eq_true_eq]; omega]
  cases he : keepE e with
  | false => rw [awake26]; rfl
  | true =>
    have hs := keepE_sm he
    by_cases hn : 100 < name.length
    · rw [decide_eq_true hn, awake26]; rfl
    · have hn' : name.length ≤ 300 := by omega
      rw [decide_eq_false hn, Sendable_eq e name hs hn']
      simp only [Bool.not_true, Bool.or_self, bif_false, some_bind]
      cases hx : (fmtS (respS e 2147483647 name) true != []) with
      | false => rw [awake26]; rfl
      | true =>
        have hne : fmtS (respS e 2147483647 name) true ≠ [] := by simpa using hx
        have ha := ageS_bd e.fFields e.fRequested e.fReceived now
        have ha' : 0 ≤ ageE e now ∧ ageE e now ≤ 2147483647 := ha
        have hg := age_send e (ageE e now) name true ha'.1 ha'.2 hne
        have hsm := respS_sm e (ageE e now) name hs hn' (by omega) (by omega)
        obtain ⟨x, hx1, hx2⟩ := ParseResp _ hsm hg
        have hh := head_send _ hg
        rw [EResponse_eq e now name hs.2.2.2.1 (by omega)]
        simp only [Bool.not_true, bif_false, some_bind, RFResp_eq _ hsm]
        rw [show (!(([71, 69, 84] : Str) == [72, 69, 65, 68])) = true from rfl, show (!(([72, 69, 65, 68] : Str) == [72, 69, 65, 68])) = false from rfl, hx1]
        simp only [some_bind]
        rw [show ((0 : Int) == 0) = true from rfl, show ((((fmtS (respS e (ageE e now) name) true).length : Int) == ((fmtS (respS e (ageE e now) name) true).length : Int)) : Bool) = true from beq_self_eq_true _, hx2,
          show ((respS e (ageE e now) name).fBody == e.fBody) = true from beq_self_eq_true _, show (fmtS (respS e (ageE e now) name) false != []) = true by simpa using hh, awake26]
        rfl
end Go.Eng.Pure
