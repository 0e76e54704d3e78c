/- A part of the proof of laws of the seat. -/
import Derived.Test.YtogfdiigokidaaaGreatDoorMediaQ
namespace Go.Eng.Pure
open Go Go.Eng
set_option linter.unusedVariables false
def sameN (p x : GParam) : Bool := x.fName == p.fName
def parsOK : List GParam → List GParam → Bool
  | _, [] => true
  | prev, p :: l => (p.fName != [113] && !(prev.any (sameN p))) && parsOK (prev ++ [p]) l
theorem PContains_eq (ms : List GParam) (f : GParam → Option Bool) (p : GParam → Bool) (hl : ms.length ≤ 1073741824) (h : ∀ m ∈ ms, f m = some (p m)) : slices_ContainsFunc_api_Param_api_Param ms f = some (ms.any p) := by
  have key : ∀ (k n : Nat), n + k = ms.length → ∃ r, whileO (slices_IndexFunc_api_Param_api_Param_L0 ms f) (n : Int) = some r ∧ (match r with | .inr i => decide (0 ≤ i) | .inl _ => false) = (ms.drop n).any p := by
    intro k
    induction k with
    | zero =>
      intro n hn
      obtain rfl : n = ms.length := by omega
      refine ⟨.inl (), whileO_done ?_, by simp⟩
      simp only [slices_IndexFunc_api_Param_api_Param_L0, lt_false (Nat.le_refl ms.length), bif_false]
    | succ k ih =>
      intro n hn
      have hlt : n < ms.length := by omega
      have hb : slices_IndexFunc_api_Param_api_Param_L0 ms f (n : Int) = some (if p ms[n] then .inr (.inr (n : Int)) else .inl ((n + 1 : Nat) : Int)) := by
        simp only [slices_IndexFunc_api_Param_api_Param_L0, lt_true hlt, bif_true, xnth_get hlt, some_bind, h _ (List.getElem_mem hlt), wrs (show n ≤ 4 * 1073741824 by omega)]
        cases p ms[n] <;> rfl
      rw [List.drop_eq_getElem_cons hlt, List.any_cons]
      cases hp : p ms[n] with
      | true =>
        rw [hp, if_pos rfl] at hb
        exact ⟨_, whileO_done hb, by show decide ((0 : Int) ≤ (n : Int)) = _; rw [decide_eq_true (by omega)]; rfl⟩
      | false =>
        rw [hp, if_neg (by decide)] at hb
        obtain ⟨r, h1, h2⟩ := ih (n + 1) (by omega)
        exact ⟨r, by rw [whileO_next hb, h1], by rw [h2]; rfl⟩
  obtain ⟨r, h1, h2⟩ := key ms.length 0 (by omega)
  have h1 : whileO (slices_IndexFunc_api_Param_api_Param_L0 ms f) 0 = some r := h1
  unfold slices_ContainsFunc_api_Param_api_Param slices_IndexFunc_api_Param_api_Param
  rw [h1, some_bind]
  rw [List.drop_zero] at h2
  rw [← h2]
  cases r <;> rfl
theorem pars_loop (l : List GParam) (hl : l.length ≤ 1000001) (body : (Bool × Int) → Option ((Bool × Int) ⊕ Bool))
    (h : ∀ (n : Nat) (hn : n < l.length) (b : Bool), body (b, (n : Int)) = some (.inl (b && (l[n].fName != [113] && !((l.take n).any (sameN l[n]))), ((n + 1 : Nat) : Int)))) (h' : ∀ b, body (b, (l.length : Int)) = some (.inr b)) :
    ∀ (k n : Nat) (b : Bool), n + k = l.length → whileO body (b, (n : Int)) = some (b && parsOK (l.take n) (l.drop n)) := by
  intro k
  induction k with
  | zero =>
    intro n b hn
    have : n = l.length := by omega
    subst this
    rw [whileO_done (h' b), List.drop_length]; unfold parsOK; rw [Bool.and_true]
  | succ k ih =>
    intro n b hn
    have hlt : n < l.length := by omega
    rw [whileO_next (h n hlt b), ih (n + 1) _ (by omega)]
    conv => rhs; rw [List.drop_eq_getElem_cons hlt]
    conv => rhs; unfold parsOK
    rw [take_succ_get hlt, Bool.and_assoc]
def mediaB (s : Str) : Bool := (typeS s).2 && parsOK [] (typeS s).1.fParams
theorem MForm_eq (s : Str) (hs : s.length ≤ 1000000) : variants_media_form () s = some (lower s, mediaB s) := by
  have hl := typeS_len s
  unfold variants_media_form mediaB
  rw [PType_eq s hs, some_bind]
  have := pars_loop (typeS s).1.fParams (by omega) (variants_media_form_L0 (typeS s)) ?_ ?_ (typeS s).1.fParams.length 0 (typeS s).2 (by omega)
  · rw [show ((0 : Nat) : Int) = 0 from rfl, List.take_zero, List.drop_zero] at this
    rw [this, some_bind, Lower_eq _ (by omega), some_bind]
  · intro n hn b
    unfold variants_media_form_L0
    simp only []
    rw [lt_true hn, bif_true, xnth_get hn, some_bind, wrs (by omega)]
    generalize hp : (typeS s).1.fParams[n] = p
    have hc : slices_ContainsFunc_api_Param_api_Param ((typeS s).1.fParams.take n) (fun x0 => variants_media_form_1 x0 p) = some (((typeS s).1.fParams.take n).any (sameN p)) :=
      PContains_eq _ _ _ (by rw [List.length_take]; omega) (fun m _ => rfl)
    cases hb : b && (p.fName != [113]) with
    | true =>
      rw [bif_true, xsub_to (by omega), some_bind, hc, some_bind, some_bind]
      rw [Bool.and_eq_true] at hb
      rw [hb.1, hb.2, Bool.true_and, Bool.true_and]
    | false =>
      rw [bif_false, some_bind]
      have : (b && (p.fName != [113] && !(((typeS s).1.fParams.take n).any (sameN p)))) = false := by rw [← Bool.and_assoc, hb]; rfl
      rw [this]
  · intro b
    unfold variants_media_form_L0
    simp only []
    rw [lt_false (Nat.le_refl _), bif_false]
def txtOK (s : Str) : Bool := ((decide (1 ≤ s.length) && decide (s.length ≤ 100)) && txt s) && (trim s == s)
def domF (n : Str) : Gvariants_domain := if kindF n = 1 then .media else if kindF n = 2 then .tags else if kindF n = 3 ∨ kindF n = 4 then .words (kindF n) else .texts
def formD : Gvariants_domain → Str → Str × Bool
  | .media, s => (lower s, mediaB s)
  | .tags, s => (lower s, langS s)
  | .words k, s => (canS k s, tok s && s != [42])
  | .texts, s => (s, txtOK s)
theorem domOf_eq (n : Str) (hn : n.length ≤ 1073741824) : variants_domainOf n = some (domF n) := by
  unfold variants_domainOf domF
  rw [Kind_eq n hn, some_bind]
  generalize kindF n = k
  by_cases h1 : k = 1
  · subst h1; rfl
  by_cases h2 : k = 2
  · subst h2; rfl
  by_cases h3 : k = 3
  · subst h3; rfl
  by_cases h4 : k = 4
  · subst h4; rfl
  rw [show (k == 1) = false by simpa using h1, show (k == 2) = false by simpa using h2, show (k == 3) = false by simpa using h3, show (k == 4) = false by simpa using h4, if_neg h1, if_neg h2, if_neg (by omega)]
  rfl
theorem le1 (n : Nat) : decide ((1 : Int) ≤ (n : Int)) = decide (1 ≤ n) := le_nat 1 n
theorem le100 (n : Nat) : decide ((n : Int) ≤ 100) = decide (n ≤ 100) := le_nat n 100
theorem form_eq (d : Gvariants_domain) (s : Str) (hs : s.length ≤ 1000000) : variants_domain_form d s = some (formD d s) := by
  cases d with
  | media => exact MForm_eq s hs
  | tags =>
    show variants_tags_form () s = some (lower s, langS s)
    unfold variants_tags_form
    rw [Lower_eq _ (by omega), some_bind, Tag_eq s hs, some_bind]
  | words k =>
    show variants_words_form k s = some (canS k s, tok s && s != [42])
    unfold variants_words_form
    rw [Can_eq _ _ (by omega), some_bind, Token_eq _ (by omega), some_bind]
  | texts =>
    show variants_texts_form () s = some (s, txtOK s)
    unfold variants_texts_form txtOK
    rw [le1, le100, Text_eq _ (by omega), Trim_eq _ (by omega)]
    cases decide (1 ≤ s.length) <;> cases decide (s.length ≤ 100) <;> cases txt s <;> rfl
theorem VSame_eq (n a b : Str) (hn : n.length ≤ 1073741824) (ha : a.length ≤ 1000000) (hb : b.length ≤ 1000000) : variants_Same n a b = some ((formD (domF n) a).1 == (formD (domF n) b).1) := by
  unfold variants_Same
  rw [domOf_eq n hn, some_bind, form_eq _ a ha, some_bind, form_eq _ b hb, some_bind]
end Go.Eng.Pure
namespace Go.Eng.Pure
open Go Go.Eng
set_option linter.unusedVariables false
theorem fold_low (a b : Str) : fold a b = (lower a == lower b) := by
  unfold fold
  cases h : lower a == lower b with
  | false => rw [Bool.and_false]
  | true =>
    have h2 : lower a = lower b := by simpa using h
    have : a.length = b.length := by rw [← lower_len a, h2, lower_len]
    rw [Bool.and_true, this]; simp
theorem RSame_eq (n a b : Str) (hn : n.length ≤ 1073741824) (ha : a.length ≤ 1000000) (hb : b.length ≤ 1000000) : ref10_Same n a b = some ((formD (domF n) a).1 == (formD (domF n) b).1) := by
  unfold ref10_Same domF
  rw [RKind_eq n hn, some_bind]
  generalize kindF n = k
  by_cases h1 : k = 1
  · subst h1; rw [RFold_eq _ _ (by omega) (by omega), fold_low]; rfl
  by_cases h2 : k = 2
  · subst h2; rw [RFold_eq _ _ (by omega) (by omega), fold_low]; rfl
  by_cases h3 : k = 3
  · subst h3; rw [RCan_eq _ _ (by omega), RCan_eq _ _ (by omega)]; rfl
  by_cases h4 : k = 4
  · subst h4; rw [RCan_eq _ _ (by omega), RCan_eq _ _ (by omega)]; rfl
  rw [show (k == 1) = false by simpa using h1, show (k == 2) = false by simpa using h2, show (k == 3) = false by simpa using h3, show (k == 4) = false by simpa using h4, if_neg h1, if_neg h2, if_neg (by omega)]
  rfl
theorem rin_loop (l : List GParam) (n : Nat) (hn : n < l.length) (hl : l.length ≤ 1000001) (r : GMediaType × Bool) (hr : r.1.fParams = l) : ∀ (k i : Nat) (b : Bool), i + k = n →
    whileO (ref10_Value_L0 r (n : Int)) (b, (i : Int)) = some (b && !(((l.take n).drop i).any (sameN l[n]))) := by
  intro k
  induction k with
  | zero =>
    intro i b hi
    have : i = n := by omega
    subst this
    have hb : ref10_Value_L0 r (i : Int) (b, (i : Int)) = some (.inr b) := by
      unfold ref10_Value_L0
      simp only []
      rw [lt_false (Nat.le_refl _), bif_false]
    rw [whileO_done hb, List.drop_eq_nil_of_le (by rw [List.length_take]; omega)]; simp
  | succ k ih =>
    intro i b hi
    have hlt : i < l.length := by omega
    have hb : ref10_Value_L0 r (n : Int) (b, (i : Int)) = some (.inl (b && (l[n].fName != l[i].fName), ((i + 1 : Nat) : Int))) := by
      unfold ref10_Value_L0
      simp only []
      rw [hr, lt_true (show i < n by omega), bif_true, xnth_get hn, some_bind, xnth_get hlt, some_bind, wrs (by omega)]
      cases b <;> rfl
    have hd : (l.take n).drop i = l[i] :: (l.take n).drop (i + 1) := by
      rw [List.drop_eq_getElem_cons (by rw [List.length_take]; omega), List.getElem_take]
    rw [whileO_next hb, ih (i + 1) _ (by omega), hd, List.any_cons]
    have e : sameN l[n] l[i] = !(l[n].fName != l[i].fName) := by
      unfold sameN
      rw [bne, Bool.not_not, Bool.eq_iff_iff, beq_iff_eq, beq_iff_eq]
      exact ⟨Eq.symm, Eq.symm⟩
    rw [e]
    cases b <;> cases l[n].fName != l[i].fName <;> simp
theorem RValue_eqV (n s : Str) (hn : n.length ≤ 1073741824) (hs : s.length ≤ 1000000) : ref10_Value n s = some (formD (domF n) s).2 := by
  have hl := typeS_len s
  have hm : whileO (ref10_Value_L1 (typeS s)) ((typeS s).2, 0) = some (mediaB s) := by
    have := pars_loop (typeS s).1.fParams (by omega) (ref10_Value_L1 (typeS s)) ?_ ?_ (typeS s).1.fParams.length 0 (typeS s).2 (by omega)
    · rw [show ((0 : Nat) : Int) = 0 from rfl, List.take_zero, List.drop_zero] at this
      exact this
    · intro k hk b
      have hin := rin_loop _ k hk (by omega) (typeS s) rfl k 0 b (by omega)
      rw [show ((0 : Nat) : Int) = 0 from rfl, List.drop_zero] at hin
      unfold ref10_Value_L1
      simp only []
      rw [lt_true hk, bif_true, hin, some_bind, xnth_get hk, wrs (by omega)]
      generalize ((typeS s).1.fParams.take k).any (sameN (typeS s).1.fParams[k]) = y
      cases b <;> cases y <;> simp
    · intro b
      unfold ref10_Value_L1
      simp only []
      rw [lt_false (Nat.le_refl _), bif_false]
  unfold ref10_Value domF
  rw [RKind_eq n hn, some_bind]
  generalize kindF n = k
  by_cases h1 : k = 1
  · subst h1; rw [RType_eq s hs]; simp only [some_bind]; rw [hm]; rfl
  by_cases h2 : k = 2
  · subst h2; rw [RTag_eq s hs]; rfl
  by_cases h3 : k = 3
  · subst h3; rw [RToken_eq s (by omega)]; rfl
  by_cases h4 : k = 4
  · subst h4; rw [RToken_eq s (by omega)]; rfl
  rw [show (k == 1) = false by simpa using h1, show (k == 2) = false by simpa using h2, show (k == 3) = false by simpa using h3, show (k == 4) = false by simpa using h4, if_neg h1, if_neg h2, if_neg (by omega)]
  rw [le1, le100, RText_eq _ (by omega), RTrim_eq _ (by omega)]
  show _ = some (txtOK s)
  unfold txtOK
  cases decide (1 ≤ s.length) <;> cases decide (s.length ≤ 100) <;> cases txt s <;> rfl
def chk {α : Type} (ok : List α → α → Bool) : List α → List α → Bool
  | _, [] => true
  | prev, x :: l => ok prev x && chk ok (prev ++ [x]) l
theorem chk_loop {α : Type} (l : List α) (ok : List α → α → Bool) (body : Int → Option (Int ⊕ (Unit ⊕ Bool)))
    (h : ∀ (n : Nat) (hn : n < l.length), body (n : Int) = some (if ok (l.take n) l[n] then .inl ((n + 1 : Nat) : Int) else .inr (.inr false))) (h' : body (l.length : Int) = some (.inr (.inl ()))) :
    whileO body 0 = some (if chk ok [] l then .inl () else .inr false) := by
  have key : ∀ (k n : Nat), n + k = l.length → whileO body (n : Int) = some (if chk ok (l.take n) (l.drop n) then .inl () else .inr false) := by
    intro k
    induction k with
    | zero =>
      intro n hn
      have : n = l.length := by omega
      subst this
      rw [whileO_done h', List.drop_length]; rfl
    | succ k ih =>
      intro n hn
      have hlt : n < l.length := by omega
      have hb := h n hlt
      conv => rhs; rw [List.drop_eq_getElem_cons hlt]
      unfold chk
      cases hs : ok (l.take n) l[n] with
      | true => rw [hs] at hb; rw [whileO_next hb, ih (n + 1) (by omega), Bool.true_and, take_succ_get hlt]
      | false => rw [hs] at hb; rw [whileO_done hb]; rfl
  have := key l.length 0 (by omega)
  rw [show ((0 : Nat) : Int) = 0 from rfl, List.take_zero, List.drop_zero] at this
  exact this
end Go.Eng.Pure
namespace Go.Eng.Pure
open Go Go.Eng
set_option linter.unusedVariables false
def okV (d : Gvariants_domain) (prev : List Str) (v : Str) : Bool := (formD d v).2 && !(prev.any fun u => (formD d u).1 == (formD d v).1)
def axV (a : GAxis) : Bool := (decide (1 ≤ a.fValues.length) && decide (a.fValues.length ≤ 16)) && chk (okV (domF a.fName)) [] a.fValues
def smA (a : GAxis) : Prop := a.fName.length ≤ 1000000 ∧ ∀ v ∈ a.fValues, v.length ≤ 1000000
theorem mget_mset {β : Type} (m : List (Str × β)) (k k' : Str) (v z : β) : (mget (mset m k v) k' z).1 = if k' == k then v else (mget m k' z).1 := by
  unfold mget
  rw [lookup_mset]
  cases k' == k <;> rfl
theorem valid_loop (a : GAxis) (h : smA a) (hl : a.fValues.length ≤ 16) : ∀ (k n : Nat) (m : List (Str × Bool)), n + k = a.fValues.length → (∀ q, (mget m q false).1 = (a.fValues.take n).any fun u => (formD (domF a.fName) u).1 == q) →
    whileO (variants_valid_L0 a (domF a.fName)) ((n : Int), m) = some (if chk (okV (domF a.fName)) (a.fValues.take n) (a.fValues.drop n) then .inl () else .inr false) := by
  intro k
  induction k with
  | zero =>
    intro n m hn hI
    have : n = a.fValues.length := by omega
    subst this
    have hb : variants_valid_L0 a (domF a.fName) ((a.fValues.length : Int), m) = some (.inr (.inl ())) := by
      unfold variants_valid_L0
      simp only []
      rw [lt_false (Nat.le_refl _), bif_false]
    rw [whileO_done hb, List.drop_length]; rfl
  | succ k ih =>
    intro n m hn hI
    have hlt : n < a.fValues.length := by omega
    have hm := h.2 _ (List.getElem_mem hlt)
    conv => rhs; rw [List.drop_eq_getElem_cons hlt]
    unfold chk
    generalize hv : a.fValues[n] = v at *
    have hb : variants_valid_L0 a (domF a.fName) ((n : Int), m) = some (if okV (domF a.fName) (a.fValues.take n) v then .inl (((n + 1 : Nat) : Int), mset m (formD (domF a.fName) v).1 true) else .inr (.inr false)) := by
      unfold variants_valid_L0 okV
      simp only []
      rw [lt_true hlt, bif_true, xnth_get hlt, hv, some_bind, form_eq _ v hm, some_bind, some_bind, hI, wrs (by omega)]
      cases (formD (domF a.fName) v).2 <;> cases (a.fValues.take n).any (fun u => (formD (domF a.fName) u).1 == (formD (domF a.fName) v).1) <;> rfl
    cases ho : okV (domF a.fName) (a.fValues.take n) v with
    | false => rw [ho] at hb; rw [whileO_done hb]; rfl
    | true =>
      rw [ho] at hb
      rw [whileO_next hb, ih (n + 1) _ (by omega) ?_, Bool.true_and, take_succ_get hlt, hv]
      intro q
      rw [mget_mset, take_succ_get hlt, hv, List.any_append, hI q]
      simp only [List.any_cons, List.any_nil, Bool.or_false]
      have e : (q == (formD (domF a.fName) v).1) = ((formD (domF a.fName) v).1 == q) := by
        rw [Bool.eq_iff_iff, beq_iff_eq, beq_iff_eq]; exact ⟨Eq.symm, Eq.symm⟩
      rw [e]
      cases (formD (domF a.fName) v).1 == q <;> simp
theorem lt1 (n : Nat) : decide ((n : Int) < 1) = !decide (1 ≤ n) := by
  rw [Bool.eq_iff_iff]; simp only [decide_eq_true_eq, Bool.not_eq_true', decide_eq_false_iff_not]; omega
theorem gt16 (n : Nat) : decide ((16 : Int) < (n : Int)) = !decide (n ≤ 16) := by
  rw [Bool.eq_iff_iff]; simp only [decide_eq_true_eq, Bool.not_eq_true', decide_eq_false_iff_not]; omega
theorem gt4 (n : Nat) : decide ((4 : Int) < (n : Int)) = !decide (n ≤ 4) := by
  rw [Bool.eq_iff_iff]; simp only [decide_eq_true_eq, Bool.not_eq_true', decide_eq_false_iff_not]; omega
theorem Vvalid_eq (a : GAxis) (h : smA a) : variants_valid a = some (axV a) := by
  unfold variants_valid axV
  rw [lt1, gt16]
  by_cases h1 : 1 ≤ a.fValues.length
  · by_cases h2 : a.fValues.length ≤ 16
    · rw [decide_eq_true h1, decide_eq_true h2, domOf_eq _ (by have := h.1; omega)]
      simp only [Bool.not_true, Bool.or_self, bif_false, some_bind, Bool.and_self, Bool.true_and]
      have := valid_loop a h h2 a.fValues.length 0 [] (by omega) (fun q => rfl)
      rw [show ((0 : Nat) : Int) = 0 from rfl, List.take_zero, List.drop_zero] at this
      rw [this, some_bind]
      cases chk (okV (domF a.fName)) [] a.fValues <;> rfl
    · rw [decide_eq_false h2]; simp
  · rw [decide_eq_false h1]; simp
def axN (a : GAxis) : Bool := (tok a.fName && (lower a.fName == a.fName)) && axV a
theorem RvalidAxis_eq (a : GAxis) (h : smA a) : ref10_validAxis a = some (axN a) := by
  have hn := h.1
  unfold ref10_validAxis axN axV
  rw [RToken_eq _ (by omega), some_bind, lt1, gt16]
  have hlow : (bif !tok a.fName then some true else (ref01_Lower a.fName).bind fun r13 => some (r13 != a.fName)) = some (!(tok a.fName && (lower a.fName == a.fName))) := by
    rw [RLower_eq _ (by omega), some_bind]
    cases tok a.fName <;> rfl
  rw [hlow, some_bind]
  cases (tok a.fName && (lower a.fName == a.fName)) with
  | false => rfl
  | true =>
    by_cases h1 : 1 ≤ a.fValues.length
    · by_cases h2 : a.fValues.length ≤ 16
      · rw [decide_eq_true h1, decide_eq_true h2]
        simp only [Bool.not_true, Bool.or_self, bif_false, Bool.and_self, Bool.true_and]
        have := chk_loop a.fValues (okV (domF a.fName)) (ref10_validAxis_L1 a) ?_ ?_
        · rw [this, some_bind]
          cases chk (okV (domF a.fName)) [] a.fValues <;> rfl
        · intro n hlt
          have hm := h.2 _ (List.getElem_mem hlt)
          unfold ref10_validAxis_L1 okV
          rw [lt_true hlt, bif_true, xnth_get hlt, some_bind]
          generalize hv : a.fValues[n] = v at *
          rw [RValue_eqV _ _ (by omega) hm, some_bind]
          cases (formD (domF a.fName) v).2 with
          | false => rfl
          | true =>
            rw [Bool.not_true, bif_false]
            have hw : whileO (ref10_validAxis_L0 a (n : Int)) 0 = some (if (a.fValues.take n).any (fun u => (formD (domF a.fName) u).1 == (formD (domF a.fName) v).1) then .inr (.inr (.inr false)) else .inl ()) := by
              refine while_any (ρ := Unit ⊕ (Int ⊕ (Unit ⊕ Bool))) _ (a.fValues.take n) _ (.inr (.inr (.inr false))) (.inl ()) ?_ ?_
              · intro i hi
                have hi2 : i < n := by rw [List.length_take] at hi; omega
                have hi3 : i < a.fValues.length := by omega
                have hmi := h.2 _ (List.getElem_mem hi3)
                unfold ref10_validAxis_L0
                rw [lt_true hi2, bif_true, xnth_get hlt, hv, some_bind, xnth_get hi3, some_bind, RSame_eq _ _ _ (by omega) hm hmi, some_bind, List.getElem_take, wrs (by omega)]
                have e : ((formD (domF a.fName) v).1 == (formD (domF a.fName) a.fValues[i]).1) = ((formD (domF a.fName) a.fValues[i]).1 == (formD (domF a.fName) v).1) := by
                  rw [Bool.eq_iff_iff, beq_iff_eq, beq_iff_eq]; exact ⟨Eq.symm, Eq.symm⟩
                rw [e]
                cases (formD (domF a.fName) a.fValues[i]).1 == (formD (domF a.fName) v).1 <;> simp
              · unfold ref10_validAxis_L0
                have : (a.fValues.take n).length = n := by rw [List.length_take]; omega
                rw [this, lt_false (Nat.le_refl _), bif_false]
            rw [hw, some_bind, wrs (by omega)]
            cases (a.fValues.take n).any (fun u => (formD (domF a.fName) u).1 == (formD (domF a.fName) v).1) <;> rfl
        · unfold ref10_validAxis_L1
          rw [lt_false (Nat.le_refl _), bif_false]
      · rw [decide_eq_false h2]; simp
    · rw [decide_eq_false h1]; simp
def okA (prev : List GAxis) (a : GAxis) : Bool := axN a && !(prev.any fun b => a.fName == b.fName)
def valB (l : List GAxis) : Bool := (decide (1 ≤ l.length) && decide (l.length ≤ 4)) && chk okA [] l
theorem VValid_eq (l : List GAxis) (h : ∀ a ∈ l, smA a) : variants_Valid l = some (valB l) := by
  unfold variants_Valid valB
  rw [lt1, gt4]
  by_cases h1 : 1 ≤ l.length
  · by_cases h2 : l.length ≤ 4
    · rw [decide_eq_true h1, decide_eq_true h2]
      simp only [Bool.not_true, Bool.or_self, bif_false, Bool.and_self, Bool.true_and]
      have := chk_loop l okA (variants_Valid_L1 l) ?_ ?_
      · rw [this, some_bind]
        cases chk okA [] l <;> rfl
      · intro n hlt
        have hm := h _ (List.getElem_mem hlt)
        unfold variants_Valid_L1 okA axN
        rw [lt_true hlt, bif_true, xnth_get hlt, some_bind]
        generalize hv : l[n] = a at *
        have hn := hm.1
        rw [Token_eq _ (by omega), some_bind, Lower_eq _ (by omega), some_bind, Vvalid_eq a hm]
        have hw : whileO (variants_Valid_L0 a (l.take n)) 0 = some (if (l.take n).any (fun b => a.fName == b.fName) then .inr (.inr (.inr false)) else .inl ()) := by
          refine while_any (ρ := Unit ⊕ (Int ⊕ (Unit ⊕ Bool))) _ (l.take n) _ (.inr (.inr (.inr false))) (.inl ()) ?_ ?_
          · intro i hi
            have hi2 : i < n := by rw [List.length_take] at hi; omega
            unfold variants_Valid_L0
            rw [lt_true hi, bif_true, xnth_get hi, some_bind, wrs (by omega)]
            cases a.fName == (l.take n)[i].fName <;> simp
          · unfold variants_Valid_L0
            rw [lt_false (Nat.le_refl _), bif_false]
        rw [xsub_to (by omega), wrs (by omega)]
        simp only [some_bind]
        rw [hw]
        have e : (lower a.fName != a.fName) = !(lower a.fName == a.fName) := rfl
        rw [e]
        cases tok a.fName <;> cases lower a.fName == a.fName <;> cases axV a <;> cases (l.take n).any (fun b => a.fName == b.fName) <;> rfl
      · unfold variants_Valid_L1
        rw [lt_false (Nat.le_refl _), bif_false]
    · rw [decide_eq_false h2]; simp
  · rw [decide_eq_false h1]; simp
theorem RValid_eq (l : List GAxis) (h : ∀ a ∈ l, smA a) : ref10_Valid l = some (valB l) := by
  unfold ref10_Valid valB
  rw [lt1, gt4]
  by_cases h1 : 1 ≤ l.length
  · by_cases h2 : l.length ≤ 4
    · rw [decide_eq_true h1, decide_eq_true h2]
      simp only [Bool.not_true, Bool.or_self, bif_false, Bool.and_self, Bool.true_and]
      have := chk_loop l okA (ref10_Valid_L1 l) ?_ ?_
      · rw [this, some_bind]
        cases chk okA [] l <;> rfl
      · intro n hlt
        have hm := h _ (List.getElem_mem hlt)
        have hx := xnth_get hlt
        unfold ref10_Valid_L1 okA
        rw [lt_true hlt, bif_true, hx, some_bind]
        generalize hv : l[n] = a at *
        rw [RvalidAxis_eq a hm, some_bind]
        have hw : whileO (ref10_Valid_L0 l (n : Int)) 0 = some (if (l.take n).any (fun b => a.fName == b.fName) then .inr (.inr (.inr false)) else .inl ()) := by
          refine while_any (ρ := Unit ⊕ (Int ⊕ (Unit ⊕ Bool))) _ (l.take n) _ (.inr (.inr (.inr false))) (.inl ()) ?_ ?_
          · intro i hi
            have hi2 : i < n := by rw [List.length_take] at hi; omega
            have hi3 : i < l.length := by omega
            unfold ref10_Valid_L0
            rw [lt_true hi2, bif_true, hx, some_bind, xnth_get hi3, some_bind, wrs (by omega), List.getElem_take]
            cases a.fName == l[i].fName <;> simp
          · unfold ref10_Valid_L0
            have : (l.take n).length = n := by rw [List.length_take]; omega
            rw [this, lt_false (Nat.le_refl _), bif_false]
        rw [hw, wrs (by omega)]
        cases axN a <;> cases (l.take n).any (fun b => a.fName == b.fName) <;> rfl
      · unfold ref10_Valid_L1
        rw [lt_false (Nat.le_refl _), bif_false]
    · rw [decide_eq_false h2]; simp
  · rw [decide_eq_false h1]; simp
end Go.Eng.Pure
namespace Go.Eng.Pure
open Go Go.Eng
set_option linter.unusedVariables false
theorem IxF_eq (ms : List Str) (f : Str → Option Bool) (p : Str → Bool) (hl : ms.length ≤ 1073741824) (h : ∀ m ∈ ms, f m = some (p m)) : slices_IndexFunc_string_string ms f = some (match ms.findIdx? p with | some i => (i : Int) | none => -1) := by
  have key : ∀ (k n : Nat), n + k = ms.length → whileO (slices_IndexFunc_string_string_L0 ms f) (n : Int) = some (match (ms.drop n).findIdx? p with | some i => .inr ((n + i : Nat) : Int) | none => .inl ()) := by
    intro k
    induction k with
    | zero =>
      intro n hn
      obtain rfl : n = ms.length := by omega
      rw [whileO_done (r := .inl ())]
      · rw [List.drop_length]; rfl
      · simp only [slices_IndexFunc_string_string_L0, lt_false (Nat.le_refl ms.length), bif_false]
    | succ k ih =>
      intro n hn
      have hlt : n < ms.length := by omega
      have hb : slices_IndexFunc_string_string_L0 ms f (n : Int) = some (if p ms[n] then .inr (.inr (n : Int)) else .inl ((n + 1 : Nat) : Int)) := by
        simp only [slices_IndexFunc_string_string_L0, lt_true hlt, bif_true, xnth_get hlt, some_bind, h _ (List.getElem_mem hlt), wrs (show n ≤ 4 * 1073741824 by omega)]
        cases p ms[n] <;> rfl
      rw [List.drop_eq_getElem_cons hlt, List.findIdx?_cons]
      cases hp : p ms[n] with
      | true =>
        rw [hp, if_pos rfl] at hb
        rw [whileO_done hb]; rfl
      | false =>
        rw [hp, if_neg (by decide)] at hb
        rw [whileO_next hb, ih (n + 1) (by omega)]
        cases hd : (ms.drop (n + 1)).findIdx? p with
        | none => rfl
        | some i => simp; omega
  have := key ms.length 0 (by omega)
  rw [show ((0 : Nat) : Int) = 0 from rfl, List.drop_zero] at this
  unfold slices_IndexFunc_string_string
  rw [this, some_bind]
  cases ms.findIdx? p with
  | none => rfl
  | some i => simp
def samV (a : GAxis) (k v : Str) : Bool := (formD (domF a.fName) v).1 == (formD (domF a.fName) k).1
def resL : List GAxis → List Str → List Str → Option (List Str)
  | a :: al, k :: kl, acc => match a.fValues.find? (samV a k) with | some v => resL al kl (acc ++ [v]) | none => none
  | _, _, acc => some acc
def resS (axes : List GAxis) (key : List Str) : List Str × Bool :=
  if key.length = axes.length then match resL axes key [] with | some l => (l, true) | none => ([], false) else ([], false)
theorem find_ix {α : Type} (p : α → Bool) (l : List α) : match l.findIdx? p with | some i => ∃ h : i < l.length, l.find? p = some l[i] | none => l.find? p = none := by
  induction l with
  | nil => rfl
  | cons x l ih =>
    rw [List.findIdx?_cons, List.find?_cons]
    cases hp : p x with
    | true => exact ⟨by simp, rfl⟩
    | false =>
      simp only [Bool.false_eq_true, if_false]
      cases hi : l.findIdx? p with
      | none => rw [hi] at ih; exact ih
      | some i =>
        rw [hi] at ih
        obtain ⟨h, e⟩ := ih
        exact ⟨by simp; omega, by rw [e]; rfl⟩
theorem res_loop (axes : List GAxis) (key : List Str) (hlen : key.length = axes.length) (hl : axes.length ≤ 1000) (ha : ∀ a ∈ axes, smA a ∧ a.fValues.length ≤ 1000) (hk : ∀ v ∈ key, v.length ≤ 1000000) :
    ∀ (k n : Nat) (m : List Str), n + k = axes.length → m.length = axes.length →
      whileO (variantkey_resolve_L0 axes key) ((n : Int), m) = some (match resL (axes.drop n) (key.drop n) (m.take n) with | some l => .inl l | none => .inr ([], false)) := by
  intro k
  induction k with
  | zero =>
    intro n m hn hm
    have : n = axes.length := by omega
    subst this
    have hb : variantkey_resolve_L0 axes key ((axes.length : Int), m) = some (.inr (.inl m)) := by
      unfold variantkey_resolve_L0
      simp only []
      rw [lt_false (Nat.le_refl _), bif_false]
    rw [whileO_done hb, List.drop_length, ← hm, List.take_length]; rfl
  | succ k ih =>
    intro n m hn hm
    have hlt : n < axes.length := by omega
    have hlt2 : n < key.length := by omega
    have hlt3 : n < m.length := by omega
    obtain ⟨hs, hv⟩ := ha _ (List.getElem_mem hlt)
    have hkn := hk _ (List.getElem_mem hlt2)
    rw [List.drop_eq_getElem_cons hlt, List.drop_eq_getElem_cons hlt2]
    unfold resL
    have hx := xnth_get hlt
    have hxk := xnth_get hlt2
    generalize axes[n] = a at *
    generalize key[n] = q at *
    have hix : slices_IndexFunc_string_string a.fValues (fun x0 => variantkey_resolve_1 x0 a key (n : Int)) = some (match a.fValues.findIdx? (samV a q) with | some i => (i : Int) | none => -1) := by
      refine IxF_eq _ _ _ (by omega) fun v hvm => ?_
      unfold variantkey_resolve_1
      rw [hxk, some_bind, VSame_eq _ _ _ (by have := hs.1; omega) (hs.2 v hvm) hkn, some_bind]
      rfl
    have hfi := find_ix (samV a q) a.fValues
    cases hfind : a.fValues.findIdx? (samV a q) with
    | none =>
      rw [hfind] at hfi hix
      have hb : variantkey_resolve_L0 axes key ((n : Int), m) = some (.inr (.inr ([], false))) := by
        unfold variantkey_resolve_L0
        simp only []
        rw [lt_true hlt, bif_true, hx, some_bind, hix, some_bind]
        rfl
      rw [whileO_done hb, hfi]
    | some i =>
      rw [hfind] at hfi hix
      obtain ⟨hi, he⟩ := hfi
      have hput : xput m (n : Int) a.fValues[i] = some (m.set n a.fValues[i]) := by unfold xput; rw [if_pos ⟨by omega, by omega⟩, Int.toNat_natCast]
      have hb : variantkey_resolve_L0 axes key ((n : Int), m) = some (.inl (((n + 1 : Nat) : Int), m.set n a.fValues[i])) := by
        unfold variantkey_resolve_L0
        simp only []
        rw [lt_true hlt, bif_true, hx, some_bind, hix, some_bind]
        show (bif decide ((i : Int) < 0) then _ else _) = _
        rw [show decide ((i : Int) < 0) = false from decide_eq_false (by omega), bif_false, xnth_get hi, some_bind, xnth_get hlt3, some_bind, hput, some_bind, wrs (by omega)]
      have e1 : (m.set n a.fValues[i]).take (n + 1) = m.take n ++ [a.fValues[i]] := by
        rw [take_succ_get (by rw [List.length_set]; exact hlt3), List.take_set_of_le (Nat.le_refl n), List.getElem_set_self]
      rw [whileO_next hb, ih (n + 1) _ (by omega) (by rw [List.length_set, hm]), e1, he]
theorem Resolve_eq (axes : List GAxis) (key : List Str) (hl : axes.length ≤ 1000) (ha : ∀ a ∈ axes, smA a ∧ a.fValues.length ≤ 1000) (hk : ∀ v ∈ key, v.length ≤ 1000000) : variantkey_resolve axes key = some (resS axes key) := by
  unfold variantkey_resolve resS
  rw [neI]
  by_cases hlen : key.length = axes.length
  · rw [show (key.length != axes.length) = false by simpa using hlen, bif_false, if_pos hlen]
    have hmk : xmake (key.length : Int) ([] : Str) = some (List.replicate key.length []) := by
      unfold xmake; rw [if_pos ⟨by omega, by omega⟩, Int.toNat_natCast]
    have := res_loop axes key hlen hl ha hk axes.length 0 (List.replicate key.length []) (by omega) (by rw [List.length_replicate, hlen])
    rw [show ((0 : Nat) : Int) = 0 from rfl, List.drop_zero, List.drop_zero, List.take_zero] at this
    rw [hmk, some_bind, this, some_bind]
    cases resL axes key [] <;> rfl
  · rw [show (key.length != axes.length) = true by simpa using hlen, bif_true, if_neg hlen]
end Go.Eng.Pure
namespace Go.Eng.Pure
open Go Go.Eng
set_option linter.unusedVariables false
theorem chk_pair {α : Type} (ok : List α → α → Bool) : ∀ (l prev : List α), chk ok prev l = true → ∀ j (hj : j < l.length), ok (prev ++ l.take j) l[j] = true
  | [], _, _, j, hj => absurd hj (by simp)
  | x :: l, prev, h, 0, hj => by
    unfold chk at h
    rw [Bool.and_eq_true] at h
    simpa using h.1
  | x :: l, prev, h, j + 1, hj => by
    unfold chk at h
    rw [Bool.and_eq_true] at h
    have := chk_pair ok l (prev ++ [x]) h.2 j (by simpa using hj)
    simpa using this
theorem axV_one {a : GAxis} (h : axV a = true) {i j : Nat} (hi : i < a.fValues.length) (hj : j < a.fValues.length) (he : (formD (domF a.fName) a.fValues[i]).1 = (formD (domF a.fName) a.fValues[j]).1) : i = j := by
  unfold axV at h
  rw [Bool.and_eq_true] at h
  have key : ∀ (i j : Nat) (hi : i < a.fValues.length) (hj : j < a.fValues.length), i < j → (formD (domF a.fName) a.fValues[i]).1 ≠ (formD (domF a.fName) a.fValues[j]).1 := by
    intro i j hi hj hij e
    have h2 := chk_pair _ _ _ h.2 j hj
    rw [List.nil_append] at h2
    unfold okV at h2
    rw [Bool.and_eq_true, Bool.not_eq_true', List.any_eq_false] at h2
    have h3 := h2.2 a.fValues[i] (by
      rw [List.mem_iff_getElem]
      exact ⟨i, by rw [List.length_take]; omega, by rw [List.getElem_take]⟩)
    exact h3 (by rw [e]; simp)
  rcases Nat.lt_trichotomy i j with hlt | rfl | hgt
  · exact absurd he (key i j hi hj hlt)
  · rfl
  · exact absurd he.symm (key j i hj hi hgt)
theorem kin_loop (axes : List GAxis) (keys : List (List Str)) (y n : Nat) (a : GAxis) (q : Str) (ks : List Str) (hx : xnth axes (n : Int) = some a) (hy : xnth keys (y : Int) = some ks) (hq : xnth ks (n : Int) = some q)
    (hs : smA a) (hv : a.fValues.length ≤ 1000) (hval : axV a = true) (hql : q.length ≤ 1000000) : ∀ (k j : Nat) (r : Int), j + k = a.fValues.length →
      whileO (ref10_ParseKeys_L1 axes keys (y : Int) (n : Int)) (r, (j : Int)) = some (match (a.fValues.drop j).findIdx? (samV a q) with | some i => ((j + i : Nat) : Int) | none => r) := by
  intro k
  induction k with
  | zero =>
    intro j r hj
    have : j = a.fValues.length := by omega
    subst this
    have hb : ref10_ParseKeys_L1 axes keys (y : Int) (n : Int) (r, (a.fValues.length : Int)) = some (.inr r) := by
      unfold ref10_ParseKeys_L1
      simp only []
      rw [hx, some_bind, lt_false (Nat.le_refl _), bif_false]
    rw [whileO_done hb, List.drop_length]; rfl
  | succ k ih =>
    intro j r hj
    have hlt : j < a.fValues.length := by omega
    have hm := hs.2 _ (List.getElem_mem hlt)
    have hb : ref10_ParseKeys_L1 axes keys (y : Int) (n : Int) (r, (j : Int)) = some (.inl (if samV a q a.fValues[j] then (j : Int) else r, ((j + 1 : Nat) : Int))) := by
      unfold ref10_ParseKeys_L1
      simp only []
      rw [hx, some_bind, lt_true hlt, bif_true, some_bind, hy, some_bind, hq, some_bind, some_bind, xnth_get hlt, some_bind, RSame_eq _ _ _ (by have := hs.1; omega) hql hm, some_bind, wrs (by omega)]
      have e : ((formD (domF a.fName) q).1 == (formD (domF a.fName) a.fValues[j]).1) = samV a q a.fValues[j] := by
        unfold samV; rw [Bool.eq_iff_iff, beq_iff_eq, beq_iff_eq]; exact ⟨Eq.symm, Eq.symm⟩
      rw [e]
      cases samV a q a.fValues[j] <;> rfl
    rw [whileO_next hb, ih (j + 1) _ (by omega), List.drop_eq_getElem_cons hlt, List.findIdx?_cons]
    cases hp : samV a q a.fValues[j] with
    | false =>
      simp only [Bool.false_eq_true, if_false]
      cases (a.fValues.drop (j + 1)).findIdx? (samV a q) with
      | none => rfl
      | some i =>
        show some (((j + 1 + i : Nat) : Int)) = some (((j + (i + 1) : Nat) : Int))
        rw [show j + 1 + i = j + (i + 1) by omega]
    | true =>
      have hnone : (a.fValues.drop (j + 1)).findIdx? (samV a q) = none := by
        rw [List.findIdx?_eq_none_iff]
        intro v hvm
        rw [Bool.eq_false_iff]
        intro hpv
        obtain ⟨i, hi, e⟩ := List.mem_iff_getElem.1 hvm
        rw [List.getElem_drop] at e
        have hi2 : j + 1 + i < a.fValues.length := by rw [List.length_drop] at hi; omega
        unfold samV at hp hpv
        rw [beq_iff_eq] at hp hpv
        have := axV_one hval hlt hi2 (by rw [hp, e, hpv])
        omega
      rw [hnone]; simp
theorem kax_loop (axes : List GAxis) (keys : List (List Str)) (y : Nat) (ks : List Str) (hy : xnth keys (y : Int) = some ks) (hlen : ks.length = axes.length) (hl : axes.length ≤ 1000) (ha : ∀ a ∈ axes, smA a ∧ a.fValues.length ≤ 1000 ∧ axV a = true) (hk : ∀ v ∈ ks, v.length ≤ 1000000) :
    ∀ (k n : Nat) (acc : List Str), n + k = axes.length → acc.length ≤ n →
      whileO (ref10_ParseKeys_L2 axes keys (y : Int)) (acc, (n : Int)) = some (match resL (axes.drop n) (ks.drop n) acc with | some l => .inl l | none => .inr (.inr (.inr ([], 11)))) := by
  intro k
  induction k with
  | zero =>
    intro n acc hn hac
    have : n = axes.length := by omega
    subst this
    have hb : ref10_ParseKeys_L2 axes keys (y : Int) (acc, (axes.length : Int)) = some (.inr (.inl acc)) := by
      unfold ref10_ParseKeys_L2
      simp only []
      rw [lt_false (Nat.le_refl _), bif_false]
    rw [whileO_done hb, List.drop_length]; rfl
  | succ k ih =>
    intro n acc hn hac
    have hlt : n < axes.length := by omega
    have hlt2 : n < ks.length := by omega
    obtain ⟨hs, hv, hval⟩ := ha _ (List.getElem_mem hlt)
    have hkn := hk _ (List.getElem_mem hlt2)
    rw [List.drop_eq_getElem_cons hlt, List.drop_eq_getElem_cons hlt2]
    unfold resL
    have hx := xnth_get hlt
    have hxk := xnth_get hlt2
    generalize axes[n] = a at *
    generalize ks[n] = q at *
    have hin := kin_loop axes keys y n a q ks hx hy hxk hs hv hval hkn a.fValues.length 0 (-1) (by omega)
    rw [show ((0 : Nat) : Int) = 0 from rfl, List.drop_zero] at hin
    have hfi := find_ix (samV a q) a.fValues
    cases hfind : a.fValues.findIdx? (samV a q) with
    | none =>
      rw [hfind] at hfi hin
      have hb : ref10_ParseKeys_L2 axes keys (y : Int) (acc, (n : Int)) = some (.inr (.inr (.inr (.inr ([], 11))))) := by
        unfold ref10_ParseKeys_L2
        simp only []
        rw [lt_true hlt, bif_true, hin, some_bind]
        rfl
      rw [whileO_done hb, hfi]
    | some i =>
      rw [hfind] at hfi hin
      obtain ⟨hi, he⟩ := hfi
      have hin : whileO (ref10_ParseKeys_L1 axes keys (y : Int) (n : Int)) (-1, 0) = some (i : Int) := by
        rw [hin]
        show some (((0 + i : Nat) : Int)) = _
        rw [Nat.zero_add]
      have hb : ref10_ParseKeys_L2 axes keys (y : Int) (acc, (n : Int)) = some (.inl (acc ++ [a.fValues[i]], ((n + 1 : Nat) : Int))) := by
        unfold ref10_ParseKeys_L2
        simp only []
        rw [lt_true hlt, bif_true, hin, some_bind]
        rw [show decide ((i : Int) < 0) = false from decide_eq_false (by omega), bif_false, hx, some_bind, xnth_get hi, some_bind, xapp_sm (by omega) (one_sm _), some_bind, wrs (by omega)]
      rw [whileO_next hb, ih (n + 1) _ (by omega) (by rw [List.length_append, List.length_singleton]; omega), he]
end Go.Eng.Pure
namespace Go.Eng.Pure
open Go Go.Eng
set_option linter.unusedVariables false
def sp (c : UInt8) : Bool := c == 32
def plB (c : UInt8) : Bool := !(([32, 9, 40, 41, 44, 34] : Str).contains c)
def qe : Str → Nat → Nat
  | [], i => i
  | c :: l, i => if c = 92 then (match l with | [] => i + 2 | _ :: l' => qe l' (i + 2)) else if c = 34 then i else qe l (i + 1)
theorem qe_shift (k : Nat) : ∀ (n : Nat) (l : Str) (i : Nat), l.length ≤ n → qe l (i + k) = qe l i + k := by
  intro n
  induction n with
  | zero =>
    intro l i h
    obtain rfl := List.eq_nil_of_length_eq_zero (Nat.le_zero.1 h)
    rfl
  | succ n ih =>
    intro l i h
    match l, h with
    | [], _ => rfl
    | [c], _ =>
      unfold qe
      split
      · simp only []; omega
      · split
        · rfl
        · unfold qe; omega
    | c :: d :: l', h =>
      simp only [List.length_cons] at h
      unfold qe
      split
      · simp only []
        rw [show i + k + 2 = i + 2 + k by omega, ih l' (i + 2) (by omega)]
      · split
        · rfl
        · rw [show i + k + 1 = i + 1 + k by omega, ih (d :: l') (i + 1) (by simp only [List.length_cons]; omega)]
theorem drop2 {s : Str} {i : Nat} (h : i < s.length) : (match s.drop (i + 1) with | [] => i + 2 | _ :: l' => qe l' (i + 2)) = qe (s.drop (i + 2)) (i + 2) := by
  by_cases h2 : i + 1 < s.length
  · rw [List.drop_eq_getElem_cons h2]
  · rw [List.drop_eq_nil_of_le (by omega), List.drop_eq_nil_of_le (by omega)]; rfl
theorem quo_loop (s : Str) (hs : s.length ≤ 1073741824) : ∀ (k i : Nat), s.length ≤ i + k → i ≤ s.length + 1 → whileO (group_quoted_L0 s) (i : Int) = some (if qe (s.drop i) i < s.length then .inr ((qe (s.drop i) i + 1 : Nat) : Int) else .inl ()) := by
  intro k
  induction k using Nat.strongRecOn with
  | ind k ih =>
    intro i hk hi
    by_cases hlt : i < s.length
    · have hc := xnth_get hlt
      rw [List.drop_eq_getElem_cons hlt]
      generalize s[i] = c at hc
      unfold qe
      by_cases h92 : c = 92
      · rw [if_pos h92, drop2 hlt]
        have hb : group_quoted_L0 s (i : Int) = some (.inl ((i + 2 : Nat) : Int)) := by
          unfold group_quoted_L0
          rw [lt_true hlt, bif_true, hc, some_bind, h92, wrs (by omega), wrs (by omega)]; rfl
        rw [whileO_next hb, ih (k - 2) (by omega) (i + 2) (by omega) (by omega)]
      · rw [if_neg h92]
        have e92 : (c == 92) = false := by simpa using h92
        by_cases h34 : c = 34
        · rw [if_pos h34, if_pos hlt]
          have hb : group_quoted_L0 s (i : Int) = some (.inr (.inr ((i + 1 : Nat) : Int))) := by
            unfold group_quoted_L0
            rw [lt_true hlt, bif_true, hc, some_bind, e92, bif_false, h34, wrs (by omega)]; rfl
          rw [whileO_done hb]
        · rw [if_neg h34]
          have e34 : (c == 34) = false := by simpa using h34
          have hb : group_quoted_L0 s (i : Int) = some (.inl ((i + 1 : Nat) : Int)) := by
            unfold group_quoted_L0
            rw [lt_true hlt, bif_true, hc, some_bind, e92, bif_false, e34, bif_false, wrs (by omega)]
          rw [whileO_next hb, ih (k - 1) (by omega) (i + 1) (by omega) (by omega)]
    · have hb : group_quoted_L0 s (i : Int) = some (.inr (.inl ())) := by
        unfold group_quoted_L0
        rw [lt_false (by omega), bif_false]
      rw [whileO_done hb, List.drop_eq_nil_of_le (by omega)]
      unfold qe
      rw [if_neg (by omega)]
theorem Quoted_eq (s : Str) (hs : s.length ≤ 1073741824) : group_quoted s = some (((if qe (s.drop 1) 1 < s.length then qe (s.drop 1) 1 + 1 else 0 : Nat)) : Int) := by
  unfold group_quoted
  have := quo_loop s hs s.length 1 (by omega) (by omega)
  rw [show ((1 : Nat) : Int) = 1 from rfl] at this
  rw [this, some_bind]
  by_cases h : qe (s.drop 1) 1 < s.length
  · rw [if_pos h, if_pos h]
  · rw [if_neg h, if_neg h]; rfl
theorem rquo_loop (s : Str) (hs : s.length ≤ 1073741824) : ∀ (k i : Nat), s.length ≤ i + k → i ≤ s.length + 1 → whileO (ref10_values_L0 s) (i : Int) = some ((qe (s.drop i) i : Nat) : Int) := by
  intro k
  induction k using Nat.strongRecOn with
  | ind k ih =>
    intro i hk hi
    by_cases hlt : i < s.length
    · have hc := xnth_get hlt
      rw [List.drop_eq_getElem_cons hlt]
      generalize s[i] = c at hc
      unfold qe
      by_cases h92 : c = 92
      · rw [if_pos h92, drop2 hlt]
        have hb : ref10_values_L0 s (i : Int) = some (.inl ((i + 2 : Nat) : Int)) := by
          unfold ref10_values_L0
          rw [lt_true hlt, bif_true, hc, some_bind, h92, some_bind, wrs (by omega), wrs (by omega)]; rfl
        rw [whileO_next hb, ih (k - 2) (by omega) (i + 2) (by omega) (by omega)]
      · rw [if_neg h92]
        have e92 : (c == 92) = false := by simpa using h92
        by_cases h34 : c = 34
        · rw [if_pos h34]
          have hb : ref10_values_L0 s (i : Int) = some (.inr (i : Int)) := by
            unfold ref10_values_L0
            rw [lt_true hlt, bif_true, hc, some_bind, h34]; rfl
          rw [whileO_done hb]
        · rw [if_neg h34]
          have e34 : (c != 34) = true := by simpa using h34
          have hb : ref10_values_L0 s (i : Int) = some (.inl ((i + 1 : Nat) : Int)) := by
            unfold ref10_values_L0
            rw [lt_true hlt, bif_true, hc, some_bind, e34, some_bind, bif_true, some_bind, e92, bif_false, wrs (by omega)]
          rw [whileO_next hb, ih (k - 1) (by omega) (i + 1) (by omega) (by omega)]
    · have hb : ref10_values_L0 s (i : Int) = some (.inr (i : Int)) := by
        unfold ref10_values_L0
        rw [lt_false (by omega), bif_false, some_bind, bif_false]
      rw [whileO_done hb, List.drop_eq_nil_of_le (by omega)]
      rfl
theorem ixAny_take (cs : Str) : ∀ s : Str, (Lib.indexAny s cs = -1 ∧ s.takeWhile (fun c => !cs.contains c) = s) ∨ (Lib.indexAny s cs = ((s.takeWhile (fun c => !cs.contains c)).length : Int) ∧ (s.takeWhile (fun c => !cs.contains c)).length < s.length)
  | [] => .inl ⟨rfl, rfl⟩
  | c :: s => by
    rw [Lib.indexAny, List.takeWhile_cons]
    cases hc : cs.contains c with
    | true => exact .inr ⟨by simp, by simp⟩
    | false =>
      rcases ixAny_take cs s with ⟨h1, h2⟩ | ⟨h1, h2⟩
      · refine .inl ⟨by rw [h1]; rfl, by rw [Bool.not_false, if_pos rfl, h2]⟩
      · refine .inr ⟨?_, by rw [Bool.not_false, if_pos rfl, List.length_cons, List.length_cons]; omega⟩
        rw [h1]
        have : (((s.takeWhile (fun c => !cs.contains c)).length : Int) == -1) = false := beq_eq_false_iff_ne.2 (by omega)
        simp only [this, Bool.false_eq_true, if_false, Bool.not_false, if_true, List.length_cons]
        push_cast; rfl
theorem Bare_eq (s : Str) (hs : s.length ≤ 1073741824) : group_bare s = some (((s.takeWhile plB).length : Nat) : Int) := by
  unfold group_bare strings_IndexAny
  rw [if_pos ⟨by decide, by decide, by decide, hs⟩, some_bind]
  rcases ixAny_take [32, 9, 40, 41, 44, 34] s with ⟨h1, h2⟩ | ⟨h1, h2⟩
  · rw [h1]
    show some ((s.length : Nat) : Int) = _
    have : s.takeWhile plB = s := h2
    rw [this]
  · rw [h1, decide_eq_true (by omega), bif_true]; rfl
theorem rbare_loop (s : Str) (hs : s.length ≤ 1073741824) : ∀ (k i : Nat), s.length = i + k → whileO (ref10_values_L1 s) (i : Int) = some ((i + ((s.drop i).takeWhile plB).length : Nat) : Int) := by
  intro k
  induction k with
  | zero =>
    intro i hk
    have hb : ref10_values_L1 s (i : Int) = some (.inr (i : Int)) := by
      unfold ref10_values_L1
      rw [lt_false (by omega), bif_false, some_bind, bif_false]
    rw [whileO_done hb, List.drop_eq_nil_of_le (by omega)]; rfl
  | succ k ih =>
    intro i hk
    have hlt : i < s.length := by omega
    have hc := xnth_get hlt
    rw [List.drop_eq_getElem_cons hlt, List.takeWhile_cons]
    generalize s[i] = c at hc
    have hp : ref10_plain c = some (plB c) := by
      unfold ref10_plain plB
      congr 1
      simp only [List.contains_cons, List.contains_nil, Bool.or_false, bne, Bool.not_or, Bool.and_assoc]
    cases hpl : plB c with
    | false =>
      have hb : ref10_values_L1 s (i : Int) = some (.inr (i : Int)) := by
        unfold ref10_values_L1
        rw [lt_true hlt, bif_true, hc, some_bind, hp, hpl, some_bind, some_bind, bif_false]
      rw [whileO_done hb]; rfl
    | true =>
      have hb : ref10_values_L1 s (i : Int) = some (.inl ((i + 1 : Nat) : Int)) := by
        unfold ref10_values_L1
        rw [lt_true hlt, bif_true, hc, some_bind, hp, hpl, some_bind, some_bind, bif_true, wrs (by omega)]
      rw [whileO_next hb, ih (i + 1) (by omega)]
      simp only [if_true, List.length_cons]
      congr 2; omega
def unitN (s : Str) : Nat := if s.head? = some 34 then (if qe (s.drop 1) 1 < s.length then qe (s.drop 1) 1 + 1 else 0) else (s.takeWhile plB).length
def badR (s : Str) : Bool := match s with | [] => false | c :: _ => c != 32
def unitV (s : Str) : Option (Str × Str) :=
  if unitN s = 0 then none else if badR (s.drop (unitN s)) then none
  else if s.head? = some 34 then (if (unq (s.take (unitN s))).2 then some ((unq (s.take (unitN s))).1, s.drop (unitN s)) else none) else some (s.take (unitN s), s.drop (unitN s))
def grd : Nat → Str → List Str → List Str × Bool
  | 0, _, out => (out, true)
  | k + 1, s, out => if s.dropWhile sp = [] then (out, true) else match unitV (s.dropWhile sp) with | none => ([], false) | some (v, r) => grd k r (out ++ [v])
theorem unitN_le (s : Str) : unitN s ≤ s.length := by
  unfold unitN
  split
  · split <;> omega
  · exact (List.takeWhile_sublist _).length_le
theorem unitV_lt {s v r : Str} (h : unitV s = some (v, r)) : r.length < s.length := by
  unfold unitV at h
  have hle := unitN_le s
  split at h
  · cases h
  · rename_i h0
    split at h
    · cases h
    · split at h
      · split at h
        · injection h with h; obtain ⟨_, rfl⟩ := Prod.mk.inj h; rw [List.length_drop]; omega
        · cases h
      · injection h with h; obtain ⟨_, rfl⟩ := Prod.mk.inj h; rw [List.length_drop]; omega
theorem dropW_le (s : Str) : (s.dropWhile sp).length ≤ s.length := (List.dropWhile_sublist _).length_le
theorem grd_fuel : ∀ (k k' : Nat) (s : Str) (out : List Str), s.length < k → s.length < k' → grd k s out = grd k' s out := by
  intro k
  induction k with
  | zero => intro k' s out h; exact absurd h (Nat.not_lt_zero _)
  | succ k ih =>
    intro k' s out h h'
    match k', h' with
    | k' + 1, h' =>
      unfold grd
      split
      · rfl
      · split
        · rfl
        · rename_i v r hu
          have h1 := unitV_lt hu
          have h2 := dropW_le s
          exact ih k' r _ (by omega) (by omega)
theorem grd_false : ∀ (k : Nat) (s : Str) (out : List Str), (grd k s out).2 = false → grd k s out = ([], false) := by
  intro k
  induction k with
  | zero => intro s out h; cases h
  | succ k ih =>
    intro s out h
    unfold grd at h ⊢
    split at h
    · cases h
    · rename_i hne
      rw [if_neg hne]
      cases hu : unitV (s.dropWhile sp) with
      | none => rfl
      | some p =>
        rw [hu] at h
        exact ih _ _ h
theorem TrimL_eq (s : Str) : strings_TrimLeft s [32] = some (s.dropWhile sp) := by
  unfold strings_TrimLeft
  cases s with
  | nil => rfl
  | cons c s =>
    have h1 : ((c :: s == []) || (([32] : Str) == [])) = false := rfl
    rw [h1, bif_false]
    show ((strings_trimLeftByte (c :: s) 32).bind fun r10 => some r10) = _
    unfold strings_trimLeftByte
    have := while_ltrim (strings_trimLeftByte_L0 32) sp (fun s c => by
      unfold strings_trimLeftByte_L0
      rw [pos_cons, bif_true, xnth_cons, some_bind, some_bind]
      have hx : xsub (c :: s) 1 ((c :: s).length : Int) = some s := by
        have := xsub_from (l := c :: s) (i := 1) (by simp)
        simpa using this
      rw [hx]
      unfold sp
      cases c == 32 <;> rfl) (by rfl) (c :: s)
    rw [this]; rfl
theorem head_cons (c : UInt8) (s : Str) : ((c :: s).head? = some 34) ↔ (c == 34) = true := by simp
theorem xsub0 (s : Str) (n : Nat) (h : n ≤ s.length) : xsub s 0 (n : Int) = some (s.take n) := xsub_to h
theorem Read_loop : ∀ (k : Nat) (s : Str) (out : List Str), s.length < k → k ≤ 1000000 → out.length + k ≤ 2000000 → whileO group_Read_L0 (s, out) = some (grd k s out) := by
  intro k
  induction k with
  | zero => intro s out h; exact absurd h (Nat.not_lt_zero _)
  | succ k ih =>
    intro s out h hk ho
    have hd := dropW_le s
    unfold grd
    have hT := TrimL_eq s
    by_cases hnil : s.dropWhile sp = []
    · rw [if_pos hnil]
      have hb : group_Read_L0 (s, out) = some (.inr (out, true)) := by
        unfold group_Read_L0
        simp only []
        rw [TrimL_eq, some_bind, hnil]; rfl
      rw [whileO_done hb]
    · rw [if_neg hnil]
      generalize s.dropWhile sp = t at *
      have hne : (t == []) = false := by simpa using hnil
      obtain ⟨c, t', rfl⟩ : ∃ c t', t = c :: t' := by cases t with
        | nil => exact absurd rfl hnil
        | cons c t' => exact ⟨c, t', rfl⟩
      have hN : ((bif c == 34 then (group_quoted (c :: t')).bind fun r43 => some r43 else some (((List.takeWhile plB (c :: t')).length : Nat) : Int))) = some ((unitN (c :: t') : Nat) : Int) := by
        unfold unitN
        by_cases h34 : (c == 34) = true
        · rw [h34, bif_true, Quoted_eq _ (by omega), some_bind, if_pos ((head_cons c t').2 h34)]
        · rw [Bool.not_eq_true] at h34
          rw [h34, bif_false, if_neg (by rw [head_cons, h34]; decide)]
      have hle := unitN_le (c :: t')
      have hB : (bif (((unitN (c :: t') : Nat) : Int) == 0) then some true else
          (bif decide (((unitN (c :: t') : Nat) : Int) < ((c :: t').length : Int)) then (xnth (c :: t') ((unitN (c :: t') : Nat) : Int)).bind fun c52 => some (c52 != 32) else some false).bind fun b53 => some b53) =
          some (decide (unitN (c :: t') = 0) || badR ((c :: t').drop (unitN (c :: t')))) := by
        generalize unitN (c :: t') = n at *
        by_cases h0 : n = 0
        · subst h0; rfl
        · rw [show (((n : Int) == 0) : Bool) = false from beq_eq_false_iff_ne.2 (by omega), bif_false, decide_eq_false h0, Bool.false_or]
          by_cases hlt : n < (c :: t').length
          · rw [lt_true hlt, bif_true, xnth_get hlt, some_bind, some_bind, List.drop_eq_getElem_cons hlt]; rfl
          · rw [lt_false (by omega), bif_false, some_bind, List.drop_eq_nil_of_le (by omega)]; rfl
      have hb : group_Read_L0 (s, out) = match unitV (c :: t') with | none => some (.inr ([], false)) | some (v, r) => some (.inl (r, out ++ [v])) := by
        unfold group_Read_L0
        simp only []
        rw [hT, some_bind, hne, bif_false, Bare_eq _ (by omega), some_bind, xnth_cons, some_bind, hN, some_bind, hB, some_bind]
        unfold unitV
        by_cases h0 : unitN (c :: t') = 0
        · rw [if_pos h0, decide_eq_true h0]; rfl
        · rw [if_neg h0, decide_eq_false h0, Bool.false_or]
          cases hbad : badR ((c :: t').drop (unitN (c :: t'))) with
          | true => rfl
          | false =>
            rw [bif_false, if_neg (by decide), xsub0 _ _ hle, some_bind, some_bind]
            have hux : (unq ((c :: t').take (unitN (c :: t')))).1.length ≤ (c :: t').length ∨ True := .inr trivial
            by_cases h34 : (c == 34) = true
            · rw [h34, bif_true, if_pos ((head_cons c t').2 h34), Unquote_eq _ (by rw [List.length_take]; omega), some_bind]
              cases hu : (unq ((c :: t').take (unitN (c :: t')))).2 with
              | false => rfl
              | true =>
                rw [Bool.not_true, bif_false, some_bind, if_pos rfl]
                simp only []
                rw [xapp_sm (by omega) (one_sm _), some_bind, xsub_from hle, some_bind]
            · rw [Bool.not_eq_true] at h34
              rw [h34, bif_false, some_bind, if_neg (by rw [head_cons, h34]; decide)]
              simp only []
              rw [xapp_sm (by omega) (one_sm _), some_bind, xsub_from hle, some_bind]
      cases hu : unitV (c :: t') with
      | none => rw [hu] at hb; rw [whileO_done hb]
      | some p =>
        obtain ⟨v, r⟩ := p
        rw [hu] at hb
        have h1 := unitV_lt hu
        rw [whileO_next hb, ih r _ (by omega) (by omega) (by rw [List.length_append, List.length_singleton]; omega)]
def grpS (s : Str) : List Str × Bool :=
  if s.length < 2 ∨ s.head? ≠ some 40 ∨ s.getLast? ≠ some 41 then ([], false) else grd (s.length + 1) ((s.drop 1).take (s.length - 2)) []
theorem grp_head (s : Str) (hs : s.length ≤ 100000) : (((bif decide ((s.length : Int) < 2) then some true else (xnth s 0).bind fun c3 => some (c3 != 40)).bind fun b4 =>
    (bif b4 then some true else (xnth s (wr ((s.length : Int) - 1))).bind fun c7 => some (c7 != 41))) : Option Bool) = some (decide (s.length < 2 ∨ s.head? ≠ some 40 ∨ s.getLast? ≠ some 41)) := by
  by_cases h2 : s.length < 2
  · rw [decide_eq_true (show (s.length : Int) < 2 by omega), bif_true, some_bind, bif_true, decide_eq_true (.inl h2)]
  · rw [decide_eq_false (show ¬ (s.length : Int) < 2 by omega), bif_false]
    obtain ⟨c, s', rfl⟩ : ∃ c s', s = c :: s' := by cases s with
      | nil => exact absurd (by simp) h2
      | cons c s' => exact ⟨c, s', rfl⟩
    rw [xnth_cons, some_bind, some_bind]
    by_cases hc : c = 40
    · subst hc
      rw [show ((40 : UInt8) != 40) = false from rfl, bif_false, wr_nat (by omega) (by simp only [List.length_cons] at *; omega)]
      rcases List.eq_nil_or_concat (40 :: s') with h | ⟨a, z, h⟩
      · cases h
      · rw [List.concat_eq_append] at h
        rw [h, xnth_lastw, some_bind, List.getLast?_concat]
        have hl : ¬ (a ++ [z]).length < 2 := by rw [← h]; exact h2
        have hh : (a ++ [z]).head? = some 40 := by rw [← h]; rfl
        by_cases hz : z = 41
        · subst hz; rw [show ((41 : UInt8) != 41) = false from rfl, decide_eq_false (by rw [hh]; simp at hl ⊢; omega)]
        · rw [show (z != 41) = true by simpa using hz, decide_eq_true (.inr (.inr (by simpa using hz)))]
    · rw [show (c != 40) = true by simpa using hc, bif_true, decide_eq_true (.inr (.inl (by simpa using hc)))]
theorem Read_eq (s : Str) (hs : s.length ≤ 100000) : group_Read s = some (grpS s) := by
  unfold group_Read grpS
  have hh := grp_head s hs
  rw [← Option.bind_assoc, hh, some_bind]
  by_cases h : s.length < 2 ∨ s.head? ≠ some 40 ∨ s.getLast? ≠ some 41
  · rw [if_pos h, decide_eq_true h]; rfl
  · rw [if_neg h, decide_eq_false h, bif_false]
    have h2 : 2 ≤ s.length := by omega
    have hx : xsub s 1 (wr ((s.length : Int) - 1)) = some ((s.drop 1).take (s.length - 2)) := by
      have hw := wr_pred (n := s.length) (by omega) (by omega)
      rw [hw]
      have := xsub_nat (l := s) (i := 1) (j := s.length - 1) ⟨by omega, by omega⟩
      rw [show ((1 : Nat) : Int) = 1 from rfl] at this
      rw [this, List.drop_take, show s.length - 1 - 1 = s.length - 2 by omega]
    rw [hx, some_bind, Read_loop (s.length + 1) _ [] (by rw [List.length_take, List.length_drop]; omega) (by omega) (by simp; omega), some_bind]
end Go.Eng.Pure
