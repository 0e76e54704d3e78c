/- The laws of layer 21 on lists of tags, in plain words. -/
import Derived.Test.YtggmjoffcdnplaaDoorEtagQ
namespace Go.Eng.Pure.Etag
open Go Go.Eng Go.Eng.Pure
set_option linter.unusedVariables false
theorem First_eq (l : List GField) (name : Str) (hl : l.length ≤ 1073741824) (hf : ∀ f ∈ l, smF f) (hn : name.length ≤ 1073741824) : fieldline_First l name = some (match getF l name with | v :: _ => (v, true) | [] => ([], false)) := by
  unfold fieldline_First
  rw [Get_eq l name hl hf hn, some_bind]
  cases getF l name with
  | nil => rfl
  | cons v r =>
    have : ((((v :: r).length : Nat) : Int) == 0) = false := by
      rw [Bool.eq_false_iff]; simp only [ne_eq, beq_iff_eq, List.length_cons]; omega
    rw [this]; rfl
theorem RFirst_eq (l : List GField) (name : Str) (hl : l.length ≤ 1073741824) (hf : ∀ f ∈ l, smF f) (hn : name.length ≤ 1073741824) : ref01_First l name = some (match getF l name with | v :: _ => (v, true) | [] => ([], false)) := by
  unfold ref01_First
  rw [RGet_eq l name hl hf hn, some_bind]
  cases getF l name with
  | nil => rfl
  | cons v r =>
    have : decide (0 < (((v :: r).length : Nat) : Int)) = true := decide_eq_true (by rw [List.length_cons]; omega)
    rw [this]; rfl
def ofF (l : List GField) : GETag × Bool := match getF l [69, 84, 97, 103] with | v :: _ => parseSpec v | [] => (⟨false, []⟩, false)
theorem Of_eq (l : List GField) (hl : l.length ≤ 1073741824) (hf : ∀ f ∈ l, smF f) : etag_Of l = some (ofF l) := by
  unfold etag_Of ofF
  rw [First_eq l _ hl hf (by decide), some_bind]
  have hs := getF_sm l [69, 84, 97, 103] 1073741824 (fun f h => (hf f h).2)
  cases hg : getF l [69, 84, 97, 103] with
  | nil => rfl
  | cons v r =>
    rw [hg] at hs
    have := hs v List.mem_cons_self
    show ((bif !true then _ else (etag_Parse v).bind fun r10 => some (r10.1, r10.2)) : Option (GETag × Bool)) = _
    rw [Bool.not_true, bif_false, EParse_eq v (by simp only [big]; omega)]; rfl
theorem ROf_eq (l : List GField) (hl : l.length ≤ 1073741824) (hf : ∀ f ∈ l, smF f) : ref19_ETagOf l = some (ofF l) := by
  unfold ref19_ETagOf ofF
  rw [RFirst_eq l _ hl hf (by decide), some_bind]
  have hs := getF_sm l [69, 84, 97, 103] 1073741824 (fun f h => (hf f h).2)
  cases hg : getF l [69, 84, 97, 103] with
  | nil => rfl
  | cons v r =>
    rw [hg] at hs
    have := hs v List.mem_cons_self
    show ((bif !true then _ else (ref19_ParseETag v).bind fun r10 => some (r10.1, r10.2)) : Option (GETag × Bool)) = _
    rw [Bool.not_true, bif_false, RefParse_eq v (by simp only [big]; omega)]; rfl
/-- One member. -/
def tagStep (out : List GETag) (m : Str) : List GETag ⊕ (List GETag ⊕ (List GETag × Bool × Bool)) := if (parseSpec m).2 then .inl (out ++ [(parseSpec m).1]) else .inr (.inr ([], false, false))
def tagsOf (l : List Str) : List GETag ⊕ (List GETag × Bool × Bool) := run tagStep .inl l []
def listF (l : List GField) (name : Str) : List GETag × Bool × Bool :=
  if allM l name = [[42]] then ([], true, true) else if (allM l name).length = 0 ∨ 64 ≤ (allM l name).length then ([], false, false) else match tagsOf (allM l name) with | .inl o => (o, false, true) | .inr r => r
theorem tags_loop (m : List Str) (hm : m.length ≤ 64) (hs : ∀ x ∈ m, x.length ≤ 1073741824) (parse : Str → Option (GETag × Bool)) (hp : ∀ x : Str, x.length ≤ 1073741824 → parse x = some (parseSpec x)) (body : (List GETag × Int) → Option ((List GETag × Int) ⊕ (List GETag ⊕ (List GETag × Bool × Bool))))
    (hb : ∀ o i, body (o, i) = (bif decide (i < (m.length : Int)) then (xnth m i).bind fun x => (parse x).bind fun r => (bif !r.2 then some (.inr (.inr (([] : List GETag), false, false))) else (xapp o ([r.1] : List GETag)).bind fun l => some (.inl (l, wr (i + 1)))) else some (.inr (.inl o)))) :
    whileO body ([], 0) = some (tagsOf m) := by
  refine while_run0 (fun (o : List GETag) (i : Int) => (o, i)) m tagStep .inl body (fun n o => o.length ≤ n) [] (Nat.le_refl _) (fun n hn o ho => ?_) (fun o _ => ?_)
  · have h1 := hs _ (List.getElem_mem hn)
    rw [hb, lt_true hn, bif_true, xnth_get hn, some_bind, hp _ h1, some_bind, xapp_sm (by omega) (one_sm _), some_bind, wrs (by omega)]
    unfold tagStep
    cases hpp : (parseSpec m[n]).2 with
    | true => exact ⟨rfl, fun st' h => by simp at h; subst h; rw [List.length_append, List.length_singleton]; omega⟩
    | false => exact ⟨rfl, fun st' h => by simp at h⟩
  · rw [hb, lt_false (Nat.le_refl m.length), bif_false]
theorem allM_sm (l : List GField) (name : Str) (hf : ∀ f ∈ l, smF f) : ∀ x ∈ allM l name, x.length ≤ 1073741824 := by
  intro x hx
  have h1 := List.mem_of_mem_take hx
  rw [List.mem_flatMap] at h1
  obtain ⟨v, hv, hx⟩ := h1
  exact Nat.le_trans (split_sm v x hx) (getF_sm l name 1073741824 (fun f h => (hf f h).2) v hv)
theorem list_shape (m : List Str) (hm : m.length ≤ 64) (w : Option (List GETag ⊕ (List GETag × Bool × Bool))) (hw : w = some (tagsOf m)) :
    ((bif (m.length : Int) == 1 then (xnth m 0).bind fun x9 => some (x9 == [42]) else some false).bind fun b12 =>
      (bif b12 then some (([] : List GETag), true, true) else
        (bif (((m.length : Int) == 0) || (decide (64 ≤ (m.length : Int)))) then some (([] : List GETag), false, false) else
          w.bind fun r34 => match r34 with
            | .inr e => some e
            | .inl out_27 => some (out_27, false, true)))) =
    some (if m = [[42]] then ([], true, true) else if m.length = 0 ∨ 64 ≤ m.length then ([], false, false) else match tagsOf m with | .inl o => (o, false, true) | .inr r => r) := by
  subst hw
  have h0 : (((m.length : Int) == 0) || (decide (64 ≤ (m.length : Int)))) = decide (m.length = 0 ∨ 64 ≤ m.length) := by
    rw [Bool.eq_iff_iff]; simp only [Bool.or_eq_true, beq_iff_eq, decide_eq_true_eq]; omega
  rw [h0]
  have h1 : (bif (m.length : Int) == 1 then (xnth m 0).bind fun x9 => some (x9 == [42]) else some false) = some (decide (m = [[42]])) := by
    match m with
    | [] => rfl
    | [x] =>
      show some (x == [42]) = _
      congr 1
      rw [Bool.eq_iff_iff]; simp
    | a :: b :: r =>
      have : ((((a :: b :: r).length : Nat) : Int) == 1) = false := by
        rw [Bool.eq_false_iff]; simp only [ne_eq, beq_iff_eq, List.length_cons]; omega
      rw [this]; simp
  rw [h1, some_bind]
  by_cases hc : m = [[42]]
  · simp [hc]
  · by_cases hc2 : m.length = 0 ∨ 64 ≤ m.length
    · simp only [hc, hc2, decide_false, decide_true, bif_true, bif_false, if_false, if_true, some_bind]
    · simp only [hc, hc2, decide_false, bif_false, if_false, some_bind]
      cases tagsOf m <;> rfl
theorem List_eq (l : List GField) (name : Str) (hl : l.length ≤ 1073741824) (hf : ∀ f ∈ l, smF f) (hn : name.length ≤ 1073741824) : etag_List l name = some (listF l name) := by
  unfold etag_List listF
  rw [All_eq l name hl hf hn, some_bind]
  have h1 := allM_len l name
  have h2 := allM_sm l name hf
  generalize allM l name = m at h1 h2 ⊢
  exact list_shape m h1 _ (tags_loop m h1 h2 etag_Parse (fun x hx => EParse_eq x (by simp only [big]; omega)) (etag_List_L0 m) (fun o i => rfl))
theorem RList_eq (l : List GField) (name : Str) (hl : l.length ≤ 1073741824) (hf : ∀ f ∈ l, smF f) (hn : name.length ≤ 1073741824) : ref19_ETagList l name = some (listF l name) := by
  unfold ref19_ETagList listF
  rw [RAll_eq l name hl hf hn, some_bind]
  have h1 := allM_len l name
  have h2 := allM_sm l name hf
  generalize allM l name = m at h1 h2 ⊢
  exact list_shape m h1 _ (tags_loop m h1 h2 ref19_ParseETag (fun x hx => RefParse_eq x (by simp only [big]; omega)) (ref19_ETagList_L0 m) (fun o i => rfl))
theorem tag_eta (a b : GETag) : ((a.fWeak == b.fWeak) && ((a.fTag == b.fTag) && true)) = decide (a = b) := by
  obtain ⟨w, t⟩ := a; obtain ⟨w', t'⟩ := b
  rw [Bool.eq_iff_iff]; simp
theorem SameTags_eq (a b : List GETag) (ha : a.length ≤ 1073741824) : keep_SameTags a b = some (decide (a = b)) := by
  unfold keep_SameTags
  rw [neI]
  by_cases hl : a.length = b.length
  · have e : (a.length != b.length) = false := by simp [hl]
    rw [e, bif_false, while_same a b (keep_SameTags_L0 a b) hl]
    · by_cases h : a = b
      · simp [h]
      · simp [h]
    · intro n hn hb
      simp only [keep_SameTags_L0, lt_true hn, bif_true, xnth_get hn, xnth_get hb, some_bind, wrs (show n ≤ 4 * 1073741824 by omega), tag_eta]
      by_cases he : a[n] = b[n]
      · simp [he]
      · simp [he]
    · simp only [keep_SameTags_L0, lt_false (Nat.le_refl a.length), bif_false]
  · have e : (a.length != b.length) = true := by simp [hl]
    have e2 : decide (a = b) = false := by
      rw [decide_eq_false_iff_not]; intro h; exact hl (by rw [h])
    rw [e, e2]; rfl
theorem tags_len (l : List Str) : ∀ o, (match run tagStep .inl l o with | .inl r => r.length | .inr r => r.1.length) ≤ o.length + l.length := by
  induction l with
  | nil => intro o; exact Nat.le_refl _
  | cons x l ih =>
    intro o
    cases hp : (parseSpec x).2 with
    | true =>
      have h1 := ih (o ++ [(parseSpec x).1])
      rw [List.length_append, List.length_singleton] at h1
      have h2 : tagStep o x = .inl (o ++ [(parseSpec x).1]) := by unfold tagStep; rw [hp]; rfl
      rw [run, h2, List.length_cons]
      exact Nat.le_trans h1 (by omega)
    | false =>
      have h2 : tagStep o x = .inr (.inr ([], false, false)) := by unfold tagStep; rw [hp]; rfl
      rw [run, h2]
      exact Nat.zero_le _
theorem listF_len (l : List GField) (name : Str) : (listF l name).1.length ≤ 64 := by
  unfold listF
  split
  · simp
  · split
    · simp
    · have h1 := tags_len (allM l name) []
      have h2 := allM_len l name
      unfold tagsOf
      cases hr : run tagStep .inl (allM l name) [] with
      | inl o => rw [hr] at h1; simp only [List.length_nil] at h1 ⊢; omega
      | inr r => rw [hr] at h1; simp only [List.length_nil] at h1 ⊢; omega
theorem EtagLists_true (l : List GField) (name : Str) : law21_EtagLists l name = some true := by
  unfold law21_EtagLists
  rw [keep_Fields_eq, some_bind]
  cases hk : keepF l with
  | false => rfl
  | true =>
    obtain ⟨h1, h2⟩ := smF_of hk
    cases hn : decide (100 < (name.length : Int)) with
    | true => rfl
    | false =>
      have hn : name.length ≤ 1073741824 := by simp at hn; omega
      simp only [Bool.not_true, Bool.or_self, bif_false]
      have h3 := listF_len l name
      rw [Of_eq l h1 h2, ROf_eq l h1 h2, List_eq l name h1 h2 hn, RList_eq l name h1 h2 hn]
      simp only [some_bind]
      rw [SameTags_eq _ _ (by omega), awake21]
      simp
/-! the distribution over lines -/
theorem Index_eq (s : Str) (c : UInt8) (hs : s.length ≤ 1073741824) : ∀ (k n : Nat), n + k = s.length → ref01_Index s c (n : Int) = some (if c ∈ s.drop n then ((n + (s.drop n).idxOf c : Nat) : Int) else -1) := by
  have key : ∀ (k n : Nat), n + k = s.length → whileO (ref01_Index_L0 s c) (n : Int) = some (if c ∈ s.drop n then .inr ((n + (s.drop n).idxOf c : Nat) : Int) else .inl ()) := by
    intro k
    induction k with
    | zero =>
      intro n hn
      obtain rfl : n = s.length := by omega
      rw [List.drop_length]
      refine (whileO_done (r := .inl ()) ?_).trans (by simp)
      simp only [ref01_Index_L0, lt_false (Nat.le_refl s.length), bif_false]
    | succ k ih =>
      intro n hn
      have hlt : n < s.length := by omega
      rw [List.drop_eq_getElem_cons hlt]
      by_cases hc : s[n] = c
      · rw [whileO_done (r := .inr (n : Int))]
        · simp [hc]
        · simp only [ref01_Index_L0, lt_true hlt, bif_true, xnth_get hlt, some_bind, hc, beq_self_eq_true]
      · have hb : ref01_Index_L0 s c (n : Int) = some (.inl ((n + 1 : Nat) : Int)) := by
          have : (s[n] == c) = false := by simpa using hc
          simp only [ref01_Index_L0, lt_true hlt, xnth_get hlt, bif_true, some_bind, this, bif_false, wrs (show n ≤ 4 * 1073741824 by omega)]
        rw [whileO_next hb, ih (n + 1) (by omega)]
        have e1 : (c ∈ s[n] :: s.drop (n + 1)) ↔ c ∈ s.drop (n + 1) := by
          rw [List.mem_cons]; exact ⟨fun h => h.resolve_left (fun h => hc h.symm), .inr⟩
        by_cases hm : c ∈ s.drop (n + 1)
        · have e2 : (s[n] == c) = false := by simpa using hc
          rw [if_pos hm, if_pos (e1.2 hm), List.idxOf_cons, e2, bif_false]
          congr 3; omega
        · rw [if_neg hm, if_neg (fun h => hm (e1.1 h))]
  intro k n hn
  unfold ref01_Index
  rw [key k n hn, some_bind]
  by_cases hm : c ∈ s.drop n
  · rw [if_pos hm, if_pos hm]
  · rw [if_neg hm, if_neg hm]
/-- The n-th tag's text. -/
def tagN (l : List Str) (n : Nat) : GETag := ⟨n % 2 == 1, l.getD n []⟩
def txtN (l : List Str) (n : Nat) : Str := formatSpec (tagN l n)
def txts (l : List Str) (n : Nat) : List Str := (List.range n).map (txtN l)
def goodN (l : List Str) (n : Nat) : Bool := tagOK (tagN l n).fTag && !((txtN l n).contains 92)
theorem txts_succ (l : List Str) (n : Nat) : txts l (n + 1) = txts l n ++ [txtN l n] := by simp [txts, List.range_succ]
theorem txts_len (l : List Str) (n : Nat) : (txts l n).length = n := by simp [txts]
theorem format_ne (e : GETag) : (formatSpec e == []) = !tagOK e.fTag := by
  unfold formatSpec
  cases tagOK e.fTag
  · rfl
  · cases e.fWeak <;> rfl
theorem format_len (e : GETag) : (formatSpec e).length ≤ e.fTag.length + 4 := by
  unfold formatSpec
  split
  · split <;> simp
  · simp
theorem EtagLines_L0_eq (l : List Str) (c n : Nat) (hl : l.length ≤ 20) (hs : ∀ s ∈ l, s.length ≤ 100) (hn : n < l.length) :
    law21_EtagLines_L0 l (c : Int) ((txts l n).take c, (txts l n).drop c, (n : Int)) = some (if goodN l n then .inl ((txts l (n + 1)).take c, (txts l (n + 1)).drop c, ((n + 1 : Nat) : Int)) else .inr (.inr true)) := by
  have e1 : xrem (n : Int) 2 = some ((n % 2 : Nat) : Int) := by
    unfold xrem
    rw [if_neg (by decide), Int.tmod_eq_emod_of_nonneg (by omega)]; rfl
  have e2 : ((((n % 2 : Nat) : Int)) == 1) = (n % 2 == 1) := by
    rw [Bool.eq_iff_iff]; simp only [beq_iff_eq]; omega
  have h1 := hs _ (List.getElem_mem hn)
  have e3 : (⟨n % 2 == 1, l[n]⟩ : GETag) = tagN l n := by
    unfold tagN; rw [List.getD_eq_getElem?_getD, List.getElem?_eq_getElem hn]; rfl
  have e4 : (tagN l n).fTag = l[n] := by rw [← e3]
  have h2 := format_len (tagN l n)
  rw [e4] at h2
  have h3 := txts_len l n
  have h4 : ((txts l n).take c).length ≤ n := by rw [List.length_take]; omega
  have h5 : ((txts l n).drop c).length ≤ n := by rw [List.length_drop]; omega
  rw [law21_EtagLines_L0]
  rw [lt_true hn, bif_true, e1, some_bind, xnth_get hn, some_bind, e2, e3, RefFormat_eq _ (by rw [e4]; omega), some_bind, format_ne]
  cases hk : tagOK (tagN l n).fTag with
  | false => simp [goodN, hk]
  | true =>
    have hi := Index_eq (txtN l n) 92 (by unfold txtN; omega) (txtN l n).length 0 (by omega)
    have hi : ref01_Index (formatSpec (tagN l n)) 92 0 = some (if (92 : UInt8) ∈ (txtN l n).drop 0 then ((0 + ((txtN l n).drop 0).idxOf 92 : Nat) : Int) else -1) := hi
    rw [Bool.not_true, bif_false, hi, some_bind, some_bind]
    simp only [List.drop_zero]
    by_cases hm : (92 : UInt8) ∈ txtN l n
    · have : decide ((0 : Int) ≤ ((0 + (txtN l n).idxOf 92 : Nat) : Int)) = true := decide_eq_true (by omega)
      rw [if_pos hm, this]
      simp [goodN, hm]
    · rw [if_neg hm]
      have hg : goodN l n = true := by simp [goodN, hk, hm]
      have e5 : decide ((0 : Int) ≤ -1) = false := rfl
      rw [e5, bif_false, hg, if_pos rfl, wrs (by omega), lt_nat, txts_succ]
      by_cases hc : n < c
      · rw [decide_eq_true hc, bif_true, xapp_sm (by omega) (one_sm _), some_bind]
        have e6 : (txts l n ++ [txtN l n]).take c = (txts l n).take c ++ [txtN l n] := by
          rw [List.take_of_length_le (by rw [List.length_append, h3]; simp; omega), List.take_of_length_le (by omega)]
        have e7 : (txts l n ++ [txtN l n]).drop c = (txts l n).drop c := by
          rw [List.drop_eq_nil_of_le (by rw [List.length_append, h3]; simp; omega), List.drop_eq_nil_of_le (by omega)]
        rw [e6, e7]; rfl
      · rw [decide_eq_false hc, bif_false, xapp_sm (by omega) (one_sm _), some_bind]
        have e6 : (txts l n ++ [txtN l n]).take c = (txts l n).take c := List.take_append_of_le_length (by omega)
        have e7 : (txts l n ++ [txtN l n]).drop c = (txts l n).drop c ++ [txtN l n] := List.drop_append_of_le_length (by omega)
        rw [e6, e7]; rfl
theorem EtagLines_loop (l : List Str) (c : Nat) (hl : l.length ≤ 20) (hs : ∀ s ∈ l, s.length ≤ 100) :
    whileO (law21_EtagLines_L0 l (c : Int)) ([], [], 0) = some (if (List.range l.length).all (goodN l) then .inl ((txts l l.length).take c, (txts l l.length).drop c) else .inr true) := by
  have key : ∀ (k n : Nat), n + k = l.length → whileO (law21_EtagLines_L0 l (c : Int)) ((txts l n).take c, (txts l n).drop c, (n : Int)) = some (if (List.range' n k).all (goodN l) then .inl ((txts l l.length).take c, (txts l l.length).drop c) else .inr true) := by
    intro k
    induction k with
    | zero =>
      intro n hn
      obtain rfl : n = l.length := by omega
      refine (whileO_done (r := .inl ((txts l l.length).take c, (txts l l.length).drop c)) ?_).trans (by simp)
      rw [law21_EtagLines_L0]
      rw [lt_false (Nat.le_refl l.length), bif_false]
    | succ k ih =>
      intro n hn
      have hb := EtagLines_L0_eq l c n hl hs (by omega)
      rw [List.range'_succ, List.all_cons]
      cases hg : goodN l n with
      | true =>
        rw [hg, if_pos rfl] at hb
        rw [whileO_next hb, ih (n + 1) (by omega), Bool.true_and]
      | false =>
        rw [hg, if_neg (by decide)] at hb
        rw [whileO_done hb, Bool.false_and, if_neg (by decide)]
  have := key l.length 0 (by omega)
  rw [List.range_eq_range']
  have e : (([] : List Str), ([] : List Str), (0 : Int)) = ((txts l 0).take c, (txts l 0).drop c, ((0 : Nat) : Int)) := by simp [txts]
  rw [e]; exact this
theorem tag_scan (x : Str) (hx : tagOK x = true) (h92 : (92 : UInt8) ∉ x) : scan 44 1 (x ++ [34]) = some 0 := by
  induction x with
  | nil => rfl
  | cons c r ih =>
    unfold tagOK at hx
    rw [List.any_cons, Bool.not_or, Bool.and_eq_true] at hx
    have hc : c ≠ 34 := by intro h; subst h; exact absurd hx.1 (by decide)
    have hc2 : c ≠ 92 := fun h => h92 (by rw [h]; exact List.mem_cons_self)
    show (if (1 : Nat) = 0 ∧ c = 44 then none else scan 44 (step 1 c) (r ++ [34])) = some 0
    have : step 1 c = 1 := by unfold step; rw [if_neg (by decide), if_neg (by simp [hc2]), if_neg hc]
    rw [if_neg (by simp), this]
    exact ih (by unfold tagOK; exact hx.2) (fun h => h92 (List.mem_cons_of_mem _ h))
theorem good_scan {l : List Str} {n : Nat} (h : goodN l n = true) : scan 44 0 (txtN l n) = some 0 ∧ txtN l n ≠ [] ∧ trim (txtN l n) = txtN l n ∧ txtN l n ≠ [42] ∧ parseSpec (txtN l n) = (tagN l n, true) := by
  unfold goodN at h
  rw [Bool.and_eq_true, Bool.not_eq_true'] at h
  obtain ⟨h1, h2⟩ := h
  have h3 : (92 : UInt8) ∉ txtN l n := by simpa using h2
  refine ⟨?_, ?_, ?_, ?_, format_parse _ h1⟩
  all_goals
    unfold txtN formatSpec at *
    rw [if_pos h1] at *
    generalize hx : (tagN l n).fTag = x at *
  · cases hw : (tagN l n).fWeak with
    | true =>
      rw [hw, if_pos rfl] at h3
      have h92 : (92 : UInt8) ∉ x := fun h => h3 (by simp [h])
      rw [if_pos rfl]
      exact tag_scan x h1 h92
    | false =>
      rw [hw, if_neg (by decide)] at h3
      have h92 : (92 : UInt8) ∉ x := fun h => h3 (by simp [h])
      rw [if_neg (by decide)]
      exact tag_scan x h1 h92
  · split <;> simp
  · have key : ∀ (a : UInt8) (y : Str), bl a = false → trim (a :: (y ++ [34])) = a :: (y ++ [34]) := by
      intro a y ha
      have e1 : rtrim bl ((a :: y) ++ [34]) = (a :: y) ++ [34] := by rw [rtrim_snoc]; rfl
      unfold trim
      rw [show a :: (y ++ [34]) = (a :: y) ++ [34] from rfl, e1]
      show ltrim bl (a :: (y ++ [34])) = _
      unfold ltrim
      rw [List.dropWhile_cons, if_neg (by rw [ha]; decide)]; rfl
    split
    · exact key 87 (47 :: 34 :: x) (by decide)
    · exact key 34 x (by decide)
  · split <;> simp
theorem split_txts (l : List Str) (t : List Str) (ht : ∀ x ∈ t, ∃ n, goodN l n = true ∧ x = txtN l n) (hl : t.length ≤ 64) : split (join t) = t := by
  refine split_join t ?_ ?_ ?_ hl
  all_goals
    intro m hm
    obtain ⟨n, hg, rfl⟩ := ht m hm
    have := good_scan hg
  · exact this.1
  · exact this.2.1
  · exact this.2.2.1
theorem tags_run (l : List Str) (n : Nat) (hg : ∀ i, i < n → goodN l i = true) : tagsOf (txts l n) = .inl ((List.range n).map (tagN l)) := by
  have key : ∀ (t : List Nat) (o : List GETag), (∀ i ∈ t, goodN l i = true) → run tagStep (.inl : List GETag → List GETag ⊕ (List GETag × Bool × Bool)) (t.map (txtN l)) o = .inl (o ++ t.map (tagN l)) := by
    intro t
    induction t with
    | nil => intro o _; simp [run]
    | cons i t ih =>
      intro o h
      have hp := (good_scan (h i List.mem_cons_self)).2.2.2.2
      rw [List.map_cons, run]
      have : tagStep o (txtN l i) = .inl (o ++ [tagN l i]) := by unfold tagStep; rw [hp]; rfl
      rw [this]
      show run tagStep .inl (t.map (txtN l)) (o ++ [tagN l i]) = _
      rw [ih _ fun i hi => h i (List.mem_cons_of_mem _ hi)]
      simp
  have := key (List.range n) [] (fun i hi => hg i (List.mem_range.1 hi))
  rw [List.nil_append] at this
  exact this
theorem EtagLines_true (l : List Str) (c : Int) : law21_EtagLines l c = some true := by
  unfold law21_EtagLines
  rw [keep_Strings_eq, some_bind]
  cases hg : ((((!keepS l) || (decide ((l.length : Int) < 1))) || (decide (c < 0))) || (decide ((l.length : Int) < c))) with
  | true => rfl
  | false =>
    simp only [Bool.or_eq_false_iff, Bool.not_eq_false', decide_eq_false_iff_not] at hg
    obtain ⟨⟨⟨hk, h1⟩, h2⟩, h3⟩ := hg
    obtain ⟨hl, hs⟩ := keepS_sm hk
    obtain ⟨k, rfl⟩ : ∃ k : Nat, c = (k : Int) := ⟨c.toNat, by omega⟩
    rw [bif_false, EtagLines_loop l k hl hs, some_bind]
    cases ha : (List.range l.length).all (goodN l) with
    | false => rfl
    | true =>
      rw [if_pos rfl]
      have hgood : ∀ i, i < l.length → goodN l i = true := fun i hi => List.all_eq_true.1 ha i (List.mem_range.2 hi)
      have hmem : ∀ x ∈ txts l l.length, ∃ n, goodN l n = true ∧ x = txtN l n := by
        intro x hx
        obtain ⟨i, hi, rfl⟩ := List.mem_map.1 hx
        exact ⟨i, hgood i (List.mem_range.1 hi), rfl⟩
      have hlen := txts_len l l.length
      have hxs : ∀ x ∈ txts l l.length, x.length ≤ 104 := by
        intro x hx
        obtain ⟨i, hi, rfl⟩ := List.mem_map.1 hx
        have h5 := format_len (tagN l i)
        have h6 : (tagN l i).fTag.length ≤ 100 := by
          have hi' := List.mem_range.1 hi
          show (l.getD i []).length ≤ 100
          rw [List.getD_eq_getElem?_getD, List.getElem?_eq_getElem hi']
          exact hs _ (List.getElem_mem hi')
        unfold txtN; omega
      generalize hP : (txts l l.length).take k = p
      generalize hQ : (txts l l.length).drop k = q
      have hpq : p ++ q = txts l l.length := by rw [← hP, ← hQ, List.take_append_drop]
      have hpl : p.length ≤ 20 := by rw [← hP, List.length_take]; omega
      have hql : q.length ≤ 20 := by rw [← hQ, List.length_drop]; omega
      have hpm : ∀ x ∈ p, x ∈ txts l l.length := fun x hx => by rw [← hpq]; exact List.mem_append_left _ hx
      have hqm : ∀ x ∈ q, x ∈ txts l l.length := fun x hx => by rw [← hpq]; exact List.mem_append_right _ hx
      have hjp := join_len p 104 (fun x hx => hxs x (hpm x hx))
      have hjq := join_len q 104 (fun x hx => hxs x (hqm x hx))
      have hp2 : (join p).length ≤ 3000 := by have : (104 + 2) * p.length ≤ (104 + 2) * 20 := Nat.mul_le_mul_left _ hpl; omega
      have hq2 : (join q).length ≤ 3000 := by have : (104 + 2) * q.length ≤ (104 + 2) * 20 := Nat.mul_le_mul_left _ hql; omega
      have hsp := split_txts l p (fun x hx => hmem x (hpm x hx)) (by omega)
      have hsq := split_txts l q (fun x hx => hmem x (hqm x hx)) (by omega)
      show ((ref01_Join p).bind fun r92 => (ref01_Join q).bind fun r97 => _) = _
      rw [RJoin_eq p (by omega) (by omega), some_bind, RJoin_eq q (by omega) (by omega), some_bind]
      have hF : ∀ f ∈ ([⟨[73, 102, 45, 78, 111, 110, 101, 45, 77, 97, 116, 99, 104], join p⟩, ⟨[105, 102, 45, 110, 111, 110, 101, 45, 109, 97, 116, 99, 104], join q⟩] : List GField), smF f := by
        intro f hf
        simp only [List.mem_cons, List.not_mem_nil, or_false] at hf
        rcases hf with rfl | rfl
        · exact ⟨show (13 : Nat) ≤ _ by omega, show (join p).length ≤ _ by omega⟩
        · exact ⟨show (13 : Nat) ≤ _ by omega, show (join q).length ≤ _ by omega⟩
      rw [List_eq _ _ (show (2 : Nat) ≤ _ by omega) hF (show (13 : Nat) ≤ _ by omega), some_bind]
      have hall : allM [⟨[73, 102, 45, 78, 111, 110, 101, 45, 77, 97, 116, 99, 104], join p⟩, ⟨[105, 102, 45, 110, 111, 110, 101, 45, 109, 97, 116, 99, 104], join q⟩] [73, 102, 45, 78, 111, 110, 101, 45, 77, 97, 116, 99, 104] = txts l l.length := by
        unfold allM getF
        have e1 : fold [73, 102, 45, 78, 111, 110, 101, 45, 77, 97, 116, 99, 104] [73, 102, 45, 78, 111, 110, 101, 45, 77, 97, 116, 99, 104] = true := fold_self _
        have e2 : fold [105, 102, 45, 110, 111, 110, 101, 45, 109, 97, 116, 99, 104] [73, 102, 45, 78, 111, 110, 101, 45, 77, 97, 116, 99, 104] = true := by decide
        simp only [List.filter_cons, e1, e2, if_true, List.filter_nil, List.map_cons, List.map_nil, List.flatMap_cons, List.flatMap_nil, hsp, hsq, List.append_nil, hpq]
        exact List.take_of_length_le (by omega)
      have hne : txts l l.length ≠ [[42]] := by
        intro h
        have : ([42] : Str) ∈ txts l l.length := by rw [h]; simp
        obtain ⟨n, hg, hx⟩ := hmem _ this
        exact (good_scan hg).2.2.2.1 hx.symm
      have hlist : listF [⟨[73, 102, 45, 78, 111, 110, 101, 45, 77, 97, 116, 99, 104], join p⟩, ⟨[105, 102, 45, 110, 111, 110, 101, 45, 109, 97, 116, 99, 104], join q⟩] [73, 102, 45, 78, 111, 110, 101, 45, 77, 97, 116, 99, 104] = ((List.range l.length).map (tagN l), false, true) := by
        unfold listF
        rw [hall, if_neg hne, if_neg (by omega), tags_run l l.length hgood]
      rw [hlist]
      have e0 : ((!true || false) || ((((List.range l.length).map (tagN l)).length : Nat) : Int) != (l.length : Int)) = false := by
        rw [neI, List.length_map, List.length_range]; simp
      show ((bif ((!true || false) || ((((List.range l.length).map (tagN l)).length : Nat) : Int) != (l.length : Int)) then _ else _) : Option Bool) = _
      rw [e0, bif_false]
      rw [while_any (law21_EtagLines_L1 l ((List.range l.length).map (tagN l), false, true)) l (fun _ => false) (.inr false) (.inl ())]
      · have : l.any (fun _ => false) = false := by rw [List.any_eq_false]; intro _ _; decide
        rw [this, if_neg (by decide), some_bind]
        show (law21_awake.bind fun r150 => some r150) = _
        rw [awake21]; rfl
      · intro n hn
        have e1 : xrem (n : Int) 2 = some ((n % 2 : Nat) : Int) := by
          unfold xrem
          rw [if_neg (by decide), Int.tmod_eq_emod_of_nonneg (by omega)]; rfl
        have e2 : ((((n % 2 : Nat) : Int)) == 1) = (n % 2 == 1) := by
          rw [Bool.eq_iff_iff]; simp only [beq_iff_eq]; omega
        have hlm : ((List.range l.length).map (tagN l)).length = l.length := by simp
        have e3 : xnth ((List.range l.length).map (tagN l)) (n : Int) = some (tagN l n) := by
          rw [xnth_nat, List.getElem?_map, List.getElem?_range hn]; rfl
        have e4 : (tagN l n).fTag = l[n] := by
          show l.getD n [] = _
          rw [List.getD_eq_getElem?_getD, List.getElem?_eq_getElem hn]; rfl
        have e5 : wr ((n : Int) + 1) = (n : Int) + 1 := by rw [wrs (by omega)]; omega
        unfold law21_EtagLines_L1
        simp only [hlm]
        rw [lt_true hn, bif_true, e3, some_bind, xnth_get hn, some_bind, e4, e1, some_bind, some_bind, e2, e5]
        have e6 : (l[n] != l[n]) = false := by simp
        have e7 : ((tagN l n).fWeak != (n % 2 == 1)) = false := by simp [tagN]
        rw [e6, bif_false, some_bind, e7]; rfl
      · unfold law21_EtagLines_L1
        have hlm : ((List.range l.length).map (tagN l)).length = l.length := by simp
        simp only [hlm]
        rw [lt_false (Nat.le_refl l.length), bif_false]
end Go.Eng.Pure.Etag
namespace Go.Eng.Pure
theorem EtagLists_true (l : List GField) (name : Go.Eng.Str) : law21_EtagLists l name = some true := Etag.EtagLists_true l name
theorem EtagLines_true (l : List Go.Eng.Str) (c : Int) : law21_EtagLines l c = some true := Etag.EtagLines_true l c
end Go.Eng.Pure
