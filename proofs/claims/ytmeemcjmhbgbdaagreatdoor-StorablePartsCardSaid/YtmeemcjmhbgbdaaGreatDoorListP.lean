/- Layer 7: blanks at the ends, members of lists: what the functions compute, in plain words. -/
import Derived.Test.YtmeemcjmhbgbdaaGreatDoorTextP
namespace Go.Eng.Pure
open Go Go.Eng
set_option linter.unusedVariables false
/-! blanks -/
def bl (c : UInt8) : Bool := c == 32 || c == 9
def trim (s : Str) : Str := ltrim bl (rtrim bl s)
theorem pos_snoc (s : Str) (c : UInt8) : decide (0 < (((s ++ [c]).length : Nat) : Int)) = true := decide_eq_true (by rw [List.length_append, List.length_singleton]; omega)
theorem pos_cons (s : Str) (c : UInt8) : decide (0 < (((c :: s).length : Nat) : Int)) = true := decide_eq_true (by rw [List.length_cons]; omega)
theorem len_snoc (s : Str) (c : UInt8) : (s ++ [c]).length = s.length + 1 := by rw [List.length_append, List.length_singleton]
theorem trim_len (s : Str) : (trim s).length ≤ s.length := Nat.le_trans (ltrim_len _ _) (rtrim_len _ _)
theorem set_bl (c : UInt8) : ([32, 9] : Str).contains c = bl c := by
  simp only [List.contains_cons, List.contains_nil, Bool.or_false, bl]
theorem trimR_ascii (s : Str) (hs : s.length ≤ 1073741824) : strings_trimRightASCII s [32, 9] = some (rtrim bl s) := by
  unfold strings_trimRightASCII
  rw [while_rtrim (strings_trimRightASCII_L0 [32, 9]) bl 1073741824 ?_ rfl _ s rfl hs]
  · rfl
  · intro s c hl
    have h0 := pos_snoc s c
    simp only [strings_trimRightASCII_L0, h0, bif_true, wr_len1 (s ++ [c]) (by rw [len_snoc]; simp only [big]; omega), xnth_lastw, some_bind, strings_asciiSet_contains, set_bl, xsub_lastw]
    cases bl c <;> rfl
theorem trimL_ascii (s : Str) : strings_trimLeftASCII s [32, 9] = some (ltrim bl s) := by
  unfold strings_trimLeftASCII
  rw [while_ltrim (strings_trimLeftASCII_L0 [32, 9]) bl ?_ rfl s]
  · rfl
  · intro s c
    have h0 := pos_cons s c
    have h1 : xsub (c :: s) 1 ((c :: s).length : Nat) = some s := by
      have := xsub_from (l := c :: s) (i := 1) (by simp)
      simpa using this
    simp only [strings_trimLeftASCII_L0, h0, bif_true, xnth_cons, some_bind, strings_asciiSet_contains, set_bl, h1]
    cases bl c <;> rfl
theorem Trim_eq (s : Str) (hs : s.length ≤ 1073741824) : ascii_Trim s = some (trim s) := by
  unfold ascii_Trim strings_Trim
  have e1 : (([32, 9] : Str) == []) = false := rfl
  have e2 : (((([32, 9] : Str).length : Nat) : Int) == 1) = false := rfl
  have e3 : strings_makeASCIISet [32, 9] = some () := rfl
  rw [e1, Bool.or_false]
  cases hn : (s == []) with
  | true => obtain rfl : s = [] := by simpa using hn
            rfl
  | false =>
    simp only [bif_false, e2, some_bind, e3, trimR_ascii s hs]
    rw [trimL_ascii]; rfl
/-! cutting, but not within quotes: 0 outside, 1 inside, 2 behind a backslash -/
def step (st : Nat) (c : UInt8) : Nat := if st = 2 then 1 else if st = 1 ∧ c = 92 then 2 else if c = 34 then 1 - st else st
def segs (a : UInt8) : Nat → Str → Str → List Str
  | _, cur, [] => [cur]
  | st, cur, c :: r => if st = 0 ∧ c = a then cur :: segs a 0 [] r else segs a (step st c) (cur ++ [c]) r
def cutS (a : UInt8) (s : Str) : List Str := segs a 0 [] s
/-- The first members, without blanks, that are not empty. -/
def mem64 (l : List Str) : List Str := ((l.map trim).filter fun x => x != []).take 64
def split (s : Str) : List Str := mem64 (cutS 44 s)
theorem step_le {st : Nat} {c : UInt8} (h : st ≤ 2) : step st c ≤ 2 := by unfold step; split; omega; split; omega; split <;> omega
theorem list_step_eq (st : Nat) (c : UInt8) (h : st ≤ 2) : list_step (st : Int) c = some (step st c : Int) := by
  unfold list_step step
  match st, h with
  | 0, _ =>
    cases hc : (c == 34) with
    | true => obtain rfl : c = 34 := by simpa using hc
              rfl
    | false => have : c ≠ 34 := by simpa using hc
               simp [this]
  | 1, _ =>
    cases hb : (c == 92) with
    | true => obtain rfl : c = 92 := by simpa using hb
              rfl
    | false =>
      have hb' : c ≠ 92 := by simpa using hb
      cases hc : (c == 34) with
      | true => obtain rfl : c = 34 := by simpa using hc
                rfl
      | false => have : c ≠ 34 := by simpa using hc
                 simp [this, hb']
  | 2, _ => rfl
/-- What Split has yet to add, of a list of pieces. -/
def addM (out : List Str) (l : List Str) : List Str := (out ++ (l.map trim).filter fun x => x != []).take 64
theorem addM_full {out : List Str} (h : 64 ≤ out.length) (l : List Str) : addM out l = out.take 64 := by
  unfold addM; rw [List.take_append_of_le_length h]
theorem addM_cons (out : List Str) (x : Str) (l : List Str) : addM out (x :: l) = addM (if trim x != [] then out ++ [trim x] else out) l := by
  unfold addM
  rw [List.map_cons, List.filter_cons]
  cases trim x != [] <;> simp
theorem addM_one {out : List Str} (h : out.length < 64) (x : Str) : (if x != [] then out ++ [x] else out).length ≤ 64 := by
  split
  · rw [List.length_append, List.length_singleton]; omega
  · omega
theorem take_drop_snoc (s : Str) (f i : Nat) (hf : f ≤ i) (hi : i < s.length) : (s.take i).drop f ++ [s[i]] = (s.take (i + 1)).drop f := by
  rw [take_succ_get hi, List.drop_append_of_le_length (by simp; omega)]
theorem Split_loop (s : Str) (hs : s.length ≤ 1073741824) : ∀ (k i f st : Nat) (out : List Str), i + k = s.length → f ≤ i → st ≤ 2 → out.length ≤ 64 →
    whileO (list_Split_L0 s) (out, (st : Int), (f : Int), (i : Int)) = some (addM out (segs 44 st ((s.take i).drop f) (s.drop i))) := by
  intro k
  induction k with
  | zero =>
    intro i f st out hk hf hst ho
    obtain rfl : i = s.length := by omega
    by_cases hfull : out.length < 64
    · have e0 : decide ((out.length : Int) < 64) = true := by simp; omega
      have e2 : wr (((s.length : Nat) : Int) + 1) = ((s.length + 1 : Nat) : Int) := wrs (by omega)
      have hend : ∀ (o : List Str) (st f : Int), whileO (list_Split_L0 s) (o, st, f, ((s.length + 1 : Nat) : Int)) = some o := by
        intro o st f
        refine whileO_done ?_
        simp only [list_Split_L0, le_false (Nat.lt_succ_self s.length), Bool.false_and, bif_false]
      have hsub : xsub s (f : Int) (s.length : Int) = some (s.drop f) := xsub_from hf
      have hb : list_Split_L0 s (out, (st : Int), (f : Int), (s.length : Int)) = some (.inl (if trim (s.drop f) != [] then out ++ [trim (s.drop f)] else out, (st : Int), ((s.length + 1 : Nat) : Int), ((s.length + 1 : Nat) : Int))) := by
        simp only [list_Split_L0, le_true (Nat.le_refl s.length), e0, Bool.and_self, bif_true, lt_false (Nat.le_refl s.length), bif_false, some_bind, hsub, Trim_eq (s.drop f) (by simp; omega), e2]
        rw [xapp_sm (by omega) (one_sm _)]
        cases trim (s.drop f) != [] <;> rfl
      rw [whileO_next hb, hend]
      simp only [List.drop_length, segs, List.take_length, addM_cons]
      unfold addM
      have hl : (if trim (s.drop f) != [] then out ++ [trim (s.drop f)] else out).length ≤ 64 := addM_one (by omega) _
      rw [List.map_nil, List.filter_nil, List.append_nil, List.take_of_length_le hl]
    · have e0 : decide ((out.length : Int) < 64) = false := by simp; omega
      rw [whileO_done (r := out)]
      · rw [addM_full (by omega), List.take_of_length_le ho]
      · simp only [list_Split_L0, e0, Bool.and_false, bif_false]
  | succ k ih =>
    intro i f st out hk hf hst ho
    have hi : i < s.length := by omega
    by_cases hfull : out.length < 64
    · have e0 : decide ((out.length : Int) < 64) = true := by simp; omega
      have e2 : wr ((i : Int) + 1) = ((i + 1 : Nat) : Int) := wrs (by omega)
      rw [List.drop_eq_getElem_cons hi]
      have hcond : ((bif (st : Int) != 0 then some true else some (s[i] != 44)).bind fun b33 => some b33) = some (!(decide (st = 0 ∧ s[i] = 44))) := by
        match st with
        | 0 => by_cases hc : s[i] = 44 <;> simp [hc]
        | n + 1 =>
          have : (((n + 1 : Nat) : Int) != 0) = true := by simp; omega
          rw [this]; simp
      by_cases hc : st = 0 ∧ s[i] = 44
      · have hsub : xsub s (f : Int) (i : Int) = some ((s.take i).drop f) := xsub_nat ⟨hf, by omega⟩
        have hb : list_Split_L0 s (out, (st : Int), (f : Int), (i : Int)) = some (.inl (if trim ((s.take i).drop f) != [] then out ++ [trim ((s.take i).drop f)] else out, (st : Int), ((i + 1 : Nat) : Int), ((i + 1 : Nat) : Int))) := by
          simp only [list_Split_L0, le_true (Nat.le_of_lt hi), e0, Bool.and_self, bif_true, lt_true hi, xnth_get hi, some_bind]
          rw [hcond]
          simp only [hc, and_self, decide_true, Bool.not_true, some_bind, bif_false, hsub, Trim_eq ((s.take i).drop f) (by simp; omega), e2]
          rw [xapp_sm (by omega) (one_sm _)]
          cases trim ((s.take i).drop f) != [] <;> rfl
        rw [whileO_next hb, ih (i + 1) (i + 1) st _ (by omega) (Nat.le_refl _) hst (addM_one (by omega) _)]
        have hd : (s.take (i + 1)).drop (i + 1) = [] := List.drop_eq_nil_of_le (by simp; omega)
        rw [hd]
        unfold segs
        rw [if_pos hc, addM_cons, hc.1]
        cases hdr : s.drop (i + 1) with
        | nil => rfl
        | cons a l => rw [segs]
      · have hb : list_Split_L0 s (out, (st : Int), (f : Int), (i : Int)) = some (.inl (out, ((step st s[i] : Nat) : Int), (f : Int), ((i + 1 : Nat) : Int))) := by
          simp only [list_Split_L0, le_true (Nat.le_of_lt hi), e0, Bool.and_self, bif_true, lt_true hi, xnth_get hi, some_bind]
          rw [hcond]
          simp only [hc, decide_false, Bool.not_false, some_bind, bif_true, list_step_eq st _ hst, e2]
        rw [whileO_next hb, ih (i + 1) f _ out (by omega) (by omega) (step_le hst) ho]
        rw [segs, if_neg hc, take_drop_snoc s f i hf hi]
    · have e0 : decide ((out.length : Int) < 64) = false := by simp; omega
      rw [whileO_done (r := out)]
      · rw [addM_full (by omega), List.take_of_length_le ho]
      · simp only [list_Split_L0, e0, Bool.and_false, bif_false]
theorem Split_eq (s : Str) (hs : s.length ≤ 1073741824) : list_Split s = some (split s) := by
  unfold list_Split
  have := Split_loop s hs s.length 0 0 0 [] (by omega) (Nat.le_refl _) (by omega) (by simp)
  simp only [Int.natCast_zero, List.take_zero, List.drop_zero, List.drop_nil] at this
  have e : whileO (list_Split_L0 s) ([], 0, 0, 0) = some (addM [] (segs 44 0 [] s)) := this
  rw [e]; rfl
theorem segs_sm (a : UInt8) (B : Nat) : ∀ (s : Str) (st : Nat) (cur : Str), cur.length + s.length ≤ B → (∀ x ∈ segs a st cur s, x.length ≤ B) ∧ (segs a st cur s).length ≤ s.length + 1
  | [], st, cur, h => by simp only [segs, List.mem_singleton, forall_eq, List.length_singleton]; simp at h; omega
  | c :: r, st, cur, h => by
    have h' : cur.length + (r.length + 1) ≤ B := h
    unfold segs
    split
    · have ih := segs_sm a B r 0 [] (by simp; omega)
      refine ⟨fun x hx => ?_, by simp; exact ih.2⟩
      rcases List.mem_cons.1 hx with rfl | hx
      · omega
      · exact ih.1 x hx
    · have ih := segs_sm a B r (step st c) (cur ++ [c]) (by rw [List.length_append, List.length_singleton]; omega)
      exact ⟨ih.1, by simp; omega⟩
theorem cutS_sm (a : UInt8) (s : Str) : (∀ x ∈ cutS a s, x.length ≤ s.length) ∧ (cutS a s).length ≤ s.length + 1 := by
  have := segs_sm a s.length s 0 [] (by simp)
  exact this
theorem split_len (s : Str) : (split s).length ≤ 64 := by
  unfold split mem64; rw [List.length_take]; omega
theorem split_sm (s : Str) : ∀ x ∈ split s, x.length ≤ s.length := by
  intro x hx
  have h1 := List.mem_of_mem_take hx
  rw [List.mem_filter, List.mem_map] at h1
  obtain ⟨⟨y, hy, rfl⟩, _⟩ := h1
  exact Nat.le_trans (trim_len y) ((cutS_sm 44 s).1 y hy)
/-! All -/
def allM (l : List GField) (name : Str) : List Str := ((getF l name).flatMap split).take 64
theorem flat_len (v : List Str) : (v.flatMap split).length ≤ 64 * v.length := by
  induction v with
  | nil => simp
  | cons x v ih => rw [List.flatMap_cons, List.length_append, List.length_cons]; have := split_len x; omega
theorem flat_snoc (v : List Str) (n : Nat) (h : n < v.length) : (v.take (n + 1)).flatMap split = (v.take n).flatMap split ++ split v[n] := by
  rw [take_succ_get h, List.flatMap_append]; simp
theorem All_eq (l : List GField) (name : Str) (hl : l.length ≤ 1073741824) (hf : ∀ f ∈ l, smF f) (hn : name.length ≤ 1073741824) : list_All l name = some (allM l name) := by
  unfold list_All
  rw [Get_eq l name hl hf hn, some_bind]
  have hv := getF_len l name
  have hs := getF_sm l name 1073741824 (fun f h => (hf f h).2)
  unfold allM
  generalize getF l name = v at hv hs ⊢
  have := while_count (fun n => ((v.take n).flatMap split, (n : Int))) v.length (v.flatMap split) (list_All_L0 v) ?_ ?_
  · have e : (([] : List Str), (0 : Int)) = ((v.take 0).flatMap split, ((0 : Nat) : Int)) := by simp
    rw [e, this, some_bind]
    have e2 : (if 64 < (((v.flatMap split).length : Nat) : Int) then (64 : Int) else (((v.flatMap split).length : Nat) : Int)) = ((min 64 (v.flatMap split).length : Nat) : Int) := by
      split <;> omega
    rw [e2, xsub_to (by omega), some_bind]
    congr 1
    by_cases h : 64 ≤ (v.flatMap split).length
    · rw [Nat.min_eq_left h]
    · rw [Nat.min_eq_right (by omega), List.take_length, List.take_of_length_le (by omega)]
  · intro n hn
    have hq := flat_len (v.take n)
    have ht : (v.take n).length ≤ n := by simp; omega
    have hsp := split_len v[n]
    simp only [list_All_L0, lt_true hn, bif_true, xnth_get hn, some_bind, Split_eq _ (hs _ (List.getElem_mem hn)), wrs (show n ≤ 4 * 1073741824 by omega)]
    rw [xapp_sm (by omega) (by omega), flat_snoc v n hn]; rfl
  · simp only [list_All_L0, lt_false (Nat.le_refl v.length), bif_false, List.take_length]
end Go.Eng.Pure
