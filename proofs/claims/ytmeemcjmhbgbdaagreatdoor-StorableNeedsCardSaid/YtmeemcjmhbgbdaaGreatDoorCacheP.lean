/- Layers 3 and 22: fields that are there, cache directives: what the functions compute, in plain words. -/
import Derived.Test.YtmeemcjmhbgbdaaGreatDoorAsciiP
import Derived.Test.YtmeemcjmhbgbdaaGreatDoorKeepP
namespace Go.Eng.Pure
open Go Go.Eng
set_option linter.unusedVariables false
/-! fields -/
def hasF (l : List GField) (name : Str) : Bool := decide (0 < (getF l name).length)
def firstF (l : List GField) (name : Str) : Str × Bool := match getF l name with | v :: _ => (v, true) | [] => ([], false)
theorem Has_eq (l : List GField) (name : Str) (hl : l.length ≤ 1073741824) (hf : ∀ f ∈ l, smF f) (hn : name.length ≤ 1073741824) : fieldline_Has l name = some (hasF l name) := by
  unfold fieldline_Has fieldline_named
  rw [Lower_eq _ hn]
  simp only [some_bind]
  rw [filter_eq l _ (fun f => fold f.fName name) hl (fun f h => named_eq name hn f (hf f h)), some_bind]
  unfold hasF getF
  rw [List.length_map]
  exact congrArg some (lt_nat 0 _)
theorem First_eq (l : List GField) (name : Str) (hl : l.length ≤ 1073741824) (hf : ∀ f ∈ l, smF f) (hn : name.length ≤ 1073741824) : fieldline_First l name = some (firstF l name) := by
  unfold fieldline_First firstF
  rw [Get_eq l name hl hf hn, some_bind]
  cases getF l name with
  | nil => rfl
  | cons v r =>
    have : ((((v :: r).length : Nat) : Int) == 0) = false := by
      rw [Bool.eq_false_iff]; simp only [ne_eq, beq_iff_eq, List.length_cons]; omega
    rw [this]; rfl
theorem RFirst_eq (l : List GField) (name : Str) (hl : l.length ≤ 1073741824) (hf : ∀ f ∈ l, smF f) (hn : name.length ≤ 1073741824) : ref01_First l name = some (firstF l name) := by
  unfold ref01_First firstF
  rw [RGet_eq l name hl hf hn, some_bind]
  cases getF l name with
  | nil => rfl
  | cons v r =>
    have : decide (0 < (((v :: r).length : Nat) : Int)) = true := decide_eq_true (by rw [List.length_cons]; omega)
    rw [this]; rfl
theorem allM_len (l : List GField) (name : Str) : (allM l name).length ≤ 64 := by
  unfold allM; rw [List.length_take]; omega
theorem allM_sm (l : List GField) (name : Str) (B : Nat) (hf : ∀ f ∈ l, f.fValue.length ≤ B) : ∀ x ∈ allM l name, x.length ≤ B := by
  intro x hx
  have h1 := List.mem_of_mem_take hx
  rw [List.mem_flatMap] at h1
  obtain ⟨v, hv, hx⟩ := h1
  exact Nat.le_trans (split_sm v x hx) (getF_sm l name B hf v hv)
/-! a name in front -/
def hd (m : Str) : Str := m.takeWhile tokB
def tl (m : Str) : Str := m.dropWhile tokB
theorem hd_tl (m : Str) : hd m ++ tl m = m := List.takeWhile_append_dropWhile
theorem hd_len (m : Str) : (hd m).length ≤ m.length := by
  have := congrArg List.length (hd_tl m); rw [List.length_append] at this; omega
theorem take_hd (m : Str) : m.take (hd m).length = hd m := by
  have h := List.take_left (l₁ := hd m) (l₂ := tl m)
  rwa [hd_tl] at h
theorem drop_hd (m : Str) : m.drop (hd m).length = tl m := by
  have h := List.drop_left (l₁ := hd m) (l₂ := tl m)
  rwa [hd_tl] at h
/-- A loop that counts the bytes in front. -/
theorem while_hd (m : Str) (body : Int → Option (Int ⊕ Int)) (h : ∀ n : Nat, n ≤ m.length → body (n : Int) = some (if h : n < m.length then (if tokB m[n] then .inl ((n + 1 : Nat) : Int) else .inr (n : Int)) else .inr (n : Int))) : whileO body 0 = some ((hd m).length : Int) := by
  have key : ∀ (k n : Nat), n + k = m.length → whileO body (n : Int) = some ((n + ((m.drop n).takeWhile tokB).length : Nat) : Int) := by
    intro k
    induction k with
    | zero =>
      intro n hn
      obtain rfl : n = m.length := by omega
      have hb := h m.length (Nat.le_refl _)
      rw [dif_neg (Nat.lt_irrefl _)] at hb
      rw [whileO_done hb, List.drop_length]; rfl
    | succ k ih =>
      intro n hn
      have hlt : n < m.length := by omega
      have hb := h n (by omega)
      rw [dif_pos hlt] at hb
      rw [List.drop_eq_getElem_cons hlt, List.takeWhile_cons]
      cases ht : tokB m[n] with
      | true =>
        rw [ht, if_pos rfl] at hb
        rw [whileO_next hb, ih (n + 1) (by omega), if_pos rfl, List.length_cons]
        congr 2; omega
      | false =>
        rw [ht, if_neg (by decide)] at hb
        rw [whileO_done hb, if_neg (by decide)]; rfl
  have := key m.length 0 (by omega)
  rw [List.drop_zero, Nat.zero_add] at this
  exact this
theorem tok_one (c : UInt8) : tok [c] = tokB c := by unfold tok; simp
theorem read_loop (m : Str) (hm : m.length ≤ 1073741824) : whileO (cachecontrol_read_L0 m) 0 = some ((hd m).length : Int) := by
  refine while_hd m _ fun n hn => ?_
  by_cases hlt : n < m.length
  · have e1 : xsub m (n : Int) ((n + 1 : Nat) : Int) = some [m[n]] := by
      rw [xsub_nat ⟨by omega, by omega⟩, take_succ_get hlt, List.drop_append_of_le_length (by simp; omega), List.drop_eq_nil_of_le (by simp; omega)]; rfl
    simp only [cachecontrol_read_L0, lt_true hlt, bif_true, wrs (show n ≤ 4 * 1073741824 by omega), e1, some_bind, Token_eq [m[n]] (by simp), tok_one]
    rw [dif_pos hlt]
    cases tokB m[n] <;> rfl
  · rw [dif_neg hlt]
    simp only [cachecontrol_read_L0, lt_false (show m.length ≤ n by omega), bif_false, some_bind]
theorem dir_loop (ms : List Str) (i : Nat) (hi : i < ms.length) (hm : ms[i].length ≤ 1073741824) : whileO (ref19_directive_L0 ms (i : Int)) 0 = some ((hd ms[i]).length : Int) := by
  refine while_hd ms[i] _ fun n hn => ?_
  have e0 := xnth_get hi
  generalize ms[i] = m at e0 hm hn ⊢
  by_cases hlt : n < m.length
  · simp only [ref19_directive_L0, e0, some_bind, lt_true hlt, bif_true, wrs (show n ≤ 4 * 1073741824 by omega), xnth_get hlt, TokenByte_eq]
    rw [dif_pos hlt]
    cases tokB m[n] <;> rfl
  · rw [dif_neg hlt]
    simp only [ref19_directive_L0, e0, some_bind, lt_false (show m.length ≤ n by omega), bif_false]
/-! directives -/
def argS (rest : Str) : Str × Bool := match rest with | [] => ([], false) | a :: v => if a = 61 then (if tok v then (v, true) else unq v) else ([], false)
def formS (rest : Str) : Gcachecontrol_directive := if rest = [] then ⟨0, []⟩ else if (argS rest).2 then ⟨1, (argS rest).1⟩ else ⟨2, []⟩
theorem read_eq (m : Str) (hm : m.length ≤ 1073741824) : cachecontrol_read m = some (lower (hd m), formS (tl m)) := by
  unfold cachecontrol_read
  have hh := hd_len m
  have ht : (tl m).length ≤ m.length := by have := congrArg List.length (hd_tl m); rw [List.length_append] at this; omega
  rw [read_loop m hm, some_bind, xsub_to hh, some_bind, take_hd, Lower_eq _ (by omega), some_bind, xsub_from hh, some_bind, drop_hd]
  cases htl : tl m with
  | nil => rfl
  | cons a v =>
    rw [htl] at ht
    have hv : v.length ≤ 1073741824 := by simp at ht; omega
    have e0 : ((a :: v) == ([] : Str)) = false := rfl
    have e1 : xsub (a :: v) 1 ((a :: v).length : Nat) = some v := by
      have := xsub_from (l := a :: v) (i := 1) (by simp)
      simpa using this
    rw [e0, bif_false, e1]
    simp only [some_bind, xnth_cons, Token_eq v hv, Unquote_eq v hv]
    unfold formS argS
    rw [if_neg (by simp)]
    by_cases ha : a = 61
    · subst ha
      simp only [beq_self_eq_true, bif_true, some_bind, if_true, Bool.true_and]
      cases ht2 : tok v with
      | true => simp
      | false =>
        cases hu : (unq v).2 <;> simp [hu]
    · have ha' : (a == 61) = false := by simpa using ha
      simp [ha, ha']
theorem argument_eq (rest : Str) (hr : rest.length ≤ 1073741824) : ref19_argument rest = some (argS rest) := by
  unfold ref19_argument argS
  cases rest with
  | nil => rfl
  | cons a v =>
    have hv : v.length ≤ 1073741824 := by simp at hr; omega
    have e0 : ((a :: v) == ([] : Str)) = false := rfl
    have e1 : xsub (a :: v) 1 ((a :: v).length : Nat) = some v := by
      have := xsub_from (l := a :: v) (i := 1) (by simp)
      simpa using this
    rw [e0, bif_false, e1]
    simp only [some_bind, xnth_cons, RToken_eq v hv, RUnquote_eq v hv]
    by_cases ha : a = 61
    · subst ha
      cases ht2 : tok v <;> simp
    · have ha' : (a != 61) = true := by simpa using ha
      simp [ha, ha']
/-- What follows the first directive of a name. -/
def dirOf (ms : List Str) (name : Str) : Option Str := (ms.find? fun m => lower (hd m) == name).map tl
/-- A name as it is asked for: in small letters, not empty. -/
def okName (name : Str) : Prop := lower name = name ∧ name ≠ []
theorem dirOf_cons (m : Str) (ms : List Str) (name : Str) : dirOf (m :: ms) name = if lower (hd m) == name then some (tl m) else dirOf ms name := by
  unfold dirOf
  rw [List.find?_cons]
  cases lower (hd m) == name <;> rfl
theorem fold_ok {a name : Str} (h : lower name = name) : fold a name = (lower a == name) := by
  unfold fold
  rw [h, Bool.eq_iff_iff]
  simp only [Bool.and_eq_true, beq_iff_eq]
  exact ⟨fun h => h.2, fun h2 => ⟨by rw [← h2, lower_len], h2⟩⟩
def dirR (o : Option Str) : Unit ⊕ (Str × Bool) := match o with | some r => .inr (r, true) | none => .inl ()
theorem directive_eq (ms : List Str) (name : Str) (hn : okName name) (hnl : name.length ≤ 1073741824) (hl : ms.length ≤ 1073741824) (hm : ∀ m ∈ ms, m.length ≤ 1073741824) : ref19_directive ms name = some (match dirOf ms name with | some r => (r, true) | none => ([], false)) := by
  have key : ∀ (k n : Nat), n + k = ms.length → whileO (ref19_directive_L1 ms name) (n : Int) = some (dirR (dirOf (ms.drop n) name)) := by
    intro k
    induction k with
    | zero =>
      intro n hn
      obtain rfl : n = ms.length := by omega
      rw [List.drop_length]
      refine whileO_done ?_
      simp only [ref19_directive_L1, lt_false (Nat.le_refl ms.length), bif_false]; rfl
    | succ k ih =>
      intro n hk
      have hlt : n < ms.length := by omega
      have hml := hm _ (List.getElem_mem hlt)
      have hh := hd_len ms[n]
      have hb : ref19_directive_L1 ms name (n : Int) = some (if lower (hd ms[n]) == name then .inr (.inr (tl ms[n], true)) else .inl ((n + 1 : Nat) : Int)) := by
        simp only [ref19_directive_L1, lt_true hlt, bif_true, dir_loop ms n hlt hml, some_bind, xnth_get hlt, xsub_to hh, take_hd, RFold_eq (hd ms[n]) name (by omega) hnl, xsub_from hh, drop_hd, wrs (show n ≤ 4 * 1073741824 by omega), fold_ok hn.1]
        by_cases h0 : 0 < (hd ms[n]).length
        · have : decide ((0 : Int) < ((hd ms[n]).length : Int)) = true := decide_eq_true (by omega)
          rw [this, bif_true, some_bind]
          cases lower (hd ms[n]) == name <;> rfl
        · have : decide ((0 : Int) < ((hd ms[n]).length : Int)) = false := decide_eq_false (by omega)
          have he : hd ms[n] = [] := List.eq_nil_of_length_eq_zero (by omega)
          have h2 : (lower (hd ms[n]) == name) = false := by
            rw [he, Bool.eq_false_iff]
            intro h
            exact hn.2 (by have := eq_of_beq h; exact this.symm)
          rw [this, h2]; rfl
      rw [List.drop_eq_getElem_cons hlt, dirOf_cons]
      cases hc : (lower (hd ms[n]) == name) with
      | true => rw [hc, if_pos rfl] at hb; rw [whileO_done hb]; rfl
      | false => rw [hc, if_neg (by decide)] at hb; rw [whileO_next hb, ih (n + 1) (by omega)]; rfl
  have h0 := key ms.length 0 (by omega)
  have h0 : whileO (ref19_directive_L1 ms name) 0 = _ := h0
  unfold ref19_directive
  rw [h0, some_bind, List.drop_zero]
  cases dirOf ms name <;> rfl
def secS (rest : Str) (none bad : Int) : Int := if rest = [] then none else if (argS rest).2 && (num (argS rest).1).2 then (num (argS rest).1).1 else bad
def secOf (ms : List Str) (name : Str) (none bad : Int) : Int := match dirOf ms name with | some rest => secS rest none bad | .none => -1
theorem unqL_len : ∀ (n : Nat) (s acc x : Str), s.length ≤ n → unqL s acc = some x → x.length ≤ acc.length + s.length := by
  intro n
  induction n with
  | zero =>
    intro s acc x h hx
    obtain rfl := List.eq_nil_of_length_eq_zero (Nat.le_zero.1 h)
    cases hx; simp
  | succ n ih =>
    intro s acc x h hx
    match s with
    | [] => cases hx; simp
    | c :: r =>
      unfold unqL at hx
      split at hx
      · cases hx
      · split at hx
        · match r with
          | [] => cases hx
          | d :: r' =>
            have := ih r' (acc ++ [d]) x (by simp at h; omega) hx
            rw [List.length_append, List.length_singleton] at this
            simp only [List.length_cons]; omega
        · have := ih r (acc ++ [c]) x (by simp at h; omega) hx
          rw [List.length_append, List.length_singleton] at this
          simp only [List.length_cons]; omega
theorem unq_len (s : Str) : (unq s).1.length ≤ s.length := by
  rcases quotes_split s with ⟨h, hu⟩ | ⟨a, m, z, rfl, hu⟩
  · rw [hu]; exact Nat.zero_le _
  · rw [hu]
    split
    · unfold unqIn
      split
      · cases hx : unqL m [] with
        | none => exact Nat.zero_le _
        | some x =>
          have := unqL_len m.length m [] x (Nat.le_refl _) hx
          simp at this ⊢; omega
      · exact Nat.zero_le _
    · exact Nat.zero_le _
theorem argS_len (rest : Str) : (argS rest).1.length ≤ rest.length := by
  unfold argS
  cases rest with
  | nil => exact Nat.le_refl _
  | cons a v =>
    show (if a = 61 then (if tok v then (v, true) else unq v) else ([], false)).1.length ≤ v.length + 1
    split
    · split
      · exact Nat.le_succ _
      · exact Nat.le_succ_of_le (unq_len v)
    · exact Nat.zero_le _
theorem tl_len (m : Str) : (tl m).length ≤ m.length := by
  have := congrArg List.length (hd_tl m); rw [List.length_append] at this; omega
theorem dirOf_len {ms : List Str} {name r : Str} {B : Nat} (hm : ∀ m ∈ ms, m.length ≤ B) (h : dirOf ms name = some r) : r.length ≤ B := by
  unfold dirOf at h
  obtain ⟨m, hm2, rfl⟩ := Option.map_eq_some_iff.1 h
  exact Nat.le_trans (tl_len m) (hm m (List.mem_of_find?_eq_some hm2))
theorem seconds_eq (ms : List Str) (name : Str) (a b : Int) (hn : okName name) (hnl : name.length ≤ 1073741824) (hl : ms.length ≤ 1073741824) (hm : ∀ m ∈ ms, m.length ≤ 1073741824) : ref19_seconds ms name a b = some (secOf ms name a b) := by
  unfold ref19_seconds secOf
  rw [directive_eq ms name hn hnl hl hm, some_bind]
  cases hd2 : dirOf ms name with
  | none => rfl
  | some r =>
    have hr := dirOf_len hm hd2
    have ha := argS_len r
    show ((bif !true then _ else (bif r == [] then some a else (ref19_argument r).bind fun r8 => (ref01_Number r8.1).bind fun r13 => (bif ((!r8.2) || (!r13.2)) then some b else some r13.1))) : Option Int) = _
    rw [Bool.not_true, bif_false, argument_eq r hr, some_bind, RNumber_eq _ (by omega), some_bind]
    show _ = some (secS r a b)
    unfold secS
    cases r with
    | nil => rfl
    | cons c v =>
      have e0 : ((c :: v) == ([] : Str)) = false := rfl
      rw [e0, bif_false, if_neg (by simp)]
      cases (argS (c :: v)).2 <;> cases (num (argS (c :: v)).1).2 <;> rfl
theorem number_eq (rest : Str) (a b : Int) (hr : rest.length ≤ 1073741824) : cachecontrol_number (formS rest) a b = some (secS rest a b) := by
  unfold cachecontrol_number formS secS
  have ha := argS_len rest
  by_cases h0 : rest = []
  · rw [if_pos h0, if_pos h0]
    rw [Number_eq _ (by simp), some_bind]; rfl
  · rw [if_neg h0, if_neg h0]
    cases h2 : (argS rest).2 with
    | true =>
      rw [if_pos rfl]
      show ((ascii_Number (argS rest).1).bind fun r3 => (bif (1 : Int) == 0 then some a else (bif (((1 : Int) == 2) || (!r3.2)) then some b else some r3.1))) = _
      rw [Number_eq _ (by omega), some_bind]
      cases (num (argS rest).1).2 <;> rfl
    | false =>
      rw [if_neg (by decide)]
      rw [Number_eq _ (by simp), some_bind]; rfl
def hasD (ms : List Str) (name : Str) : Bool := (dirOf ms name).isSome
def respC (ms : List Str) : GControl :=
  ⟨hasD ms [110, 111, 45, 115, 116, 111, 114, 101] || decide (64 ≤ ms.length), hasD ms [110, 111, 45, 99, 97, 99, 104, 101], hasD ms [109, 117, 115, 116, 45, 114, 101, 118, 97, 108, 105, 100, 97, 116, 101], hasD ms [112, 114, 111, 120, 121, 45, 114, 101, 118, 97, 108, 105, 100, 97, 116, 101],
   hasD ms [112, 114, 105, 118, 97, 116, 101], hasD ms [112, 117, 98, 108, 105, 99], hasD ms [111, 110, 108, 121, 45, 105, 102, 45, 99, 97, 99, 104, 101, 100],
   secOf ms [109, 97, 120, 45, 97, 103, 101] 0 0, secOf ms [115, 45, 109, 97, 120, 97, 103, 101] 0 0, secOf ms [109, 105, 110, 45, 102, 114, 101, 115, 104] 2147483647 2147483647, secOf ms [109, 97, 120, 45, 115, 116, 97, 108, 101] 2147483647 0⟩
def ccN : Str := [67, 97, 99, 104, 101, 45, 67, 111, 110, 116, 114, 111, 108]
def respF (l : List GField) : GControl := respC (allM l ccN)
theorem RResponse_eq (l : List GField) (hl : l.length ≤ 1073741824) (hf : ∀ f ∈ l, smF f) : ref19_ResponseControl l = some (respF l) := by
  unfold ref19_ResponseControl respF ccN
  rw [RAll_eq l _ hl hf (by decide), some_bind]
  have h1 := allM_len l ccN
  have h2 := allM_sm l ccN 1073741824 (fun f h => (hf f h).2)
  unfold ccN at h1 h2
  generalize allM l [67, 97, 99, 104, 101, 45, 67, 111, 110, 116, 114, 111, 108] = ms at h1 h2 ⊢
  have hd : ∀ name : Str, okName name → name.length ≤ 1073741824 → ref19_directive ms name = some (match dirOf ms name with | some r => (r, true) | none => ([], false)) := fun name hn hl => directive_eq ms name hn hl (by omega) h2
  have hs : ∀ (name : Str) (a b : Int), okName name → name.length ≤ 1073741824 → ref19_seconds ms name a b = some (secOf ms name a b) := fun name a b hn hl => seconds_eq ms name a b hn hl (by omega) h2
  have h2 : ∀ name : Str, (match dirOf ms name with | some r => (r, true) | none => ([], false) : Str × Bool).2 = hasD ms name := by
    intro name; unfold hasD; cases dirOf ms name <;> rfl
  have h64 : decide (64 ≤ (ms.length : Int)) = decide (64 ≤ ms.length) := le_nat 64 _
  rw [hd _ ⟨by decide, by decide⟩ (by decide), some_bind, hd _ ⟨by decide, by decide⟩ (by decide), some_bind, hd _ ⟨by decide, by decide⟩ (by decide), some_bind, hd _ ⟨by decide, by decide⟩ (by decide), some_bind, hd _ ⟨by decide, by decide⟩ (by decide), some_bind,
    hd _ ⟨by decide, by decide⟩ (by decide), some_bind, hd _ ⟨by decide, by decide⟩ (by decide), some_bind, hs _ _ _ ⟨by decide, by decide⟩ (by decide), some_bind, hs _ _ _ ⟨by decide, by decide⟩ (by decide), some_bind, hs _ _ _ ⟨by decide, by decide⟩ (by decide), some_bind, hs _ _ _ ⟨by decide, by decide⟩ (by decide), some_bind]
  simp only [h2, h64]
  rfl
/-! the program's map -/
theorem lookup_mset {β : Type} (m : List (Str × β)) (k k' : Str) (v : β) : (mset m k v).lookup k' = if k' == k then some v else m.lookup k' := by
  induction m with
  | nil =>
    simp only [mset, List.lookup]
    cases k' == k <;> rfl
  | cons p r ih =>
    unfold mset
    by_cases h : k = p.1
    · subst h
      rw [beq_self_eq_true, if_pos rfl]
      simp only [List.lookup]
      cases k' == p.1 <;> rfl
    · have h' : (k == p.1) = false := by simpa using h
      rw [h', if_neg (by decide)]
      simp only [List.lookup]
      cases hk : k' == p.1 with
      | true =>
        have e : k' = p.1 := by simpa using hk
        have : (k' == k) = false := by rw [e]; simp [Ne.symm h]
        rw [this]; rfl
      | false => exact ih
def stepD (m : List (Str × Gcachecontrol_directive)) (x : Str) : List (Str × Gcachecontrol_directive) := if (m.lookup (lower (hd x))).isNone && lower (hd x) != [] then mset m (lower (hd x)) (formS (tl x)) else m
theorem stepD_lookup (name : Str) (hn : name ≠ []) : ∀ (ms : List Str) (m : List (Str × Gcachecontrol_directive)), (ms.foldl stepD m).lookup name = match m.lookup name with | some d => some d | none => (dirOf ms name).map formS
  | [], m => by cases h : m.lookup name <;> simp [h, dirOf]
  | x :: ms, m => by
    rw [List.foldl_cons, stepD_lookup name hn ms, dirOf_cons]
    unfold stepD
    by_cases hx : lower (hd x) = name
    · rw [hx]
      have h1 : (name != []) = true := by simpa using hn
      rw [h1, beq_self_eq_true, if_pos rfl, Bool.and_true]
      cases hm : m.lookup name with
      | none => rw [Option.isNone_none, if_pos rfl, lookup_mset, beq_self_eq_true]; rfl
      | some d => rw [Option.isNone_some, if_neg (by decide), hm]
    · have h2 : (lower (hd x) == name) = false := by simpa using hx
      have h3 : (name == lower (hd x)) = false := by simpa using fun h => hx h.symm
      rw [h2]
      by_cases hc : ((m.lookup (lower (hd x))).isNone && lower (hd x) != []) = true
      · rw [if_pos hc, lookup_mset, h3]; rfl
      · rw [if_neg hc]; rfl
theorem Response_loop (ms : List Str) (hl : ms.length ≤ 1073741824) (hm : ∀ m ∈ ms, m.length ≤ 1073741824) : whileO (cachecontrol_Response_L0 ms) (0, []) = some (ms.foldl stepD []) := by
  have := while_count (fun n => ((n : Int), (ms.take n).foldl stepD [])) ms.length (ms.foldl stepD []) (cachecontrol_Response_L0 ms) ?_ ?_
  · exact this
  · intro n hn
    simp only [cachecontrol_Response_L0, lt_true hn, bif_true, xnth_get hn, some_bind, read_eq _ (hm _ (List.getElem_mem hn)), wrs (show n ≤ 4 * 1073741824 by omega), take_succ_get hn, List.foldl_append, List.foldl_cons, List.foldl_nil]
    generalize (ms.take n).foldl stepD [] = m
    have e : (mget m (lower (hd ms[n])) (⟨0, []⟩ : Gcachecontrol_directive)).2 = !(m.lookup (lower (hd ms[n]))).isNone := by
      unfold mget; cases m.lookup (lower (hd ms[n])) <;> rfl
    rw [e, Bool.not_not]
    unfold stepD
    cases (m.lookup (lower (hd ms[n]))).isNone && lower (hd ms[n]) != [] <;> rfl
  · simp only [cachecontrol_Response_L0, lt_false (Nat.le_refl ms.length), bif_false, List.take_length]
theorem Response_eq (l : List GField) (hl : l.length ≤ 1073741824) (hf : ∀ f ∈ l, smF f) : cachecontrol_Response l = some (respF l) := by
  unfold cachecontrol_Response respF ccN
  rw [All_eq l _ hl hf (by decide), some_bind]
  have h1 := allM_len l ccN
  have h2 := allM_sm l ccN 1073741824 (fun f h => (hf f h).2)
  unfold ccN at h1 h2
  generalize allM l [67, 97, 99, 104, 101, 45, 67, 111, 110, 116, 114, 111, 108] = ms at h1 h2 ⊢
  rw [Response_loop ms (by omega) h2, some_bind]
  have hg : ∀ name : Str, name ≠ [] → mget (ms.foldl stepD []) name (⟨0, []⟩ : Gcachecontrol_directive) = match dirOf ms name with | some r => (formS r, true) | none => (⟨0, []⟩, false) := by
    intro name hn
    unfold mget
    rw [stepD_lookup name hn ms []]
    cases dirOf ms name <;> rfl
  generalize ms.foldl stepD [] = mp at hg ⊢
  have hh : ∀ name : Str, name ≠ [] → (mget mp name (⟨0, []⟩ : Gcachecontrol_directive)).2 = hasD ms name := by
    intro name hn
    rw [hg name hn]; unfold hasD; cases dirOf ms name <;> rfl
  have hs : ∀ (name : Str) (a b : Int), name ≠ [] → ((some (mget mp name (⟨0, []⟩ : Gcachecontrol_directive))).bind fun g => (bif g.2 then (cachecontrol_number g.1 a b).bind fun r => some r else some (-1))) = some (secOf ms name a b) := by
    intro name a b hn
    rw [some_bind, hg name hn]
    unfold secOf
    cases hd2 : dirOf ms name with
    | none => rfl
    | some r =>
      show ((cachecontrol_number (formS r) a b).bind fun r => some r) = _
      rw [number_eq r a b (dirOf_len h2 hd2)]; rfl
  have h64 : decide (64 ≤ (ms.length : Int)) = decide (64 ≤ ms.length) := le_nat 64 _
  rw [hs _ _ _ (by decide), hs _ _ _ (by decide), hs _ _ _ (by decide), hs _ _ _ (by decide)]
  simp only [some_bind]
  rw [hh _ (by decide), hh _ (by decide), hh _ (by decide), hh _ (by decide), hh _ (by decide), hh _ (by decide), hh _ (by decide), h64]
  rfl
/-! Request -/
def pragN : Str := [80, 114, 97, 103, 109, 97]
def noCacheN : Str := [110, 111, 45, 99, 97, 99, 104, 101]
def pragB (l : List GField) : Bool := !hasF l ccN && (allM l pragN).any fun m => fold m noCacheN
def reqF (l : List GField) : GControl := { respF l with fNoCache := pragB l || (respF l).fNoCache }
theorem ContainsFunc_eq (ms : List Str) (f : Str → Option Bool) (p : Str → Bool) (hl : ms.length ≤ 1073741824) (h : ∀ m ∈ ms, f m = some (p m)) : slices_ContainsFunc_string_string ms f = some (ms.any p) := by
  have key : ∀ (k n : Nat), n + k = ms.length → ∃ r, whileO (slices_IndexFunc_string_string_L0 ms f) (n : Int) = some r ∧ (match r with | .inr i => decide (0 ≤ i) | .inl _ => false) = (ms.drop n).any p := by
    intro k
    induction k with
    | zero =>
      intro n hn
      obtain rfl : n = ms.length := by omega
      refine ⟨.inl (), whileO_done ?_, by simp⟩
      simp only [slices_IndexFunc_string_string_L0, lt_false (Nat.le_refl ms.length), bif_false]
    | succ k ih =>
      intro n hn
      have hlt : n < ms.length := by omega
      have hb : slices_IndexFunc_string_string_L0 ms f (n : Int) = some (if p ms[n] then .inr (.inr (n : Int)) else .inl ((n + 1 : Nat) : Int)) := by
        simp only [slices_IndexFunc_string_string_L0, lt_true hlt, bif_true, xnth_get hlt, some_bind, h _ (List.getElem_mem hlt), wrs (show n ≤ 4 * 1073741824 by omega)]
        cases p ms[n] <;> rfl
      rw [List.drop_eq_getElem_cons hlt, List.any_cons]
      cases hp : p ms[n] with
      | true =>
        rw [hp, if_pos rfl] at hb
        exact ⟨_, whileO_done hb, by show decide ((0 : Int) ≤ (n : Int)) = _; rw [decide_eq_true (by omega)]; rfl⟩
      | false =>
        rw [hp, if_neg (by decide)] at hb
        obtain ⟨r, h1, h2⟩ := ih (n + 1) (by omega)
        exact ⟨r, by rw [whileO_next hb, h1], by rw [h2]; rfl⟩
  obtain ⟨r, h1, h2⟩ := key ms.length 0 (by omega)
  have h1 : whileO (slices_IndexFunc_string_string_L0 ms f) 0 = some r := h1
  unfold slices_ContainsFunc_string_string slices_IndexFunc_string_string
  rw [h1, some_bind]
  rw [List.drop_zero] at h2
  rw [← h2]
  cases r <;> rfl
theorem Request_eq (l : List GField) (hl : l.length ≤ 1073741824) (hf : ∀ f ∈ l, smF f) : cachecontrol_Request l = some (reqF l) := by
  unfold cachecontrol_Request
  have h2 := allM_sm l pragN 1073741824 (fun f h => (hf f h).2)
  have h1 := allM_len l pragN
  rw [Response_eq l hl hf, some_bind, Has_eq l _ hl hf (by decide), some_bind, All_eq l _ hl hf (by decide), some_bind]
  show ((bif !hasF l ccN then (slices_ContainsFunc_string_string (allM l pragN) cachecontrol_Request_1).bind fun r24 => some (r24) else some false).bind fun b29 => _) = _
  rw [ContainsFunc_eq (allM l pragN) cachecontrol_Request_1 (fun m => fold m noCacheN) (by omega) (fun m hm => by
    unfold cachecontrol_Request_1
    rw [Fold_eq m _ (h2 m hm) (by decide)]; rfl)]
  unfold reqF pragB
  cases hasF l ccN
  · cases (allM l pragN).any fun m => fold m noCacheN <;> rfl
  · rfl
end Go.Eng.Pure
