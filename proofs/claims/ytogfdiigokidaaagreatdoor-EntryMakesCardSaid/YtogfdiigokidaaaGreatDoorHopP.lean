/- A part of the proof of laws of the seat. -/
import Derived.Test.YtogfdiigokidaaaGreatDoorGroupP
namespace Go.Eng.Pure
open Go Go.Eng
set_option linter.unusedVariables false
theorem grd_sp (k : Nat) (s : Str) (out : List Str) : grd (k + 1) (32 :: s) out = grd (k + 1) s out := by
  have : (32 :: s : Str).dropWhile sp = s.dropWhile sp := by rw [List.dropWhile_cons]; rfl
  unfold grd
  rw [this]
def finV (r : List Str × Bool) : List Str ⊕ (List Str × Bool) := if r.2 then .inl r.1 else .inr ([], false)
theorem drop_take_sub (S : Str) (i n : Nat) : (S.take (i + n)).drop i = (S.drop i).take n := by rw [List.drop_take]; congr 1; omega
theorem rval_loop (S : Str) (hS : S.length ≤ 100000) : ∀ (m i : Nat) (out : List Str), S.length < i + m → i ≤ S.length → out.length ≤ i → whileO (ref10_values_L2 S) (out, (i : Int)) = some (finV (grd (S.length + 1) (S.drop i) out)) := by
  intro m
  induction m using Nat.strongRecOn with
  | ind m ih =>
    intro i out hm hi ho
    by_cases hlt : i < S.length
    · have hc := xnth_get hlt
      have hd := List.drop_eq_getElem_cons hlt
      generalize S[i] = c at hc hd
      by_cases hsp : c = 32
      · subst hsp
        rw [hd, grd_sp]
        have hb : ref10_values_L2 S (out, (i : Int)) = some (.inl (out, ((i + 1 : Nat) : Int))) := by
          unfold ref10_values_L2
          simp only []
          rw [lt_true hlt, bif_true, hc, some_bind, wrs (by omega)]; rfl
        rw [whileO_next hb, ih (m - 1) (by omega) (i + 1) out (by omega) (by omega) (by omega)]
      · have hspB : (c == 32) = false := by simpa using hsp
        have hdw : (S.drop i).dropWhile sp = S.drop i := by rw [hd, List.dropWhile_cons]; unfold sp; rw [hspB]; rfl
        have hne : S.drop i ≠ [] := by rw [hd]; exact List.cons_ne_nil _ _
        have htl : (S.drop i).length = S.length - i := List.length_drop
        have hgr : grd (S.length + 1) (S.drop i) out = match unitV (S.drop i) with | none => ([], false) | some (v, r) => grd S.length r (out ++ [v]) := by
          conv => lhs; unfold grd
          rw [hdw, if_neg hne]
          rfl
        rw [hgr]
        have hle := unitN_le (S.drop i)
        have hchk : ∀ (n : Nat), ((bif decide (((i + n : Nat) : Int) < (S.length : Int)) then (xnth S ((i + n : Nat) : Int)).bind fun c132 => some (c132 != 32) else some false) : Option Bool) = some (badR ((S.drop i).drop n)) := by
          intro n
          rw [List.drop_drop]
          by_cases hl : i + n < S.length
          · rw [lt_true hl, bif_true, xnth_get hl, some_bind, List.drop_eq_getElem_cons hl]; rfl
          · rw [lt_false (by omega), bif_false, List.drop_eq_nil_of_le (by omega)]; rfl
        have hsub : ∀ n, n ≤ S.length - i → xsub S (i : Int) ((i + n : Nat) : Int) = some ((S.drop i).take n) := fun n hn => by
          rw [xsub_nat ⟨by omega, by omega⟩, drop_take_sub]
        have fin : ∀ b : Option (((List Str) × Int) ⊕ ((List Str) ⊕ ((List Str) × Bool))), b = (match unitV (S.drop i) with | none => some (.inr (.inr ([], false))) | some (v, r) => some (.inl (out ++ [v], ((i + unitN (S.drop i) : Nat) : Int)))) →
            ref10_values_L2 S (out, (i : Int)) = b → whileO (ref10_values_L2 S) (out, (i : Int)) = some (finV (match unitV (S.drop i) with | none => ([], false) | some (v, r) => grd S.length r (out ++ [v]))) := by
          intro b hb hL
          cases hu : unitV (S.drop i) with
          | none => rw [hu] at hb; rw [hb] at hL; rw [whileO_done hL]; rfl
          | some p =>
            obtain ⟨v, r⟩ := p
            rw [hu] at hb
            rw [hb] at hL
            have hr : r = S.drop (i + unitN (S.drop i)) ∧ unitN (S.drop i) ≠ 0 := by
              unfold unitV at hu
              split at hu
              · cases hu
              · rename_i h0
                refine ⟨?_, h0⟩
                split at hu
                · cases hu
                · split at hu
                  · split at hu
                    · injection hu with hu; rw [← (Prod.mk.inj hu).2, List.drop_drop]
                    · cases hu
                  · injection hu with hu; rw [← (Prod.mk.inj hu).2, List.drop_drop]
            have h1 := unitV_lt hu
            rw [whileO_next hL, ih (m - unitN (S.drop i)) (by omega) _ _ (by omega) (by omega) (by rw [List.length_append, List.length_singleton]; omega), ← hr.1, grd_fuel (S.length + 1) S.length r _ (by omega) (by omega)]
        refine fin _ rfl ?_
        unfold ref10_values_L2
        simp only []
        rw [lt_true hlt, bif_true, hc, some_bind, hspB, bif_false, some_bind]
        by_cases h34 : c = 34
        · have h34B : (c == 34) = true := by simpa using h34
          have hh : (S.drop i).head? = some 34 := by rw [hd, h34]; rfl
          rw [h34B, bif_true, wrs (by omega), rquo_loop S (by omega) S.length (i + 1) (by omega) (by omega), some_bind]
          have hq : qe (S.drop (i + 1)) (i + 1) = qe ((S.drop i).drop 1) 1 + i := by
            rw [List.drop_drop, show i + 1 = 1 + i by omega, qe_shift i S.length _ 1 (by rw [List.length_drop]; omega)]
          rw [hq]
          unfold unitV
          by_cases hin : qe ((S.drop i).drop 1) 1 < (S.drop i).length
          · have hN : unitN (S.drop i) = qe ((S.drop i).drop 1) 1 + 1 := by unfold unitN; rw [if_pos hh, if_pos hin]
            rw [le_false (by omega), bif_false, wrs (by omega)]
            have he : qe ((S.drop i).drop 1) 1 + i + 1 = i + unitN (S.drop i) := by omega
            rw [he, hsub _ (by omega), some_bind, RUnquote_eq _ (by rw [List.length_take]; omega), some_bind, if_neg (by omega : ¬ unitN (S.drop i) = 0), if_pos hh]
            cases hun : (unq ((S.drop i).take (unitN (S.drop i)))).2 with
            | false =>
              rw [Bool.not_false, bif_true, some_bind]
              simp only [Bool.false_eq_true, if_false]
              cases badR ((S.drop i).drop (unitN (S.drop i))) <;> rfl
            | true =>
              rw [Bool.not_true, bif_false, xapp_sm (by omega) (one_sm _), some_bind, some_bind]
              simp only []
              rw [hchk, some_bind]
              cases badR ((S.drop i).drop (unitN (S.drop i))) <;> rfl
          · have hN : unitN (S.drop i) = 0 := by unfold unitN; rw [if_pos hh, if_neg hin]
            rw [le_true (by omega), bif_true, some_bind, if_pos hN]
        · have h34B : (c == 34) = false := by simpa using h34
          have hh : ¬ (S.drop i).head? = some 34 := by rw [hd]; simpa using h34
          have hN : unitN (S.drop i) = ((S.drop i).takeWhile plB).length := by unfold unitN; rw [if_neg hh]
          rw [h34B, bif_false, rbare_loop S (by omega) (S.length - i) i (by omega), some_bind, ← hN]
          unfold unitV
          by_cases h0 : unitN (S.drop i) = 0
          · rw [h0, if_pos rfl]
            have : ((((i + 0 : Nat) : Int)) == (i : Int)) = true := by simp
            rw [this, bif_true, some_bind]
          · rw [if_neg h0, if_neg hh]
            have : ((((i + unitN (S.drop i) : Nat) : Int)) == (i : Int)) = false := beq_eq_false_iff_ne.2 (by omega)
            rw [this, bif_false, hsub _ (by omega), some_bind, xapp_sm (by omega) (one_sm _), some_bind, some_bind]
            simp only []
            rw [hchk, some_bind]
            cases badR ((S.drop i).drop (unitN (S.drop i))) <;> rfl
    · obtain rfl : i = S.length := by omega
      have hb : ref10_values_L2 S (out, (S.length : Int)) = some (.inr (.inl out)) := by
        unfold ref10_values_L2
        simp only []
        rw [lt_false (Nat.le_refl _), bif_false]
      rw [whileO_done hb, List.drop_length]; rfl
theorem RValues_eq (s : Str) (hs : s.length ≤ 100000) : ref10_values s = some (grpS s) := by
  unfold ref10_values grpS
  have hh := grp_head s hs
  rw [← Option.bind_assoc, hh, some_bind]
  by_cases h : s.length < 2 ∨ s.head? ≠ some 40 ∨ s.getLast? ≠ some 41
  · rw [if_pos h, decide_eq_true h]; rfl
  · rw [if_neg h, decide_eq_false h, bif_false]
    have h2 : 2 ≤ s.length := by omega
    have hx : xsub s 1 (wr ((s.length : Int) - 1)) = some ((s.drop 1).take (s.length - 2)) := by
      have hw := wr_pred (n := s.length) (by omega) (by omega)
      rw [hw]
      have := xsub_nat (l := s) (i := 1) (j := s.length - 1) ⟨by omega, by omega⟩
      rw [show ((1 : Nat) : Int) = 1 from rfl] at this
      rw [this, List.drop_take, show s.length - 1 - 1 = s.length - 2 by omega]
    have hl : ((s.drop 1).take (s.length - 2)).length = s.length - 2 := by rw [List.length_take, List.length_drop]; omega
    have := rval_loop ((s.drop 1).take (s.length - 2)) (by omega) (s.length) 0 [] (by omega) (by omega) (by simp)
    rw [show ((0 : Nat) : Int) = 0 from rfl, List.drop_zero, hl, grd_fuel _ (s.length + 1) _ _ (by omega) (by omega)] at this
    rw [hx, some_bind, this, some_bind]
    unfold finV
    cases hg : (grd (s.length + 1) ((s.drop 1).take (s.length - 2)) []).2 with
    | false => rw [grd_false _ _ _ hg]; rfl
    | true =>
      rw [if_pos rfl]
      show some ((grd (s.length + 1) ((s.drop 1).take (s.length - 2)) []).1, true) = _
      rw [← hg]
end Go.Eng.Pure
namespace Go.Eng.Pure
open Go Go.Eng
set_option linter.unusedVariables false
def optL {α β : Type} (f : α → Option β) : List α → Option (List β)
  | [] => some []
  | x :: l => match f x with | none => none | some y => match optL f l with | none => none | some ys => some (y :: ys)
theorem while_opt {α β ρ : Type} (l : List α) (f : α → Option β) (e : ρ) (body : (List β × Int) → Option ((List β × Int) ⊕ (List β ⊕ ρ)))
    (h : ∀ n (hn : n < l.length) (out : List β), out.length ≤ n → body (out, (n : Int)) = some (match f l[n] with | some y => .inl (out ++ [y], ((n + 1 : Nat) : Int)) | none => .inr (.inr e)))
    (h' : ∀ out : List β, body (out, (l.length : Int)) = some (.inr (.inl out))) :
    ∀ (k n : Nat) (out : List β), n + k = l.length → out.length ≤ n → whileO body (out, (n : Int)) = some (match optL f (l.drop n) with | some ys => .inl (out ++ ys) | none => .inr e) := by
  intro k
  induction k with
  | zero =>
    intro n out hn ho
    have : n = l.length := by omega
    subst this
    rw [whileO_done (h' out), List.drop_length]; simp [optL]
  | succ k ih =>
    intro n out hn ho
    have hlt : n < l.length := by omega
    have hb := h n hlt out ho
    rw [List.drop_eq_getElem_cons hlt]
    unfold optL
    cases hf : f l[n] with
    | none => rw [hf] at hb; rw [whileO_done hb]
    | some y =>
      rw [hf] at hb
      rw [whileO_next hb, ih (n + 1) _ (by omega) (by rw [List.length_append, List.length_singleton]; omega)]
      simp only []
      cases optL f (l.drop (n + 1)) with
      | none => rfl
      | some ys => simp
theorem while_opt0 {α β ρ : Type} (l : List α) (f : α → Option β) (e : ρ) (body : (List β × Int) → Option ((List β × Int) ⊕ (List β ⊕ ρ)))
    (h : ∀ n (hn : n < l.length) (out : List β), out.length ≤ n → body (out, (n : Int)) = some (match f l[n] with | some y => .inl (out ++ [y], ((n + 1 : Nat) : Int)) | none => .inr (.inr e)))
    (h' : ∀ out : List β, body (out, (l.length : Int)) = some (.inr (.inl out))) : whileO body ([], 0) = some (match optL f l with | some ys => .inl ys | none => .inr e) := by
  have := while_opt l f e body h h' l.length 0 [] (by omega) (by simp)
  rw [show ((0 : Nat) : Int) = 0 from rfl, List.drop_zero] at this
  rw [this]
  cases optL f l <;> simp
theorem optL_len {α β : Type} (f : α → Option β) : ∀ (l : List α) (ys : List β), optL f l = some ys → ys.length = l.length ∧ ∀ y ∈ ys, ∃ x ∈ l, f x = some y
  | [], ys, h => by cases h; exact ⟨rfl, by simp⟩
  | x :: l, ys, h => by
    unfold optL at h
    cases hx : f x with
    | none => rw [hx] at h; cases h
    | some y =>
      rw [hx] at h
      cases hl : optL f l with
      | none => rw [hl] at h; cases h
      | some zs =>
        rw [hl] at h
        cases h
        obtain ⟨h1, h2⟩ := optL_len f l zs hl
        refine ⟨by simp [h1], fun z hz => ?_⟩
        rcases List.mem_cons.1 hz with rfl | hz
        · exact ⟨x, by simp, hx⟩
        · obtain ⟨x', hx', e⟩ := h2 z hz
          exact ⟨x', by simp [hx'], e⟩
def midL (l : List GField) : Prop := l.length ≤ 1000000 ∧ ∀ f ∈ l, f.fName.length ≤ 100000 ∧ f.fValue.length ≤ 100000
theorem midL_F {l : List GField} (h : midL l) : l.length ≤ 1073741824 ∧ ∀ f ∈ l, smF f := ⟨by have := h.1; omega, fun f hf => by have := h.2 f hf; exact ⟨by omega, by omega⟩⟩
theorem midL_of {l : List GField} (h : smL l) : midL l := ⟨by have := h.1; omega, fun f hf => by have := h.2 f hf; exact ⟨by omega, by omega⟩⟩
theorem allM_mid {l : List GField} (h : midL l) (n : Str) : (allM l n).length ≤ 64 ∧ ∀ m ∈ allM l n, m.length ≤ 100000 := ⟨allM_len l n, allM_sm l n 100000 fun f hf => (h.2 f hf).2⟩
theorem grd_sm : ∀ (k : Nat) (s : Str) (out : List Str), (∀ v ∈ (grd k s out).1, v ∈ out ∨ v.length ≤ s.length) ∧ (grd k s out).1.length ≤ out.length + s.length := by
  intro k
  induction k with
  | zero => intro s out; exact ⟨fun v h => .inl h, Nat.le_add_right _ _⟩
  | succ k ih =>
    intro s out
    unfold grd
    split
    · exact ⟨fun v h => .inl h, Nat.le_add_right _ _⟩
    · cases hu : unitV (s.dropWhile sp) with
      | none => exact ⟨fun v h => by simp at h, by simp⟩
      | some p =>
        obtain ⟨v, r⟩ := p
        have h1 := unitV_lt hu
        have h2 := dropW_le s
        obtain ⟨g1, g2⟩ := ih r (out ++ [v])
        have hv : v.length ≤ s.length := by
          have hle := unitN_le (s.dropWhile sp)
          unfold unitV at hu
          split at hu
          · cases hu
          · split at hu
            · cases hu
            · split at hu
              · split at hu
                · injection hu with hu
                  rw [← (Prod.mk.inj hu).1]
                  have := unq_len ((s.dropWhile sp).take (unitN (s.dropWhile sp)))
                  rw [List.length_take] at this; omega
                · cases hu
              · injection hu with hu
                rw [← (Prod.mk.inj hu).1, List.length_take]; omega
        refine ⟨fun u hu => ?_, ?_⟩
        · rcases g1 u hu with h | h
          · rcases List.mem_append.1 h with h | h
            · exact .inl h
            · rw [List.mem_singleton] at h; subst h; exact .inr hv
          · exact .inr (by omega)
        · rw [List.length_append, List.length_singleton] at g2; simp only []; omega
theorem grpS_sm (s : Str) : (∀ v ∈ (grpS s).1, v.length ≤ s.length) ∧ (grpS s).1.length ≤ s.length := by
  unfold grpS
  split
  · exact ⟨fun v h => by simp at h, by simp⟩
  · obtain ⟨g1, g2⟩ := grd_sm (s.length + 1) ((s.drop 1).take (s.length - 2)) []
    have hl : ((s.drop 1).take (s.length - 2)).length ≤ s.length := by rw [List.length_take]; omega
    refine ⟨fun v h => ?_, ?_⟩
    · rcases g1 v h with h | h
      · simp at h
      · omega
    · simp only [List.length_nil, Nat.zero_add] at g2; omega
def varN : Str := [86, 97, 114, 105, 97, 110, 116, 115]
def keyN : Str := [86, 97, 114, 105, 97, 110, 116, 45, 75, 101, 121]
def memV (m : Str) : Option GAxis :=
  if 61 ∈ m then (if (grpS (m.drop (m.idxOf 61 + 1))).2 && tok (m.take (m.idxOf 61)) then some ⟨lower (m.take (m.idxOf 61)), (grpS (m.drop (m.idxOf 61 + 1))).1⟩ else none) else none
def parV (l : List GField) : List GAxis × Int :=
  if hasF l varN then (match optL memV (allM l varN) with | none => ([], 1) | some xs => if valB xs then (xs, 0) else ([], 11)) else ([], 12)
theorem memV_sm {m : Str} {a : GAxis} (h : memV m = some a) (hm : m.length ≤ 100000) : smA a ∧ a.fValues.length ≤ 100000 := by
  unfold memV at h
  split at h
  · split at h
    · injection h with h
      subst h
      obtain ⟨h1, h2⟩ := grpS_sm (m.drop (m.idxOf 61 + 1))
      have hd : (m.drop (m.idxOf 61 + 1)).length ≤ m.length := by rw [List.length_drop]; omega
      refine ⟨⟨?_, fun v hv => ?_⟩, by simp only []; omega⟩
      · simp only []
        rw [lower_len, List.length_take]; omega
      · have := h1 v hv; omega
    · cases h
  · cases h
theorem optV_sm {l : List GField} (hl : midL l) {xs : List GAxis} (h : optL memV (allM l varN) = some xs) : xs.length ≤ 64 ∧ ∀ a ∈ xs, smA a ∧ a.fValues.length ≤ 100000 := by
  obtain ⟨h1, h2⟩ := optL_len _ _ _ h
  obtain ⟨a1, a2⟩ := allM_mid hl varN
  refine ⟨by omega, fun a ha => ?_⟩
  obtain ⟨m, hm, e⟩ := h2 a ha
  exact memV_sm e (a2 m hm)
theorem VParse_eq (l : List GField) (hl : midL l) : variants_Parse l = some (parV l) := by
  obtain ⟨h1, h2⟩ := midL_F hl
  obtain ⟨a1, a2⟩ := allM_mid hl varN
  unfold variants_Parse parV
  rw [Has_eq l _ h1 h2 (by decide), some_bind]
  show (bif !hasF l varN then _ else _) = _
  cases hasF l varN with
  | false => rfl
  | true =>
    rw [Bool.not_true, bif_false, if_pos rfl, All_eq l _ h1 h2 (by decide), some_bind]
    show (whileO (variants_Parse_L0 (allM l varN)) ([], 0)).bind _ = _
    rw [while_opt0 (allM l varN) memV ([], 1) _ ?_ ?_]
    · rw [some_bind]
      cases ho : optL memV (allM l varN) with
      | none => rfl
      | some xs =>
        simp only []
        rw [VValid_eq xs fun a ha => ((optV_sm hl ho).2 a ha).1, some_bind]
        cases valB xs <;> rfl
    · intro n hn out ho
      have hm := a2 _ (List.getElem_mem hn)
      unfold variants_Parse_L0 memV
      simp only []
      rw [lt_true hn, bif_true, xnth_get hn, some_bind]
      generalize (allM l varN)[n] = m at *
      rw [SCutC_eq m 61 (by omega), some_bind]
      by_cases h61 : (61 : UInt8) ∈ m
      · rw [if_pos h61, if_pos h61]
        simp only []
        rw [Read_eq _ (by rw [List.length_drop]; omega), some_bind, Token_eq _ (by rw [List.length_take]; omega)]
        cases (grpS (m.drop (m.idxOf 61 + 1))).2 with
        | false => rfl
        | true =>
          rw [Bool.not_true, bif_false, some_bind, some_bind, Bool.true_and]
          cases tok (m.take (m.idxOf 61)) with
          | false => rfl
          | true =>
            rw [Bool.not_true, bif_false, if_pos rfl, Lower_eq _ (by rw [List.length_take]; omega), some_bind, xapp_sm (by omega) (one_sm _), some_bind, wrs (by omega)]
      · rw [if_neg h61, if_neg h61]
        simp only []
        rw [Read_eq [] (by decide), some_bind]
        rfl
    · intro out
      unfold variants_Parse_L0
      simp only []
      rw [lt_false (Nat.le_refl _), bif_false]
theorem RVParse_eq (l : List GField) (hl : midL l) : ref10_ParseVariants l = some (parV l) := by
  obtain ⟨h1, h2⟩ := midL_F hl
  obtain ⟨a1, a2⟩ := allM_mid hl varN
  unfold ref10_ParseVariants parV
  rw [RHas_eq l _ h1 h2 (by decide), some_bind]
  show (bif !hasF l varN then _ else _) = _
  cases hasF l varN with
  | false => rfl
  | true =>
    rw [Bool.not_true, bif_false, if_pos rfl, RAll_eq l _ h1 h2 (by decide), some_bind]
    show (whileO (ref10_ParseVariants_L0 (allM l varN)) ([], 0)).bind _ = _
    rw [while_opt0 (allM l varN) memV ([], 1) _ ?_ ?_]
    · rw [some_bind]
      cases ho : optL memV (allM l varN) with
      | none => rfl
      | some xs =>
        simp only []
        rw [RValid_eq xs fun a ha => ((optV_sm hl ho).2 a ha).1, some_bind]
        cases valB xs <;> rfl
    · intro n hn out ho
      have hm := a2 _ (List.getElem_mem hn)
      have hx := xnth_get hn
      unfold ref10_ParseVariants_L0 memV
      simp only []
      rw [lt_true hn, bif_true, hx, some_bind]
      generalize (allM l varN)[n] = m at *
      rw [RIndex_eq m 61 (by omega), some_bind]
      by_cases h61 : (61 : UInt8) ∈ m
      · have hi := idx_lt h61
        rw [if_pos h61, if_pos h61, show decide (((m.idxOf 61 : Nat) : Int) < 0) = false from decide_eq_false (by omega), bif_false, some_bind, xsub_to (by omega), some_bind, RToken_eq _ (by rw [List.length_take]; omega), some_bind, some_bind]
        cases tok (m.take (m.idxOf 61)) with
        | false => rw [Bool.and_false]; rfl
        | true =>
          rw [Bool.not_true, bif_false, some_bind, wrs (by omega), xsub_from (by omega), some_bind, RValues_eq _ (by rw [List.length_drop]; omega), some_bind, Bool.and_true]
          cases (grpS (m.drop (m.idxOf 61 + 1))).2 with
          | false => rfl
          | true =>
            rw [Bool.not_true, bif_false, some_bind, xsub_to (by omega), some_bind, RLower_eq _ (by rw [List.length_take]; omega), some_bind, xapp_sm (by omega) (one_sm _), some_bind, wrs (by omega)]; rfl
      · rw [if_neg h61, if_neg h61]; rfl
    · intro out
      unfold ref10_ParseVariants_L0
      simp only []
      rw [lt_false (Nat.le_refl _), bif_false]
end Go.Eng.Pure
namespace Go.Eng.Pure
open Go Go.Eng
set_option linter.unusedVariables false
theorem CfLL_eq (ms : List (List Str)) (f : List Str → Option Bool) (p : List Str → Bool) (hl : ms.length ≤ 1073741824) (h : ∀ m ∈ ms, f m = some (p m)) : slices_ContainsFunc_LL_string_string ms f = some (ms.any p) := by
  have key : ∀ (k n : Nat), n + k = ms.length → ∃ r, whileO (slices_IndexFunc_LL_string_string_L0 ms f) (n : Int) = some r ∧ (match r with | .inr e => (0 : Int) ≤ e ∧ (ms.drop n).any p = true | .inl _ => (ms.drop n).any p = false) := by
    intro k
    induction k with
    | zero =>
      intro n hn
      obtain rfl : n = ms.length := by omega
      refine ⟨.inl (), whileO_done ?_, by rw [List.drop_length]; rfl⟩
      simp only [slices_IndexFunc_LL_string_string_L0, lt_false (Nat.le_refl ms.length), bif_false]
    | succ k ih =>
      intro n hn
      have hlt : n < ms.length := by omega
      have hb : slices_IndexFunc_LL_string_string_L0 ms f (n : Int) = some (if p ms[n] then .inr (.inr (n : Int)) else .inl ((n + 1 : Nat) : Int)) := by
        simp only [slices_IndexFunc_LL_string_string_L0, lt_true hlt, bif_true, xnth_get hlt, some_bind, h _ (List.getElem_mem hlt), wrs (show n ≤ 4 * 1073741824 by omega)]
        cases p ms[n] <;> rfl
      rw [List.drop_eq_getElem_cons hlt, List.any_cons]
      cases hp : p ms[n] with
      | true =>
        rw [hp, if_pos rfl] at hb
        exact ⟨_, whileO_done hb, by simp only []; exact ⟨by omega, rfl⟩⟩
      | false =>
        rw [hp, if_neg (by decide)] at hb
        obtain ⟨r, hr, hm⟩ := ih (n + 1) (by omega)
        refine ⟨r, by rw [whileO_next hb]; exact hr, ?_⟩
        cases r <;> simpa using hm
  obtain ⟨r, hr, hm⟩ := key ms.length 0 (by omega)
  rw [show ((0 : Nat) : Int) = 0 from rfl] at hr
  rw [List.drop_zero] at hm
  unfold slices_ContainsFunc_LL_string_string slices_IndexFunc_LL_string_string
  rw [hr, some_bind]
  cases r with
  | inr e => simp only [] at hm ⊢; rw [some_bind, hm.2, decide_eq_true hm.1]
  | inl u => simp only [] at hm ⊢; rw [some_bind, hm]; rfl
def memK (m : Str) : Option (List Str) := if (grpS m).2 then some (grpS m).1 else none
def addK (axes : List GAxis) : List (List Str) → List (List Str) → Option (List (List Str))
  | [], out => some out
  | r :: l, out => if (resS axes r).2 then addK axes l (if out.any (fun k => k == (resS axes r).1) then out else out ++ [(resS axes r).1]) else none
def parK (l : List GField) (axes : List GAxis) : List (List Str) × Int :=
  if valB axes then (if (allM l keyN).length = 0 then ([], 12) else match optL memK (allM l keyN) with | none => ([], 1) | some ks => match addK axes ks [] with | none => ([], 11) | some out => (out, 0)) else ([], 10)
def smX (axes : List GAxis) : Prop := axes.length ≤ 64 ∧ ∀ a ∈ axes, smA a ∧ a.fValues.length ≤ 100000
theorem parV_smX {l : List GField} (hl : midL l) : smX (parV l).1 := by
  unfold parV
  split
  · cases ho : optL memV (allM l varN) with
    | none => exact ⟨by simp, fun a h => by simp at h⟩
    | some xs =>
      simp only []
      split
      · exact optV_sm hl ho
      · exact ⟨by simp, fun a h => by simp at h⟩
  · exact ⟨by simp, fun a h => by simp at h⟩
theorem optK_sm {l : List GField} (hl : midL l) {ks : List (List Str)} (h : optL memK (allM l keyN) = some ks) : ks.length ≤ 64 ∧ ∀ k ∈ ks, k.length ≤ 100000 ∧ ∀ v ∈ k, v.length ≤ 100000 := by
  obtain ⟨h1, h2⟩ := optL_len _ _ _ h
  obtain ⟨a1, a2⟩ := allM_mid hl keyN
  refine ⟨by omega, fun k hk => ?_⟩
  obtain ⟨m, hm, e⟩ := h2 k hk
  have := a2 m hm
  obtain ⟨g1, g2⟩ := grpS_sm m
  unfold memK at e
  split at e
  · injection e with e; subst e
    exact ⟨by omega, fun v hv => by have := g1 v hv; omega⟩
  · cases e
theorem valB_ax {axes : List GAxis} (h : valB axes = true) : axes.length ≤ 4 ∧ ∀ a ∈ axes, axV a = true := by
  unfold valB at h
  rw [Bool.and_eq_true, Bool.and_eq_true, decide_eq_true_eq, decide_eq_true_eq] at h
  refine ⟨h.1.2, fun a ha => ?_⟩
  obtain ⟨j, hj, e⟩ := List.mem_iff_getElem.1 ha
  have := chk_pair _ _ _ h.2 j hj
  rw [e] at this
  unfold okA axN at this
  simp only [Bool.and_eq_true] at this
  exact this.1.2
theorem axV_len {a : GAxis} (h : axV a = true) : a.fValues.length ≤ 16 := by
  unfold axV at h
  simp only [Bool.and_eq_true, decide_eq_true_eq] at h
  exact h.1.2
theorem addK_loop (axes : List GAxis) (hx : smX axes) (hv : valB axes = true) (ks : List (List Str)) (hk : ks.length ≤ 64 ∧ ∀ k ∈ ks, k.length ≤ 100000 ∧ ∀ v ∈ k, v.length ≤ 100000) :
    ∀ (k n : Nat) (out : List (List Str)), n + k = ks.length → out.length ≤ n → (∀ o ∈ out, o.length ≤ 64) → whileO (variantkey_Parse_L1 axes ks) (out, (n : Int)) = some (match addK axes (ks.drop n) out with | some o => .inl o | none => .inr ([], 11)) := by
  obtain ⟨v1, v2⟩ := valB_ax hv
  intro k
  induction k with
  | zero =>
    intro n out hn ho hs
    have : n = ks.length := by omega
    subst this
    have hb : variantkey_Parse_L1 axes ks (out, (ks.length : Int)) = some (.inr (.inl out)) := by
      unfold variantkey_Parse_L1
      simp only []
      rw [lt_false (Nat.le_refl _), bif_false]
    rw [whileO_done hb, List.drop_length]; rfl
  | succ k ih =>
    intro n out hn ho hs
    have hlt : n < ks.length := by omega
    obtain ⟨hk1, hk2⟩ := hk.2 _ (List.getElem_mem hlt)
    rw [List.drop_eq_getElem_cons hlt]
    have hg := xnth_get hlt
    generalize ks[n] = q at *
    have hres := Resolve_eq axes q (by omega) (fun a ha => ⟨(hx.2 a ha).1, by have := axV_len (v2 a ha); omega⟩) (fun v hv => by have := hk2 v hv; omega)
    have hcf : slices_ContainsFunc_LL_string_string out (fun x0 => variantkey_Parse_1 x0 (resS axes q).1) = some (out.any fun k => k == (resS axes q).1) := by
      refine CfLL_eq _ _ _ (by omega) fun m hm => ?_
      unfold variantkey_Parse_1
      rw [SEqual_eq m _ (by have := hs m hm; omega), some_bind]
    unfold addK
    cases hr : (resS axes q).2 with
    | false =>
      have hb : variantkey_Parse_L1 axes ks (out, (n : Int)) = some (.inr (.inr ([], 11))) := by
        unfold variantkey_Parse_L1
        simp only []
        rw [lt_true hlt, bif_true, hg, some_bind, hres, some_bind, hr]; rfl
      rw [whileO_done hb]; rfl
    | true =>
      have hb : variantkey_Parse_L1 axes ks (out, (n : Int)) = some (.inl ((if out.any (fun k => k == (resS axes q).1) then out else out ++ [(resS axes q).1]), ((n + 1 : Nat) : Int))) := by
        unfold variantkey_Parse_L1
        simp only []
        rw [lt_true hlt, bif_true, hg, some_bind, hres, some_bind, hr, Bool.not_true, bif_false, hcf, some_bind, wrs (by omega)]
        cases out.any (fun k => k == (resS axes q).1) with
        | true => rfl
        | false => rw [Bool.not_false, bif_true, xapp_sm (by omega) (one_sm _), some_bind]; rfl
      have hlen : (resS axes q).1.length ≤ 64 := by
        have key : ∀ (al : List GAxis) (kl acc out : List Str), resL al kl acc = some out → out.length ≤ acc.length + al.length := by
          intro al
          induction al with
          | nil => intro kl acc out h; unfold resL at h; cases kl <;> (injection h with h; subst h; simp)
          | cons a al ih =>
            intro kl acc out h
            cases kl with
            | nil => unfold resL at h; injection h with h; subst h; simp
            | cons k kl =>
              unfold resL at h
              cases hf : a.fValues.find? (samV a k) with
              | none => rw [hf] at h; cases h
              | some v =>
                rw [hf] at h
                have := ih kl _ out h
                simp only [List.length_append, List.length_cons, List.length_nil] at this ⊢; omega
        unfold resS
        split
        · cases hrl : resL axes q [] with
          | none => simp
          | some o =>
            have := key axes q [] o hrl
            simp only [List.length_nil] at this ⊢; omega
        · simp
      rw [whileO_next hb, if_pos rfl, ih (n + 1) _ (by omega) ?_ ?_]
      · split
        · omega
        · rw [List.length_append, List.length_singleton]; omega
      · intro o ho2
        split at ho2
        · exact hs o ho2
        · rcases List.mem_append.1 ho2 with h | h
          · exact hs o h
          · rw [List.mem_singleton] at h; subst h; exact hlen
theorem KParse_eq (l : List GField) (axes : List GAxis) (hl : midL l) (hx : smX axes) : variantkey_Parse l axes = some (parK l axes) := by
  obtain ⟨h1, h2⟩ := midL_F hl
  obtain ⟨a1, a2⟩ := allM_mid hl keyN
  unfold variantkey_Parse parK
  rw [VValid_eq axes fun a ha => (hx.2 a ha).1, some_bind]
  cases hv : valB axes with
  | false => rfl
  | true =>
    rw [Bool.not_true, bif_false, if_pos rfl, All_eq l _ h1 h2 (by decide), some_bind]
    show (bif (((allM l keyN).length : Int) == 0) then _ else _) = _
    by_cases h0 : (allM l keyN).length = 0
    · rw [if_pos h0, show (((allM l keyN).length : Int) == 0) = true by simp [h0], bif_true]
    · rw [if_neg h0, show (((allM l keyN).length : Int) == 0) = false from beq_eq_false_iff_ne.2 (by omega), bif_false]
      show (whileO (variantkey_Parse_L0 (allM l keyN)) ([], 0)).bind _ = _
      rw [while_opt0 (allM l keyN) memK ([], 1) _ ?_ ?_]
      · rw [some_bind]
        cases ho : optL memK (allM l keyN) with
        | none => rfl
        | some ks =>
          simp only []
          have := addK_loop axes hx hv ks (optK_sm hl ho) ks.length 0 [] (by omega) (by simp) (by simp)
          rw [show ((0 : Nat) : Int) = 0 from rfl, List.drop_zero] at this
          rw [this, some_bind]
          cases addK axes ks [] <;> rfl
      · intro n hn out ho
        have hm := a2 _ (List.getElem_mem hn)
        unfold variantkey_Parse_L0 memK
        simp only []
        rw [lt_true hn, bif_true, xnth_get hn, some_bind]
        generalize (allM l keyN)[n] = m at *
        rw [Read_eq _ (by omega), some_bind]
        cases (grpS m).2 with
        | false => rfl
        | true => rw [Bool.not_true, bif_false, if_pos rfl, xapp_sm (by omega) (one_sm _), some_bind, wrs (by omega)]
      · intro out
        unfold variantkey_Parse_L0
        simp only []
        rw [lt_false (Nat.le_refl _), bif_false]
theorem known_loop (out : List (List Str)) (key : List Str) (ho : out.length ≤ 1000) (hs : ∀ o ∈ out, o.length ≤ 64) : ∀ (k n : Nat) (b : Bool), n + k = out.length →
    whileO (ref10_ParseKeys_L3 out key) (b, (n : Int)) = some (b || (out.drop n).any fun k => k == key) := by
  intro k
  induction k with
  | zero =>
    intro n b hn
    have : n = out.length := by omega
    subst this
    have hb : ref10_ParseKeys_L3 out key (b, (out.length : Int)) = some (.inr b) := by
      unfold ref10_ParseKeys_L3
      simp only []
      rw [lt_false (Nat.le_refl _), bif_false]
    rw [whileO_done hb, List.drop_length]; simp
  | succ k ih =>
    intro n b hn
    have hlt : n < out.length := by omega
    have hl := hs _ (List.getElem_mem hlt)
    rw [List.drop_eq_getElem_cons hlt, List.any_cons]
    have hg := xnth_get hlt
    generalize out[n] = q at *
    have hb : ref10_ParseKeys_L3 out key (b, (n : Int)) = some (.inl ((b || (q == key)), ((n + 1 : Nat) : Int))) := by
      unfold ref10_ParseKeys_L3
      simp only []
      rw [lt_true hlt, bif_true, hg, wrs (by omega)]
      cases b with
      | true => rfl
      | false => rw [bif_false, some_bind, SameStrings10_eq q key (by omega), some_bind, some_bind]; rfl
    rw [whileO_next hb, ih (n + 1) _ (by omega), Bool.or_assoc]
theorem raddK_loop (axes : List GAxis) (hx : smX axes) (hv : valB axes = true) (ks : List (List Str)) (hk : ks.length ≤ 64 ∧ ∀ k ∈ ks, k.length ≤ 100000 ∧ ∀ v ∈ k, v.length ≤ 100000) :
    ∀ (k n : Nat) (out : List (List Str)), n + k = ks.length → out.length ≤ n → (∀ o ∈ out, o.length ≤ 64) → whileO (ref10_ParseKeys_L4 axes ks) (out, (n : Int)) = some (match addK axes (ks.drop n) out with | some o => .inl o | none => .inr ([], 11)) := by
  obtain ⟨v1, v2⟩ := valB_ax hv
  intro k
  induction k with
  | zero =>
    intro n out hn ho hs
    have : n = ks.length := by omega
    subst this
    have hb : ref10_ParseKeys_L4 axes ks (out, (ks.length : Int)) = some (.inr (.inl out)) := by
      unfold ref10_ParseKeys_L4
      simp only []
      rw [lt_false (Nat.le_refl _), bif_false]
    rw [whileO_done hb, List.drop_length]; rfl
  | succ k ih =>
    intro n out hn ho hs
    have hlt : n < ks.length := by omega
    obtain ⟨hk1, hk2⟩ := hk.2 _ (List.getElem_mem hlt)
    rw [List.drop_eq_getElem_cons hlt]
    have hg := xnth_get hlt
    generalize ks[n] = q at *
    unfold addK resS
    by_cases hlen : q.length = axes.length
    · rw [if_pos hlen]
      have hkx := kax_loop axes ks n q hg hlen (by omega) (fun a ha => ⟨(hx.2 a ha).1, by have := axV_len (v2 a ha); omega, v2 a ha⟩) (fun v hv => by have := hk2 v hv; omega) axes.length 0 [] (by omega) (by simp)
      rw [show ((0 : Nat) : Int) = 0 from rfl, List.drop_zero, List.drop_zero] at hkx
      cases hr : resL axes q [] with
      | none =>
        rw [hr] at hkx
        have hb : ref10_ParseKeys_L4 axes ks (out, (n : Int)) = some (.inr (.inr ([], 11))) := by
          unfold ref10_ParseKeys_L4
          simp only []
          rw [lt_true hlt, bif_true, hg, some_bind, neI, hlen, show (axes.length != axes.length) = false by simp, bif_false, hkx, some_bind]
        rw [whileO_done hb]; rfl
      | some key =>
        rw [hr] at hkx
        have hkn := known_loop out key (by omega) hs out.length 0 false (by omega)
        rw [show ((0 : Nat) : Int) = 0 from rfl, List.drop_zero, Bool.false_or] at hkn
        have hb : ref10_ParseKeys_L4 axes ks (out, (n : Int)) = some (.inl ((if out.any (fun k => k == key) then out else out ++ [key]), ((n + 1 : Nat) : Int))) := by
          unfold ref10_ParseKeys_L4
          simp only []
          rw [lt_true hlt, bif_true, hg, some_bind, neI, hlen, show (axes.length != axes.length) = false by simp, bif_false, hkx, some_bind]
          simp only []
          rw [hkn, some_bind, wrs (by omega)]
          cases out.any (fun k => k == key) with
          | true => rfl
          | false => rw [Bool.not_false, bif_true, xapp_sm (by omega) (one_sm _), some_bind]; rfl
        have hkl : key.length ≤ 64 := by
          have gen : ∀ (al : List GAxis) (kl acc out : List Str), resL al kl acc = some out → out.length ≤ acc.length + al.length := by
            intro al
            induction al with
            | nil => intro kl acc out h; unfold resL at h; cases kl <;> (injection h with h; subst h; simp)
            | cons a al ih =>
              intro kl acc out h
              cases kl with
              | nil => unfold resL at h; injection h with h; subst h; simp
              | cons k kl =>
                unfold resL at h
                cases hf : a.fValues.find? (samV a k) with
                | none => rw [hf] at h; cases h
                | some v =>
                  rw [hf] at h
                  have := ih kl _ out h
                  simp only [List.length_append, List.length_cons, List.length_nil] at this ⊢; omega
          have := gen axes q [] key hr
          simp only [List.length_nil] at this; omega
        rw [whileO_next hb, ih (n + 1) _ (by omega) ?_ ?_]
        · rfl
        · split
          · omega
          · rw [List.length_append, List.length_singleton]; omega
        · intro o ho2
          split at ho2
          · exact hs o ho2
          · rcases List.mem_append.1 ho2 with h | h
            · exact hs o h
            · rw [List.mem_singleton] at h; subst h; exact hkl
    · rw [if_neg hlen]
      have hb : ref10_ParseKeys_L4 axes ks (out, (n : Int)) = some (.inr (.inr ([], 11))) := by
        unfold ref10_ParseKeys_L4
        simp only []
        rw [lt_true hlt, bif_true, hg, some_bind, neI, show (q.length != axes.length) = true by simpa using hlen, bif_true]
      rw [whileO_done hb]; rfl
theorem RKParse_eq (l : List GField) (axes : List GAxis) (hl : midL l) (hx : smX axes) : ref10_ParseKeys l axes = some (parK l axes) := by
  obtain ⟨h1, h2⟩ := midL_F hl
  obtain ⟨a1, a2⟩ := allM_mid hl keyN
  unfold ref10_ParseKeys parK
  rw [RValid_eq axes fun a ha => (hx.2 a ha).1, some_bind]
  cases hv : valB axes with
  | false => rfl
  | true =>
    rw [Bool.not_true, bif_false, if_pos rfl, RAll_eq l _ h1 h2 (by decide), some_bind]
    show (bif (((allM l keyN).length : Int) == 0) then _ else _) = _
    by_cases h0 : (allM l keyN).length = 0
    · rw [if_pos h0, show (((allM l keyN).length : Int) == 0) = true by simp [h0], bif_true]
    · rw [if_neg h0, show (((allM l keyN).length : Int) == 0) = false from beq_eq_false_iff_ne.2 (by omega), bif_false]
      show (whileO (ref10_ParseKeys_L0 (allM l keyN)) ([], 0)).bind _ = _
      rw [while_opt0 (allM l keyN) memK ([], 1) _ ?_ ?_]
      · rw [some_bind]
        cases ho : optL memK (allM l keyN) with
        | none => rfl
        | some ks =>
          simp only []
          have := raddK_loop axes hx hv ks (optK_sm hl ho) ks.length 0 [] (by omega) (by simp) (by simp)
          rw [show ((0 : Nat) : Int) = 0 from rfl, List.drop_zero] at this
          rw [this, some_bind]
          cases addK axes ks [] <;> rfl
      · intro n hn out ho
        have hm := a2 _ (List.getElem_mem hn)
        unfold ref10_ParseKeys_L0 memK
        simp only []
        rw [lt_true hn, bif_true, xnth_get hn, some_bind]
        generalize (allM l keyN)[n] = m at *
        rw [RValues_eq _ (by omega), some_bind]
        cases (grpS m).2 with
        | false => rfl
        | true => rw [Bool.not_true, bif_false, if_pos rfl, xapp_sm (by omega) (one_sm _), some_bind, wrs (by omega)]
      · intro out
        unfold ref10_ParseKeys_L0
        simp only []
        rw [lt_false (Nat.le_refl _), bif_false]
end Go.Eng.Pure
namespace Go.Eng.Pure
open Go Go.Eng
set_option linter.unusedVariables false
def ND {β : Type} (m : List (Str × β)) : Prop := (m.map Prod.fst).Nodup
theorem keys_mset {β : Type} (k : Str) (v : β) : ∀ m : List (Str × β), (mset m k v).map Prod.fst = if k ∈ m.map Prod.fst then m.map Prod.fst else m.map Prod.fst ++ [k]
  | [] => by simp [mset]
  | p :: r => by
    unfold mset
    by_cases h : k = p.1
    · subst h; simp
    · have hb : (k == p.1) = false := by simpa using h
      rw [hb]
      simp only [Bool.false_eq_true, if_false, List.map_cons, keys_mset k v r, List.mem_cons, h, false_or]
      split <;> simp
theorem ND.mset {β : Type} {m : List (Str × β)} (h : ND m) (k : Str) (v : β) : ND (mset m k v) := by
  unfold ND at *
  rw [keys_mset]
  split
  · exact h
  · rename_i hk
    rw [List.nodup_append]
    exact ⟨h, by simp, by intro a ha b hb; rw [List.mem_singleton] at hb; subst hb; exact fun e => hk (e ▸ ha)⟩
theorem keys_mdel {β : Type} (k : Str) : ∀ m : List (Str × β), ((mdel m k).map Prod.fst).Sublist (m.map Prod.fst)
  | [] => by simp [mdel]
  | p :: r => by
    unfold mdel
    split
    · exact List.sublist_cons_self _ _
    · exact (keys_mdel k r).cons_cons _
theorem ND.mdel {β : Type} {m : List (Str × β)} (h : ND m) (k : Str) : ND (mdel m k) := (keys_mdel k m).nodup h
theorem lookup_mdel {β : Type} (k k' : Str) : ∀ m : List (Str × β), ND m → (mdel m k).lookup k' = if k' == k then none else m.lookup k'
  | [], _ => by simp [mdel]
  | p :: r, h => by
    unfold ND at h
    rw [List.map_cons, List.nodup_cons] at h
    unfold mdel
    by_cases hk : k = p.1
    · subst hk
      rw [if_pos (by simp)]
      by_cases hk' : k' = p.1
      · subst hk'
        rw [if_pos (by simp)]
        have : ∀ (r : List (Str × β)), p.1 ∉ r.map Prod.fst → r.lookup p.1 = none := by
          intro r
          induction r with
          | nil => intro _; rfl
          | cons q r ih =>
            intro hn
            rw [List.map_cons, List.mem_cons, not_or] at hn
            rw [List.lookup, show (p.1 == q.1) = false by simpa using hn.1]
            exact ih hn.2
        exact this r h.1
      · have hb : (k' == p.1) = false := by simpa using hk'
        rw [List.lookup, hb]; rfl
    · have hb : (k == p.1) = false := by simpa using hk
      rw [hb]
      simp only [Bool.false_eq_true, if_false]
      rw [List.lookup, List.lookup, lookup_mdel k k' r h.2]
      by_cases hk' : k' = p.1
      · subst hk'
        have : (p.1 == k) = false := by simpa using Ne.symm hk
        simp [this]
      · have hb' : (k' == p.1) = false := by simpa using hk'
        rw [hb']
theorem mget_mdel {β : Type} {m : List (Str × β)} (h : ND m) (k k' : Str) (z : β) : (mget (mdel m k) k' z).1 = if k' == k then z else (mget m k' z).1 := by
  unfold mget
  rw [lookup_mdel k k' m h]
  cases k' == k <;> rfl
theorem fold_set (g : Str → Str) (k : Str) : ∀ (ms : List Str) (m : List (Str × Bool)), (mget (ms.foldl (fun m x => mset m (g x) true) m) k false).1 = ((mget m k false).1 || ms.any fun x => g x == k)
  | [], m => by simp
  | x :: ms, m => by
    rw [List.foldl_cons, fold_set g k ms, mget_mset, List.any_cons]
    by_cases h : k = g x
    · subst h; simp
    · have h1 : (k == g x) = false := by simpa using h
      have h2 : (g x == k) = false := by simpa using Ne.symm h
      rw [h1, h2]; simp
theorem ND_fold_set (g : Str → Str) : ∀ (ms : List Str) (m : List (Str × Bool)), ND m → ND (ms.foldl (fun m x => mset m (g x) true) m)
  | [], m, h => h
  | x :: ms, m, h => ND_fold_set g ms _ (h.mset _ _)
theorem fold_del (k : Str) : ∀ (ms : List Str) (m : List (Str × Bool)), ND m → (mget (ms.foldl (fun m x => mdel m x) m) k false).1 = ((mget m k false).1 && !ms.any fun x => x == k)
  | [], m, h => by simp
  | x :: ms, m, h => by
    rw [List.foldl_cons, fold_del k ms _ (h.mdel x), mget_mdel h, List.any_cons]
    by_cases hk : k = x
    · subst hk; simp
    · have h1 : (k == x) = false := by simpa using hk
      have h2 : (x == k) = false := by simpa using Ne.symm hk
      rw [h1, h2]; simp
def connN : Str := [67, 111, 110, 110, 101, 99, 116, 105, 111, 110]
def fixedL : List Str := [[67, 111, 110, 110, 101, 99, 116, 105, 111, 110], [75, 101, 101, 112, 45, 65, 108, 105, 118, 101], [80, 114, 111, 120, 121, 45, 67, 111, 110, 110, 101, 99, 116, 105, 111, 110], [80, 114, 111, 120, 121, 45, 65, 117, 116, 104, 101, 110, 116, 105, 99, 97, 116, 101], [80, 114, 111, 120, 121, 45, 65, 117, 116, 104, 111, 114, 105, 122, 97, 116, 105, 111, 110], [84, 69], [84, 114, 97, 105, 108, 101, 114], [84, 114, 97, 110, 115, 102, 101, 114, 45, 69, 110, 99, 111, 100, 105, 110, 103], [67, 111, 110, 116, 101, 110, 116, 45, 76, 101, 110, 103, 116, 104], [85, 112, 103, 114, 97, 100, 101]]
def keptL : List Str := [[72, 111, 115, 116], [67, 97, 99, 104, 101, 45, 67, 111, 110, 116, 114, 111, 108], [86, 97, 114, 121], [86, 97, 114, 105, 97, 110, 116, 115], [86, 97, 114, 105, 97, 110, 116, 45, 75, 101, 121], [86, 105, 97]]
def struck (l : List GField) (f : GField) : Bool := fixedL.any (fold f.fName) || ((allM l connN).any (fold f.fName) && !keptL.any (fold f.fName))
def stripF (l : List GField) : List GField := l.filter fun f => !struck l f
theorem any_low (name : Str) (l : List Str) : (l.any fun x => lower x == lower name) = l.any (fold name) := by
  congr 1
  funext x
  rw [fold_low, Bool.eq_iff_iff, beq_iff_eq, beq_iff_eq]
  exact ⟨Eq.symm, Eq.symm⟩
theorem strip_conn (ms : List Str) (hl : ms.length ≤ 64) (hm : ∀ m ∈ ms, m.length ≤ 100000) : whileO (hop_Strip_L0 ms) (0, []) = some (ms.foldl (fun m x => mset m (lower x) true) []) := by
  have := while_fold (σ := List (Str × Bool)) (fun st n => (n, st)) ms (fun m x => mset m (lower x) true) id (hop_Strip_L0 ms) (fun _ _ => True) [] trivial ?_ ?_
  · exact this
  · intro n hn st _
    refine ⟨?_, trivial⟩
    show hop_Strip_L0 ms ((n : Int), st) = _
    unfold hop_Strip_L0
    try simp only []
    rw [lt_true hn, bif_true, xnth_get hn, some_bind, Lower_eq _ (by have := hm _ (List.getElem_mem hn); omega), some_bind, wrs (by omega)]
  · intro st _
    show hop_Strip_L0 ms ((ms.length : Int), st) = _
    unfold hop_Strip_L0
    try simp only []
    rw [lt_false (Nat.le_refl _), bif_false]; rfl
theorem filter_loop (l : List GField) (p : GField → Bool) (body : (List GField × Int) → Option ((List GField × Int) ⊕ List GField)) (hl : l.length ≤ 1000000)
    (h : ∀ n (hn : n < l.length) (out : List GField), out.length ≤ n → body (out, (n : Int)) = some (.inl (if p l[n] then out ++ [l[n]] else out, ((n + 1 : Nat) : Int))))
    (h' : ∀ out, body (out, (l.length : Int)) = some (.inr out)) : whileO body ([], 0) = some (l.filter p) := by
  have := while_fold (σ := List GField) (fun st n => (st, n)) l (fun out f => if p f then out ++ [f] else out) id body (fun n out => out.length ≤ n) [] (by simp) (fun n hn st hI => ⟨h n hn st hI, by
    split
    · rw [List.length_append, List.length_singleton]; omega
    · omega⟩) (fun st hI => h' st)
  rw [this]
  congr 1
  have key : ∀ (l : List GField) (acc : List GField), l.foldl (fun out f => if p f then out ++ [f] else out) acc = acc ++ l.filter p := by
    intro l
    induction l with
    | nil => intro acc; simp
    | cons x l ih =>
      intro acc
      rw [List.foldl_cons, ih, List.filter_cons]
      split <;> simp
  show l.foldl _ [] = _
  rw [key, List.nil_append]
theorem Strip_eq (l : List GField) (hl : midL l) : hop_Strip l = some (stripF l) := by
  obtain ⟨h1, h2⟩ := midL_F hl
  obtain ⟨a1, a2⟩ := allM_mid hl connN
  unfold hop_Strip
  rw [All_eq l _ h1 h2 (by decide), some_bind]
  show (whileO (hop_Strip_L0 (allM l connN)) (0, [])).bind _ = _
  rw [strip_conn _ a1 a2, some_bind, some_bind, some_bind]
  have e1 : (pieces 32 [104, 111, 115, 116, 32, 99, 97, 99, 104, 101, 45, 99, 111, 110, 116, 114, 111, 108, 32, 118, 97, 114, 121, 32, 118, 97, 114, 105, 97, 110, 116, 115, 32, 118, 97, 114, 105, 97, 110, 116, 45, 107, 101, 121, 32, 118, 105, 97]) = keptL.map lower := by decide
  have e2 : (pieces 32 [99, 111, 110, 110, 101, 99, 116, 105, 111, 110, 32, 107, 101, 101, 112, 45, 97, 108, 105, 118, 101, 32, 112, 114, 111, 120, 121, 45, 99, 111, 110, 110, 101, 99, 116, 105, 111, 110, 32, 112, 114, 111, 120, 121, 45, 97, 117, 116, 104, 101, 110, 116, 105, 99, 97, 116, 101, 32, 112, 114, 111, 120, 121, 45, 97, 117, 116, 104, 111, 114, 105, 122, 97, 116, 105, 111, 110, 32, 116, 101, 32, 116, 114, 97, 105, 108, 101, 114, 32, 116, 114, 97, 110, 115, 102, 101, 114, 45, 101, 110, 99, 111, 100, 105, 110, 103, 32, 99, 111, 110, 116, 101, 110, 116, 45, 108, 101, 110, 103, 116, 104, 32, 117, 112, 103, 114, 97, 100, 101]) = fixedL.map lower := by decide
  rw [e1, e2]
  rw [filter_loop l (fun f => !struck l f) _ hl.1 ?_ ?_]
  · rfl
  · intro n hn out ho
    have hf := hl.2 _ (List.getElem_mem hn)
    unfold hop_Strip_L1
    simp only []
    rw [lt_true hn, bif_true, xnth_get hn, some_bind]
    generalize l[n] = f at *
    rw [Lower_eq _ (by omega), some_bind, some_bind, wrs (by have := hl.1; omega)]
    have hg : (mget ((fixedL.map lower).foldl (fun m k => mset m k true) ((keptL.map lower).foldl (fun m k => mdel m k) ((allM l connN).foldl (fun m x => mset m (lower x) true) []))) (lower f.fName) false).1 = struck l f := by
      have h3 := fold_set (fun x => x) (lower f.fName) (fixedL.map lower) ((keptL.map lower).foldl (fun m k => mdel m k) ((allM l connN).foldl (fun m x => mset m (lower x) true) []))
      rw [h3, fold_del _ _ _ (ND_fold_set lower _ _ (by unfold ND; simp)), fold_set lower]
      unfold struck
      rw [List.any_map, List.any_map]
      have e4 : ∀ L : List Str, (L.any ((fun x => x == lower f.fName) ∘ lower)) = L.any (fold f.fName) := fun L => any_low f.fName L
      rw [e4, e4, any_low]
      have : (mget ([] : List (Str × Bool)) (lower f.fName) false).1 = false := rfl
      rw [this, Bool.false_or, Bool.or_comm]
    rw [hg]
    cases struck l f with
    | true => rfl
    | false => rw [Bool.not_false, bif_true, xapp_sm (by have := hl.1; omega) (one_sm _), some_bind]; rfl
  · intro out
    unfold hop_Strip_L1
    simp only []
    rw [lt_false (Nat.le_refl _), bif_false]
theorem among_eq (name : Str) (l : List Str) (hn : name.length ≤ 1073741824) (hl : l.length ≤ 1000000) (hs : ∀ x ∈ l, x.length ≤ 1073741824) : ref19_among name l = some (l.any (fold name)) := by
  unfold ref19_among
  have := while_any (ρ := Unit ⊕ Bool) (ref19_among_L0 name l) l (fold name) (.inr true) (.inl ()) ?_ ?_
  · rw [this, some_bind]
    cases l.any (fold name) <;> rfl
  · intro n h
    unfold ref19_among_L0
    rw [lt_true h, bif_true, xnth_get h, some_bind, RFold_eq _ _ hn (hs _ (List.getElem_mem h)), some_bind, wrs (by omega)]
    cases fold name l[n] <;> simp
  · unfold ref19_among_L0
    rw [lt_false (Nat.le_refl _), bif_false]
theorem RStrip_eq (l : List GField) (hl : midL l) : ref19_Strip l = some (stripF l) := by
  obtain ⟨h1, h2⟩ := midL_F hl
  obtain ⟨a1, a2⟩ := allM_mid hl connN
  unfold ref19_Strip
  rw [RAll_eq l _ h1 h2 (by decide), some_bind]
  show (whileO (ref19_Strip_L0 l (allM l connN)) ([], 0)).bind _ = _
  rw [filter_loop l (fun f => !struck l f) _ hl.1 ?_ ?_]
  · rfl
  · intro n hn out ho
    have hf := hl.2 _ (List.getElem_mem hn)
    have hg := xnth_get hn
    unfold ref19_Strip_L0
    simp only []
    rw [lt_true hn, bif_true, hg, some_bind]
    generalize l[n] = f at *
    have k1 := among_eq f.fName fixedL (by omega) (by decide) (by decide)
    have k2 := among_eq f.fName (allM l connN) (by omega) (by omega) (fun x hx => by have := a2 x hx; omega)
    have k3 := among_eq f.fName keptL (by omega) (by decide) (by decide)
    unfold fixedL at k1
    unfold keptL at k3
    rw [k1, some_bind, some_bind, k2, some_bind, some_bind, k3, some_bind, wrs (by have := hl.1; omega)]
    have hxa := xapp_sm (l := out) (k := [f]) (by have := hl.1; omega) (one_sm _)
    have e : ((some f).bind fun x79 => (xapp out [x79]).bind fun l87 => some (Sum.inl (l87, ((n + 1 : Nat) : Int))) : Option ((List GField × Int) ⊕ List GField)) = some (.inl (out ++ [f], ((n + 1 : Nat) : Int))) := by rw [some_bind, hxa, some_bind]
    unfold struck fixedL keptL
    generalize List.any _ (fold f.fName) = b1
    generalize List.any _ (fold f.fName) = b2
    generalize List.any _ (fold f.fName) = b3
    cases b1 <;> cases b2 <;> cases b3 <;> first | rfl | exact e
  · intro out
    unfold ref19_Strip_L0
    simp only []
    rw [lt_false (Nat.le_refl _), bif_false]
end Go.Eng.Pure
