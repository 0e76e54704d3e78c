/- Layer 19: the names are sorted, and all members are among them. -/
import Derived.Test.YteaklcnfmkaepaaDoorVaryQ
import Derived.Test.YteaklcnfmkaepaaDoorListLaw2
namespace Go.Eng.Pure
open Go Go.Eng
set_option linter.unusedVariables false
set_option maxRecDepth 100000 in
theorem tokB_low (c : UInt8) : tokB (lowB c) = tokB c := by
  have := all_u8 (fun c => tokB (lowB c) == tokB c) (by decide) c
  exact eq_of_beq this
theorem tok_lower (s : Str) : tok (lower s) = tok s := by
  unfold tok lower
  rw [List.all_map]
  have : (tokB ∘ lowB) = tokB := funext tokB_low
  rw [this]
  cases s <;> rfl
theorem wr_pred {n : Nat} (h : 0 < n) (hn : n ≤ 1073741824) : wr ((n : Int) - 1) = ((n - 1 : Nat) : Int) := by
  rw [show (n : Int) - 1 = ((n - 1 : Nat) : Int) by omega]
  exact wrn (by omega)
theorem Sorted_loop (r : List Str × Bool) (hl : r.1.length ≤ 64) (hm : ∀ m ∈ r.1, m.length ≤ 1000) (h1 : ∀ m ∈ r.1, lower m = m ∧ tok m = true) (h2 : Asc r.1) : ∀ (k i : Nat), i + k = r.1.length → whileO (law19_VarySorted_L0 r) (i : Int) = some (.inl ())
  | 0, i, hi => by
    obtain rfl : i = r.1.length := by omega
    have hb : law19_VarySorted_L0 r (r.1.length : Int) = some (.inr (.inl ())) := by
      simp only [law19_VarySorted_L0, lt_false (Nat.le_refl r.1.length), bif_false]
    rw [whileO_done hb]
  | k + 1, i, hi => by
    have hlt : i < r.1.length := by omega
    have hmi := hm _ (List.getElem_mem hlt)
    obtain ⟨e1, e2⟩ := h1 _ (List.getElem_mem hlt)
    have hb : law19_VarySorted_L0 r (i : Int) = some (.inl ((i + 1 : Nat) : Int)) := by
      simp only [law19_VarySorted_L0, lt_true hlt, bif_true, xnth_get hlt, some_bind, RToken_eq _ (show r.1[i].length ≤ 1073741824 by omega), RLower_eq _ (show r.1[i].length ≤ 1073741824 by omega), wrs (show i ≤ 4 * 1073741824 by omega), e1, e2, bne_self_eq_false, bif_false, Bool.not_true]
      by_cases h0 : 0 < i
      · have hp : i - 1 < r.1.length := by omega
        have hlt2 : r.1[i - 1] < r.1[i] := List.pairwise_iff_getElem.1 h2 (i - 1) i hp hlt (by omega)
        rw [show decide ((0 : Int) < (i : Int)) = true from decide_eq_true (by omega), bif_true, wr_pred h0 (by omega), xnth_get hp]
        simp only [some_bind, Proofs.bytesLess_eq, decide_eq_true hlt2, Bool.not_true, bif_false]
      · rw [show decide ((0 : Int) < (i : Int)) = false from decide_eq_false (by omega), bif_false]
        simp only [some_bind, bif_false]
    rw [whileO_next hb, Sorted_loop r hl hm h1 h2 k (i + 1) (by omega)]
theorem Found_loop (r : List Str × Bool) (ms : List Str) (j : Nat) (hj : j < ms.length) (hmj : ms[j].length ≤ 1000) (hl : r.1.length ≤ 64) (hm : ∀ m ∈ r.1, m.length ≤ 1000) : ∀ (k i : Nat) (b : Bool), i + k = r.1.length →
    whileO (law19_VarySorted_L1 r ms (j : Int)) (b, (i : Int)) = some (b || (r.1.drop i).any (fold ms[j]))
  | 0, i, b, hi => by
    obtain rfl : i = r.1.length := by omega
    have hb : law19_VarySorted_L1 r ms (j : Int) (b, (r.1.length : Int)) = some (.inr b) := by
      simp only [law19_VarySorted_L1, lt_false (Nat.le_refl r.1.length), bif_false]
    rw [whileO_done hb]; simp
  | k + 1, i, b, hi => by
    have hlt : i < r.1.length := by omega
    have hmi := hm _ (List.getElem_mem hlt)
    have hb : law19_VarySorted_L1 r ms (j : Int) (b, (i : Int)) = some (.inl (b || fold ms[j] r.1[i], ((i + 1 : Nat) : Int))) := by
      simp only [law19_VarySorted_L1, lt_true hlt, bif_true, xnth_get hlt, xnth_get hj, some_bind, RFold_eq _ _ (show ms[j].length ≤ 1073741824 by omega) (show r.1[i].length ≤ 1073741824 by omega), wrs (show i ≤ 4 * 1073741824 by omega)]
      cases b <;> rfl
    rw [whileO_next hb, Found_loop r ms j hj hmj hl hm k (i + 1) _ (by omega), List.drop_eq_getElem_cons hlt, List.any_cons, Bool.or_assoc]
theorem All_loop (r : List Str × Bool) (ms : List Str) (hms : ms.length ≤ 64) (hmm : ∀ m ∈ ms, m.length ≤ 1000) (hl : r.1.length ≤ 64) (hm : ∀ m ∈ r.1, m.length ≤ 1000) (h : ∀ m ∈ ms, r.1.any (fold m) = true) : ∀ (k i : Nat), i + k = ms.length →
    whileO (law19_VarySorted_L2 r ms) (i : Int) = some (.inl ())
  | 0, i, hi => by
    obtain rfl : i = ms.length := by omega
    have hb : law19_VarySorted_L2 r ms (ms.length : Int) = some (.inr (.inl ())) := by
      simp only [law19_VarySorted_L2, lt_false (Nat.le_refl ms.length), bif_false]
    rw [whileO_done hb]
  | k + 1, i, hi => by
    have hlt : i < ms.length := by omega
    have hf := Found_loop r ms i hlt (hmm _ (List.getElem_mem hlt)) hl hm r.1.length 0 false (by omega)
    rw [List.drop_zero, h _ (List.getElem_mem hlt)] at hf
    have hb : law19_VarySorted_L2 r ms (i : Int) = some (.inl ((i + 1 : Nat) : Int)) := by
      simp only [law19_VarySorted_L2, lt_true hlt, bif_true]
      rw [show (0 : Int) = ((0 : Nat) : Int) from rfl, hf]
      simp only [some_bind, Bool.or_true, Bool.not_true, bif_false, wrs (show i ≤ 4 * 1073741824 by omega)]
    rw [whileO_next hb, All_loop r ms hms hmm hl hm h k (i + 1) (by omega)]
theorem VarySorted_true (l : List GField) : law19_VarySorted l = some true := by
  unfold law19_VarySorted
  rw [keep_Fields_eq, some_bind]
  cases h3 : keepF l with
  | false => rfl
  | true =>
    have hl : smL l := keepF_sm h3
    obtain ⟨h1, h2⟩ := smL_F hl
    obtain ⟨a1, a2⟩ := allV_sm hl
    rw [Names_eq l hl, RAll_eq l _ h1 h2 (by decide)]
    simp only [Bool.not_true, bif_false, some_bind]
    unfold namesF
    unfold varyN at a1 a2 ⊢
    generalize allM l [86, 97, 114, 121] = ms at a1 a2 ⊢
    by_cases hc : 64 ≤ ms.length ∨ ms.any badN = true
    · rw [if_pos hc]
      simp [awake19]
    · rw [if_neg hc]
      simp only [Bool.not_true, bif_false]
      have hn : ∀ m ∈ ms, tok m = true := by
        intro m hm
        have := List.any_eq_false.1 (Bool.eq_false_iff.2 fun h => hc (.inr h)) m hm
        unfold badN at this
        cases ht : tok m with
        | true => rfl
        | false => simp [ht] at this
      obtain ⟨s1, s2⟩ := names_spec (ms.map lower)
      have hlen : (Lib.compact (sortS (ms.map lower))).length ≤ ms.length := by
        have := compact_len (sortS (ms.map lower))
        rw [sortS_len, List.length_map] at this
        exact this
      have hin : ∀ m ∈ Lib.compact (sortS (ms.map lower)), ∃ x ∈ ms, m = lower x := by
        intro m hm
        obtain ⟨x, hx, rfl⟩ := List.mem_map.1 ((s2 m).1 hm)
        exact ⟨x, hx, rfl⟩
      have hfound : ∀ m ∈ ms, (Lib.compact (sortS (ms.map lower))).any (fold m) = true := by
        intro m hm
        rw [List.any_eq_true]
        exact ⟨lower m, (s2 _).2 (List.mem_map.2 ⟨m, hm, rfl⟩), by rw [fold_comm]; exact fold_lower m⟩
      generalize Lib.compact (sortS (ms.map lower)) = ns at s1 s2 hlen hin hfound ⊢
      have hsm : ∀ m ∈ ns, m.length ≤ 1000 := by
        intro m hm
        obtain ⟨x, hx, rfl⟩ := hin m hm
        have := a2 x hx
        rw [lower_len]; omega
      have hlt : ∀ m ∈ ns, lower m = m ∧ tok m = true := by
        intro m hm
        obtain ⟨x, hx, rfl⟩ := hin m hm
        exact ⟨lower_lower x, by rw [tok_lower]; exact hn x hx⟩
      have p1 := Sorted_loop (ns, true) (by show ns.length ≤ 64; omega) hsm hlt s1 ns.length 0 (by simp)
      have p2 := All_loop (ns, true) ms a1 (fun m h => by have := a2 m h; omega) (by show ns.length ≤ 64; omega) hsm hfound ms.length 0 (by omega)
      rw [show (0 : Int) = ((0 : Nat) : Int) from rfl, p1]
      simp only [some_bind]
      rw [p2]
      simp only [some_bind]
      rw [le_true hlen]
      simp [awake19]
end Go.Eng.Pure
