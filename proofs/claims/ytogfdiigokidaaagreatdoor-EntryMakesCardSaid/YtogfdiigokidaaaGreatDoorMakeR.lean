/- A part of the proof of laws of the seat. -/
import Derived.Test.YtogfdiigokidaaaGreatDoorHopP
namespace Go.Eng.Pure
open Go Go.Eng
set_option linter.unusedVariables false
theorem RAxEqual_eq (a b : List GAxis) (ha : a.length ≤ 1073741824) (hs : ∀ x ∈ a, x.fValues.length ≤ 1073741824) : ref10_Equal a b = some (decide (a = b)) := by
  unfold ref10_Equal
  rw [neI]
  by_cases hl : a.length = b.length
  · have e : (a.length != b.length) = false := by simp [hl]
    rw [e, bif_false, while_same a b _ hl]
    · by_cases h : a = b <;> simp [h]
    · intro n hn hb
      have h1 := hs _ (List.getElem_mem hn)
      unfold ref10_Equal_L0
      rw [lt_true hn, bif_true, xnth_get hn, some_bind, xnth_get hb, some_bind, some_bind, some_bind, wrs (by omega)]
      generalize a[n] = x at *
      generalize b[n] = y at *
      obtain ⟨xn, xv⟩ := x
      obtain ⟨yn, yv⟩ := y
      simp only [] at h1 ⊢
      rw [SameStrings10_eq _ _ h1]
      by_cases h2 : xn = yn
      · by_cases h3 : xv = yv
        · subst h2; subst h3; simp
        · have : (xv == yv) = false := by simpa using h3
          subst h2
          simp only [bne_self_eq_false, bif_false, some_bind, this, GAxis.mk.injEq, true_and, h3, if_false]; rfl
      · have : (xn != yn) = true := by simpa using h2
        simp only [this, bif_true, some_bind, GAxis.mk.injEq, h2, false_and, if_false]
    · unfold ref10_Equal_L0
      rw [lt_false (Nat.le_refl _), bif_false]
  · have e : (a.length != b.length) = true := by simp [hl]
    rw [e, bif_true, decide_eq_false (fun h => hl (by rw [h]))]
theorem smL_keep {l : List GField} (h : keepF l = true) : smL l := keepF_sm h
theorem stripF_sm {l : List GField} (h : smL l) : smL (stripF l) :=
  ⟨Nat.le_trans (List.length_filter_le _ _) h.1, fun f hf => h.2 f ((List.mem_filter.1 hf).1)⟩
def mkS (q : GRequest) (r : GResponse) (rq rc : Int) : GEntry × List GAxis :=
  if ((parV r.fFields).2 == 0 && (parK r.fFields (parV r.fFields).1).2 == 0) = true then (⟨(parK r.fFields (parV r.fFields).1).1, [], [], r.fReason, stripF r.fFields, r.fBody, rq, rc⟩, (parV r.fFields).1)
  else (⟨[], (namesF r.fFields).1, snapF q.fFields (namesF r.fFields).1, r.fReason, stripF r.fFields, r.fBody, rq, rc⟩, [])
theorem names_sm {l : List GField} (h : smL l) : (namesF l).1.length ≤ 64 ∧ ∀ n ∈ (namesF l).1, n.length ≤ 300 := by
  refine ⟨namesF_len h, fun n hn => ?_⟩
  unfold namesF at hn
  split at hn
  · simp at hn
  · have := (names_spec ((allM l varyN).map lower)).2 n
    rw [this] at hn
    obtain ⟨m, hm, rfl⟩ := List.mem_map.1 hn
    rw [lower_len]
    exact (allV_sm h).2 m hm
theorem Make_eq (q : GRequest) (r : GResponse) (rq rc : Int) (hq : smL q.fFields) (hr : smL r.fFields) : entry_Make q r rq rc = some (mkS q r rq rc) := by
  have hm := midL_of hr
  obtain ⟨n1, n2⟩ := names_sm hr
  unfold entry_Make mkS
  rw [Strip_eq _ hm, some_bind, VParse_eq _ hm, some_bind, KParse_eq _ _ hm (parV_smX hm), some_bind]
  cases ((parV r.fFields).2 == 0 && (parK r.fFields (parV r.fFields).1).2 == 0) with
  | true => rfl
  | false => rw [bif_false, Names_eq _ hr, some_bind, Snapshot_eq _ _ hq (by omega) (fun n hn => by have := n2 n hn; omega), some_bind]; rfl
theorem RMake_eq (q : GRequest) (r : GResponse) (rq rc : Int) (hq : smL q.fFields) (hr : smL r.fFields) : ref26_Make q r rq rc = some (mkS q r rq rc) := by
  have hm := midL_of hr
  obtain ⟨n1, n2⟩ := names_sm hr
  unfold ref26_Make mkS
  rw [RStrip_eq _ hm, some_bind, RVParse_eq _ hm, some_bind, RKParse_eq _ _ hm (parV_smX hm), some_bind]
  cases ((parV r.fFields).2 == 0 && (parK r.fFields (parV r.fFields).1).2 == 0) with
  | true => rfl
  | false => rw [bif_false, RNames_eq _ hr, some_bind, RSnapshot_eq _ _ hq (by omega) (fun n hn => by have := n2 n hn; omega), some_bind]; rfl
theorem addK_sm (axes : List GAxis) : ∀ (ks out o : List (List Str)), addK axes ks out = some o → o.length ≤ out.length + ks.length ∧ (out ≠ [] → o ≠ []) ∧ (ks ≠ [] → o ≠ []) ∧ ∀ x ∈ o, x ∈ out ∨ ∃ k ∈ ks, (resS axes k).2 = true ∧ (resS axes k).1 = x
  | [], out, o, h => by unfold addK at h; injection h with h; subst h; exact ⟨by simp, fun h => h, fun h => absurd rfl h, fun x h => .inl h⟩
  | k :: ks, out, o, h => by
    unfold addK at h
    split at h
    · rename_i hr
      obtain ⟨h1, h2, h3, h4⟩ := addK_sm axes ks _ o h
      have hne : (if out.any (fun k_1 => k_1 == (resS axes k).1) = true then out else out ++ [(resS axes k).1]) ≠ [] := by
        split
        · rename_i ha; intro e; rw [e] at ha; simp at ha
        · simp
      refine ⟨?_, fun _ => h2 hne, fun _ => h2 hne, fun x hx => ?_⟩
      · have : (if out.any (fun k_1 => k_1 == (resS axes k).1) = true then out else out ++ [(resS axes k).1]).length ≤ out.length + 1 := by split <;> simp
        simp only [List.length_cons]; omega
      · rcases h4 x hx with h | ⟨k', hk', e⟩
        · split at h
          · exact .inl h
          · rcases List.mem_append.1 h with h | h
            · exact .inl h
            · rw [List.mem_singleton] at h; subst h; exact .inr ⟨k, by simp, hr, rfl⟩
        · exact .inr ⟨k', by simp [hk'], e⟩
    · cases h
theorem resS_len {axes : List GAxis} {k : List Str} (h : (resS axes k).2 = true) : (resS axes k).1.length = axes.length := by
  have gen : ∀ (al : List GAxis) (kl acc out : List Str), kl.length = al.length → resL al kl acc = some out → out.length = acc.length + al.length := by
    intro al
    induction al with
    | nil => intro kl acc out hl h; unfold resL at h; cases kl <;> (injection h with h; subst h; simp)
    | cons a al ih =>
      intro kl acc out hl h
      cases kl with
      | nil => cases hl
      | cons k kl =>
        unfold resL at h
        cases hf : a.fValues.find? (samV a k) with
        | none => rw [hf] at h; cases h
        | some v =>
          rw [hf] at h
          have := ih kl _ out (by simpa using hl) h
          simp only [List.length_append, List.length_cons, List.length_nil] at this ⊢; omega
  unfold resS at h ⊢
  split at h
  · rename_i hl
    rw [if_pos hl]
    cases hr : resL axes k [] with
    | none => rw [hr] at h; cases h
    | some o => simpa using gen axes k [] o hl hr
  · cases h
theorem parK_facts {l : List GField} {axes : List GAxis} (hl : midL l) (h : (parK l axes).2 = 0) : valB axes = true ∧ (parK l axes).1 ≠ [] ∧ (parK l axes).1.length ≤ 64 ∧ ∀ k ∈ (parK l axes).1, k.length = axes.length := by
  unfold parK at h ⊢
  cases hv : valB axes with
  | false => rw [hv] at h; exact absurd h (by simp)
  | true =>
    rw [hv, if_pos rfl] at h
    rw [if_pos rfl]
    by_cases h0 : (allM l keyN).length = 0
    · rw [if_pos h0] at h; exact absurd h (by simp)
    · rw [if_neg h0] at h
      rw [if_neg h0]
      cases ho : optL memK (allM l keyN) with
      | none => rw [ho] at h; exact absurd h (by simp)
      | some ks =>
        rw [ho] at h
        simp only [] at h ⊢
        cases ha : addK axes ks [] with
        | none => rw [ha] at h; exact absurd h (by simp)
        | some o =>
          simp only []
          obtain ⟨a1, a2, a3, a4⟩ := addK_sm axes ks [] o ha
          obtain ⟨o1, o2⟩ := optK_sm hl ho
          have hl2 := (optL_len _ _ _ ho).1
          refine ⟨trivial, a3 (fun e => h0 (by rw [← hl2, e]; rfl)), by simp only [List.length_nil] at a1; omega, fun k hk => ?_⟩
          rcases a4 k hk with h | ⟨k', _, h1, h2⟩
          · simp at h
          · rw [← h2]; exact resS_len h1
theorem mkS_sm (q : GRequest) (r : GResponse) (rq rc : Int) (hr : smL r.fFields) : lnE (mkS q r rq rc).1 ∧ (mkS q r rq rc).2.length ≤ 1073741824 ∧ ∀ x ∈ (mkS q r rq rc).2, x.fValues.length ≤ 1073741824 := by
  have hm := midL_of hr
  have hsf := (stripF_sm hr).1
  obtain ⟨n1, n2⟩ := names_sm hr
  unfold mkS
  split
  · rename_i h
    rw [Bool.and_eq_true, beq_iff_eq, beq_iff_eq] at h
    obtain ⟨k1, k2, k3, k4⟩ := parK_facts hm h.2
    obtain ⟨x1, x2⟩ := parV_smX hm
    refine ⟨⟨by simp only []; omega, fun k hk => by simp only [] at hk; rw [k4 k hk]; omega, by simp, by simp, by simp only []; omega⟩, by simp only []; omega, fun x hx => ?_⟩
    simp only [] at hx
    have := (x2 x hx).2; omega
  · exact ⟨⟨by simp, by simp, by simp only []; omega, by simp only []; rw [snap_len]; omega, by simp only []; omega⟩, by simp, by simp⟩
theorem EntryMakes_true (q : GRequest) (r : GResponse) (rq rc : Int) : law26_EntryMakes q r rq rc = some true := by
  unfold law26_EntryMakes
  rw [keep_Request_eq, some_bind, keep_Response_eq, some_bind]
  cases hq : keepQ q with
  | false => rfl
  | true =>
    cases hr : keepR r with
    | false => rfl
    | true =>
      unfold keepQ at hq
      unfold keepR at hr
      simp only [Bool.and_eq_true] at hq hr
      have h1 := smL_keep hq.1.2
      have h2 := smL_keep hr.1.2
      obtain ⟨s1, s2, s3⟩ := mkS_sm q r rq rc h2
      simp only [Bool.not_true, bif_false, some_bind]
      rw [Make_eq _ _ _ _ h1 h2, some_bind, RMake_eq _ _ _ _ h1 h2, some_bind, REqual_eq _ _ s1, some_bind, RAxEqual_eq _ _ s2 s3, awake26]
      simp
end Go.Eng.Pure
