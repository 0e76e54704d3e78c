/- Layer 19: the values that a Vary list picks: what the functions compute, in plain words; its first laws. -/
import Derived.Test.YteaklcnfmkaepaaDoorAsciiP
import Derived.Test.YteaklcnfmkaepaaDoorCacheP
import Derived.Test.YteaklcnfmkaepaaDoorListLaw
namespace Go.Eng.Pure
open Go Go.Eng
set_option linter.unusedVariables false
theorem SJoin_eq (l : List Str) (h1 : l.length ≤ 1073741824) (h2 : (join l).length ≤ 1073741824) : strings_Join l [44, 32] = some (join l) := by
  unfold strings_Join jo
  rw [if_pos ⟨by show (join l).length ≤ big; simp only [big]; omega, by simp only [big]; omega⟩]; rfl
def kindF (n : Str) : Int :=
  if fold n [65, 99, 99, 101, 112, 116] then 1 else if fold n [65, 99, 99, 101, 112, 116, 45, 76, 97, 110, 103, 117, 97, 103, 101] then 2
  else if fold n [65, 99, 99, 101, 112, 116, 45, 67, 104, 97, 114, 115, 101, 116] then 3 else if fold n [65, 99, 99, 101, 112, 116, 45, 69, 110, 99, 111, 100, 105, 110, 103] then 4 else 0
theorem Kind_eq (n : Str) (hn : n.length ≤ 1073741824) : accept_Kind n = some (kindF n) := by
  unfold accept_Kind kindF
  simp only [show accept_Name 1 = some [65, 99, 99, 101, 112, 116] from rfl, show accept_Name 2 = some [65, 99, 99, 101, 112, 116, 45, 76, 97, 110, 103, 117, 97, 103, 101] from rfl,
    show accept_Name 3 = some [65, 99, 99, 101, 112, 116, 45, 67, 104, 97, 114, 115, 101, 116] from rfl, show accept_Name 4 = some [65, 99, 99, 101, 112, 116, 45, 69, 110, 99, 111, 100, 105, 110, 103] from rfl, some_bind]
  rw [Fold_eq _ _ hn (by decide), Fold_eq _ _ hn (by decide), Fold_eq _ _ hn (by decide), Fold_eq _ _ hn (by decide)]
  simp only [some_bind]
  generalize fold n [65, 99, 99, 101, 112, 116] = a
  generalize fold n [65, 99, 99, 101, 112, 116, 45, 76, 97, 110, 103, 117, 97, 103, 101] = b
  generalize fold n [65, 99, 99, 101, 112, 116, 45, 67, 104, 97, 114, 115, 101, 116] = c
  generalize fold n [65, 99, 99, 101, 112, 116, 45, 69, 110, 99, 111, 100, 105, 110, 103] = d
  cases a <;> cases b <;> cases c <;> cases d <;> rfl
theorem RKind_eq (n : Str) (hn : n.length ≤ 1073741824) : ref10_Kind n = some (kindF n) := by
  unfold ref10_Kind kindF
  simp only [show ref10_Name 1 = some [65, 99, 99, 101, 112, 116] from rfl, show ref10_Name 2 = some [65, 99, 99, 101, 112, 116, 45, 76, 97, 110, 103, 117, 97, 103, 101] from rfl,
    show ref10_Name 3 = some [65, 99, 99, 101, 112, 116, 45, 67, 104, 97, 114, 115, 101, 116] from rfl, show ref10_Name 4 = some [65, 99, 99, 101, 112, 116, 45, 69, 110, 99, 111, 100, 105, 110, 103] from rfl, some_bind]
  rw [RFold_eq _ _ hn (by decide), RFold_eq _ _ hn (by decide), RFold_eq _ _ hn (by decide), RFold_eq _ _ hn (by decide)]
  simp only [some_bind]
  generalize fold n [65, 99, 99, 101, 112, 116] = a
  generalize fold n [65, 99, 99, 101, 112, 116, 45, 76, 97, 110, 103, 117, 97, 103, 101] = b
  generalize fold n [65, 99, 99, 101, 112, 116, 45, 67, 104, 97, 114, 115, 101, 116] = c
  generalize fold n [65, 99, 99, 101, 112, 116, 45, 69, 110, 99, 111, 100, 105, 110, 103] = d
  cases a <;> cases b <;> cases c <;> cases d <;> rfl
def varyV (l : List GField) (n : Str) : Str :=
  if (getF l n).length = 0 then [] else if (kindF n != 0) && decide ((allM l n).length < 64) then 61 :: lower (join (allM l n)) else 61 :: join (getF l n)
/-- fields that are small together -/
def smL (l : List GField) : Prop := l.length ≤ 70 ∧ ∀ f ∈ l, f.fName.length ≤ 300 ∧ f.fValue.length ≤ 300
theorem smL_F {l : List GField} (h : smL l) : l.length ≤ 1073741824 ∧ ∀ f ∈ l, smF f := ⟨by have := h.1; omega, fun f hf => by have := h.2 f hf; exact ⟨by omega, by omega⟩⟩
theorem joinG_sm {l : List GField} (h : smL l) (n : Str) : (getF l n).length ≤ 70 ∧ (join (getF l n)).length ≤ 30000 := by
  have h1 := getF_len l n
  have h2 := join_len (getF l n) 300 (getF_sm l n 300 fun f hf => (h.2 f hf).2)
  have h3 := h.1
  exact ⟨by omega, by omega⟩
theorem joinA_sm {l : List GField} (h : smL l) (n : Str) : (allM l n).length ≤ 64 ∧ (join (allM l n)).length ≤ 30000 := by
  have h1 := allM_len l n
  have h2 := join_len (allM l n) 300 (allM_sm l n 300 fun f hf => (h.2 f hf).2)
  exact ⟨h1, by omega⟩
theorem eq61 {s : Str} (h : s.length ≤ 30000) : xcat [61] s = some (61 :: s) := by
  rw [xcat_sm (one_sm _) (by omega)]; rfl
theorem Value_eq (n : Str) (l : List GField) (hl : smL l) (hn : n.length ≤ 1073741824) : vary_Value n l = some (varyV l n) := by
  obtain ⟨h1, h2⟩ := smL_F hl
  obtain ⟨g1, g2⟩ := joinG_sm hl n
  obtain ⟨a1, a2⟩ := joinA_sm hl n
  unfold vary_Value varyV
  rw [Has_eq l n h1 h2 hn, All_eq l n h1 h2 hn, Kind_eq n hn, Get_eq l n h1 h2 hn]
  simp only [some_bind]
  rw [Join_eq _ (by omega) (by omega), SJoin_eq _ (by omega) (by omega)]
  simp only [some_bind]
  rw [Lower_eq _ (by omega)]
  simp only [some_bind]
  rw [eq61 g2, eq61 (by rw [lower_len]; exact a2)]
  simp only [some_bind]
  rw [show decide (((allM l n).length : Int) < 64) = decide ((allM l n).length < 64) from lt_nat _ 64]
  unfold hasF
  by_cases hz : (getF l n).length = 0
  · rw [if_pos hz, decide_eq_false (by omega)]; rfl
  · rw [if_neg hz, decide_eq_true (by omega)]
    cases (kindF n != 0) && decide ((allM l n).length < 64) <;> rfl
theorem RValue_eq (n : Str) (l : List GField) (hl : smL l) (hn : n.length ≤ 1073741824) : ref19_VaryValue n l = some (varyV l n) := by
  obtain ⟨h1, h2⟩ := smL_F hl
  obtain ⟨g1, g2⟩ := joinG_sm hl n
  obtain ⟨a1, a2⟩ := joinA_sm hl n
  unfold ref19_VaryValue varyV
  rw [RGet_eq l n h1 h2 hn, RAll_eq l n h1 h2 hn, RKind_eq n hn]
  simp only [some_bind]
  rw [RJoin_eq _ (by omega) (by omega), RJoin_eq _ (by omega) (by omega)]
  simp only [some_bind]
  rw [RLower_eq _ (by omega)]
  simp only [some_bind]
  rw [eq61 g2, eq61 (by rw [lower_len]; exact a2)]
  simp only [some_bind]
  rw [show decide (((allM l n).length : Int) < 64) = decide ((allM l n).length < 64) from lt_nat _ 64, show (((getF l n).length : Int) == 0) = ((getF l n).length == 0) from eqI _ 0]
  by_cases hz : (getF l n).length = 0
  · rw [if_pos hz, beq_iff_eq.2 hz]; rfl
  · rw [if_neg hz, beq_eq_false_iff_ne.2 hz]
    cases (kindF n != 0) <;> cases decide ((allM l n).length < 64) <;> rfl
def snapF (l : List GField) (ns : List Str) : List Str := ns.map (varyV l)
theorem Snapshot_eq (ns : List Str) (l : List GField) (hl : smL l) (hs : ns.length ≤ 1000) (hn : ∀ n ∈ ns, n.length ≤ 1073741824) : vary_Snapshot ns l = some (snapF l ns) := by
  have := while_count (fun n => ((ns.take n).map (varyV l), (n : Int))) ns.length (ns.map (varyV l)) (vary_Snapshot_L0 ns l) ?_ ?_
  · unfold vary_Snapshot
    have e : (([] : List Str), (0 : Int)) = ((ns.take 0).map (varyV l), ((0 : Nat) : Int)) := by simp
    rw [e, this]; rfl
  · intro n hn'
    simp only [vary_Snapshot_L0, lt_true hn', bif_true, xnth_get hn', some_bind, Value_eq _ l hl (hn _ (List.getElem_mem hn')), wrs (show n ≤ 4 * 1073741824 by omega)]
    rw [xapp_sm (by simp; omega) (one_sm _), take_succ_get hn', List.map_append]
    rfl
  · simp only [vary_Snapshot_L0, lt_false (Nat.le_refl ns.length), bif_false, List.take_length]
theorem RSnapshot_eq (ns : List Str) (l : List GField) (hl : smL l) (hs : ns.length ≤ 1000) (hn : ∀ n ∈ ns, n.length ≤ 1073741824) : ref19_Snapshot ns l = some (snapF l ns) := by
  have := while_count (fun n => ((ns.take n).map (varyV l), (n : Int))) ns.length (ns.map (varyV l)) (ref19_Snapshot_L0 ns l) ?_ ?_
  · unfold ref19_Snapshot
    have e : (([] : List Str), (0 : Int)) = ((ns.take 0).map (varyV l), ((0 : Nat) : Int)) := by simp
    rw [e, this]; rfl
  · intro n hn'
    simp only [ref19_Snapshot_L0, lt_true hn', bif_true, xnth_get hn', some_bind, RValue_eq _ l hl (hn _ (List.getElem_mem hn')), wrs (show n ≤ 4 * 1073741824 by omega)]
    rw [xapp_sm (by simp; omega) (one_sm _), take_succ_get hn', List.map_append]
    rfl
  · simp only [ref19_Snapshot_L0, lt_false (Nat.le_refl ns.length), bif_false, List.take_length]
theorem SEqual_eq (a b : List Str) (ha : a.length ≤ 1073741824) : slices_Equal_string_string a b = some (a == b) := by
  unfold slices_Equal_string_string
  rw [neI]
  by_cases hl : a.length = b.length
  · have e : (a.length != b.length) = false := by simp [hl]
    rw [e, bif_false, while_same a b (slices_Equal_string_string_L0 a b) hl]
    · by_cases h : a = b
      · simp [h]
      · simp [h]
    · intro n hn hb
      simp only [slices_Equal_string_string_L0, lt_true hn, bif_true, xnth_get hn, xnth_get hb, some_bind, wrs (show n ≤ 4 * 1073741824 by omega)]
      by_cases he : a[n] = b[n]
      · have : (a[n] != b[n]) = false := by simp [he]
        rw [this, if_pos he]; rfl
      · have : (a[n] != b[n]) = true := by simp [he]
        rw [this, if_neg he]; rfl
    · simp only [slices_Equal_string_string_L0, lt_false (Nat.le_refl a.length), bif_false]
  · have e : (a.length != b.length) = true := by simp [hl]
    have e2 : (a == b) = false := by
      rw [Bool.eq_false_iff]; intro h; exact hl (by rw [eq_of_beq h])
    rw [e, e2]; rfl
theorem snap_len (l : List GField) (ns : List Str) : (snapF l ns).length = ns.length := by simp [snapF]
theorem Match_eq (ns s : List Str) (l : List GField) (hl : smL l) (hs : ns.length ≤ 1000) (hn : ∀ n ∈ ns, n.length ≤ 1073741824) : vary_Match ns s l = some (snapF l ns == s) := by
  unfold vary_Match
  rw [Snapshot_eq ns l hl hs hn, eqI]
  simp only [some_bind]
  rw [SEqual_eq _ _ (by rw [snap_len]; omega)]
  simp only [some_bind]
  by_cases h : ns.length = s.length
  · rw [beq_iff_eq.2 h]; rfl
  · rw [beq_eq_false_iff_ne.2 h]
    have : (snapF l ns == s) = false := by
      rw [Bool.eq_false_iff]; intro hc; have := eq_of_beq hc; rw [← this, snap_len] at h; exact h rfl
    rw [this]; rfl
theorem RMatch_eq (ns s : List Str) (l : List GField) (hl : smL l) (hs : ns.length ≤ 1000) (hn : ∀ n ∈ ns, n.length ≤ 1073741824) : ref19_VaryMatch ns s l = some (snapF l ns == s) := by
  unfold ref19_VaryMatch
  rw [RSnapshot_eq ns l hl hs hn, eqI]
  simp only [some_bind]
  rw [SameStrings10_eq _ _ (by rw [snap_len]; omega)]
  simp only [some_bind]
  by_cases h : ns.length = s.length
  · rw [beq_iff_eq.2 h]; rfl
  · rw [beq_eq_false_iff_ne.2 h]
    have : (snapF l ns == s) = false := by
      rw [Bool.eq_false_iff]; intro hc; have := eq_of_beq hc; rw [← this, snap_len] at h; exact h rfl
    rw [this]; rfl
theorem awake19 : law19_awake = some true := by
  have e1 : smL [(⟨[65, 99, 99, 101, 112, 116, 45, 76, 97, 110, 103, 117, 97, 103, 101], [101, 110, 44, 68, 69]⟩ : GField), (⟨[120], [97]⟩ : GField)] := ⟨by decide, by decide⟩
  have e2 : smL [(⟨[97, 99, 99, 101, 112, 116, 45, 108, 97, 110, 103, 117, 97, 103, 101], [69, 78, 32, 44, 32, 100, 101]⟩ : GField), (⟨[120], [65]⟩ : GField)] := ⟨by decide, by decide⟩
  unfold law19_awake
  rw [Snapshot_eq _ _ e1 (by decide) (by decide), some_bind, Match_eq _ _ _ e2 (by decide) (by decide), some_bind, Snapshot_eq _ _ e1 (by decide) (by decide), some_bind, Match_eq _ _ _ e2 (by decide) (by decide), some_bind]
  decide
theorem VaryValues_true (ns s : List Str) (l : List GField) : law19_VaryValues ns s l = some true := by
  unfold law19_VaryValues
  rw [keep_Strings_eq, keep_Strings_eq, keep_Fields_eq]
  simp only [some_bind]
  cases h1 : keepS ns with
  | false => rfl
  | true =>
    cases h2 : keepS s with
    | false => rfl
    | true =>
      cases h3 : keepF l with
      | false => rfl
      | true =>
        have hl : smL l := keepF_sm h3
        obtain ⟨n1, n2⟩ := keepS_sm h1
        have hn : ∀ n ∈ ns, n.length ≤ 1073741824 := fun n h => by have := n2 n h; omega
        simp only [Bool.not_true, bif_false, some_bind]
        have := while_count (ρ := Unit ⊕ Bool) (fun n => (n : Int)) ns.length (.inl ()) (law19_VaryValues_L0 ns l) ?_ ?_
        · have e : (0 : Int) = ((0 : Nat) : Int) := rfl
          rw [e, this, some_bind]
          simp only []
          rw [Snapshot_eq ns l hl (by omega) hn, RSnapshot_eq ns l hl (by omega) hn, Match_eq ns s l hl (by omega) hn, RMatch_eq ns s l hl (by omega) hn]
          simp only [some_bind]
          rw [SameStrings_eq _ _ (by rw [snap_len]; omega)]
          simp [awake19]
        · intro n hn'
          have hm := hn _ (List.getElem_mem hn')
          simp only [law19_VaryValues_L0, lt_true hn', bif_true, xnth_get hn', some_bind, Value_eq _ l hl hm, RValue_eq _ l hl hm, wrs (show n ≤ 4 * 1073741824 by omega), bne_self_eq_false, bif_false]
        · simp only [law19_VaryValues_L0, lt_false (Nat.le_refl ns.length), bif_false]
def without (l : List GField) (n : Str) : List GField := l.filter fun f => !fold f.fName n
theorem Remove01_eq (l : List GField) (n : Str) (hl : l.length ≤ 1073741824) (hf : ∀ f ∈ l, smF f) (hn : n.length ≤ 1073741824) : ref01_Remove l n = some (without l n) := by
  have := while_count (fun k => (without (l.take k) n, (k : Int))) l.length (without l n) (ref01_Remove_L0 l n) ?_ ?_
  · unfold ref01_Remove
    have e : (([] : List GField), (0 : Int)) = (without (l.take 0) n, ((0 : Nat) : Int)) := by simp [without]
    rw [e, this]; rfl
  · intro k hk
    have hln : (without (l.take k) n).length ≤ k := Nat.le_trans (List.length_filter_le _ _) (by simp; omega)
    simp only [ref01_Remove_L0, lt_true hk, bif_true, xnth_get hk, some_bind, RFold_eq _ _ (hf _ (List.getElem_mem hk)).1 hn, wrs (show k ≤ 4 * 1073741824 by omega)]
    rw [xapp_sm (by omega) (one_sm _)]
    have e : without (l.take (k + 1)) n = if fold l[k].fName n then without (l.take k) n else without (l.take k) n ++ [l[k]] := by
      unfold without
      rw [take_succ_get hk, List.filter_append]
      cases hp : fold l[k].fName n <;> simp [hp]
    rw [e]
    cases fold l[k].fName n <;> rfl
  · simp only [ref01_Remove_L0, lt_false (Nat.le_refl l.length), bif_false, List.take_length]
theorem without_sm {l : List GField} (h : smL l) (n : Str) : smL (without l n) :=
  ⟨Nat.le_trans (List.length_filter_le _ _) h.1, fun f hf => h.2 f ((List.mem_filter.1 hf).1)⟩
theorem without_none (l : List GField) (n : Str) : getF (without l n) n = [] := by
  unfold getF without
  rw [List.filter_filter, List.map_eq_nil_iff, List.filter_eq_nil_iff]
  intro f _
  cases fold f.fName n <;> simp
theorem varyV_cons {l : List GField} {n : Str} (h : (getF l n).length ≠ 0) : ∃ s, varyV l n = 61 :: s := by
  unfold varyV
  rw [if_neg h]
  split
  · exact ⟨_, rfl⟩
  · exact ⟨_, rfl⟩
theorem without_law (l : List GField) (ns : List Str) (n : Str) (hn : n ∈ ns) : (snapF (without l n) ns == snapF l ns) = ((without l n).length == l.length) := by
  by_cases h : (without l n).length = l.length
  · have : without l n = l := by
      have hs : (without l n).Sublist l := List.filter_sublist
      exact hs.eq_of_length h
    rw [this]; simp
  · rw [beq_eq_false_iff_ne.2 h, beq_eq_false_iff_ne]
    intro hc
    have hv : varyV (without l n) n = varyV l n := by
      have := (List.map_inj_left.1 (show ns.map (varyV (without l n)) = ns.map (varyV l) from hc)) n hn
      exact this
    have hg : (getF l n).length ≠ 0 := by
      intro h0
      have h0 : getF l n = [] := List.length_eq_zero_iff.1 h0
      unfold getF at h0
      rw [List.map_eq_nil_iff, List.filter_eq_nil_iff] at h0
      apply h
      unfold without
      rw [List.filter_eq_self.2]
      intro f hf
      have := h0 f hf
      simpa using this
    obtain ⟨s, hs⟩ := varyV_cons hg
    rw [hs] at hv
    unfold varyV at hv
    rw [without_none, if_pos List.length_nil] at hv
    exact List.cons_ne_nil _ _ hv.symm
theorem VaryItself_true (ns : List Str) (l : List GField) (a : Int) : law19_VaryItself ns l a = some true := by
  unfold law19_VaryItself
  rw [keep_Strings_eq, keep_Fields_eq]
  simp only [some_bind]
  cases h1 : keepS ns with
  | false => rfl
  | true =>
    cases h3 : keepF l with
    | false => rfl
    | true =>
      have hl : smL l := keepF_sm h3
      obtain ⟨n1, n2⟩ := keepS_sm h1
      have hn : ∀ n ∈ ns, n.length ≤ 1073741824 := fun n h => by have := n2 n h; omega
      simp only [Bool.not_true, bif_false, some_bind, Bool.false_or]
      cases ha : decide (a < 0) with
      | true => rfl
      | false =>
        cases hb : decide ((ns.length : Int) ≤ a) with
        | true => rfl
        | false =>
          simp only [Bool.or_self, bif_false]
          obtain ⟨k, rfl⟩ : ∃ k : Nat, a = (k : Int) := ⟨a.toNat, by have := of_decide_eq_false ha; omega⟩
          have hk : k < ns.length := by have := of_decide_eq_false hb; omega
          have hm := List.getElem_mem hk
          rw [Snapshot_eq ns l hl (by omega) hn, xnth_get hk]
          simp only [some_bind]
          rw [Remove01_eq l _ (smL_F hl).1 (smL_F hl).2 (hn _ hm), Match_eq ns _ l hl (by omega) hn, some_bind, some_bind, Match_eq ns _ _ (without_sm hl _) (by omega) hn, some_bind, without_law l ns _ hm, eqI]
          simp [awake19]
end Go.Eng.Pure
