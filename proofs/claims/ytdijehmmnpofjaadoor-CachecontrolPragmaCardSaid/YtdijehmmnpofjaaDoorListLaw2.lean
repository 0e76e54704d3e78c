/- The laws of layer 7 on joining and on several lines, in plain words. -/
import Derived.Test.YtdijehmmnpofjaaDoorListLaw
namespace Go.Eng.Pure
open Go Go.Eng
set_option linter.unusedVariables false
/-- The state behind a text that is not cut; none if it is. -/
def scan (a : UInt8) : Nat → Str → Option Nat
  | st, [] => some st
  | st, c :: r => if st = 0 ∧ c = a then none else scan a (step st c) r
theorem scan_append (a : UInt8) : ∀ (x y : Str) (st : Nat), scan a st (x ++ y) = (scan a st x).bind fun st' => scan a st' y
  | [], y, st => rfl
  | c :: r, y, st => by
    have e : ∀ z, scan a st (c :: z) = if st = 0 ∧ c = a then none else scan a (step st c) z := fun _ => rfl
    show scan a st (c :: (r ++ y)) = _
    rw [e, e]
    split
    · rfl
    · exact scan_append a r y _
theorem segs_scan (a : UInt8) : ∀ (x y : Str) (st st' : Nat) (cur : Str), scan a st x = some st' → segs a st cur (x ++ y) = segs a st' (cur ++ x) y
  | [], y, st, st', cur, h => by cases h; simp
  | c :: r, y, st, st', cur, h => by
    unfold scan at h
    split at h
    · cases h
    · rename_i hc
      show segs a st cur (c :: (r ++ y)) = _
      unfold segs
      rw [if_neg hc, segs_scan a r y _ st' _ h]
      simp
      cases y <;> rfl
theorem segs_pieces (a : UInt8) : ∀ (r : Str) (st : Nat) (cur : Str), scan a 0 cur = some st → ∀ p ∈ segs a st cur r, ∃ st', scan a 0 p = some st'
  | [], st, cur, h, p, hp => by
    simp only [segs, List.mem_singleton] at hp
    subst hp; exact ⟨st, h⟩
  | c :: r, st, cur, h, p, hp => by
    unfold segs at hp
    split at hp
    · rcases List.mem_cons.1 hp with rfl | hp
      · exact ⟨st, h⟩
      · exact segs_pieces a r 0 [] rfl p hp
    · rename_i hc
      refine segs_pieces a r (step st c) (cur ++ [c]) ?_ p hp
      rw [scan_append, h, Option.bind_some]
      unfold scan
      rw [if_neg hc]; rfl
theorem scan_take (a : UInt8) {x y : Str} {st st' : Nat} (h : scan a st (x ++ y) = some st') : ∃ s2, scan a st x = some s2 := by
  rw [scan_append] at h
  obtain ⟨s2, h2, _⟩ := Option.bind_eq_some_iff.1 h
  exact ⟨s2, h2⟩
theorem step0_bl {c : UInt8} (h : bl c = true) : step 0 c = 0 := by
  have : c ≠ 34 := by intro h2; subst h2; revert h; decide
  unfold step; rw [if_neg (by decide), if_neg (by simp), if_neg this]
theorem scan_ltrim : ∀ (s : Str) (st : Nat), scan 44 0 s = some st → scan 44 0 (ltrim bl s) = some st
  | [], st, h => h
  | c :: r, st, h => by
    unfold ltrim
    rw [List.dropWhile_cons]
    by_cases hc : bl c = true
    · rw [if_pos hc]
      unfold scan at h
      rw [if_neg (by intro h2; rw [h2.2] at hc; revert hc; decide), step0_bl hc] at h
      exact scan_ltrim r st h
    · rw [if_neg hc]; exact h
theorem rtrim_prefix (s : Str) : ∃ t, s = rtrim bl s ++ t := by
  unfold rtrim
  refine ⟨(s.reverse.takeWhile bl).reverse, ?_⟩
  rw [← List.reverse_append, List.takeWhile_append_dropWhile, List.reverse_reverse]
theorem scan_trim {s : Str} {st : Nat} (h : scan 44 0 s = some st) : ∃ st', scan 44 0 (trim s) = some st' := by
  obtain ⟨t, ht⟩ := rtrim_prefix s
  rw [ht] at h
  obtain ⟨s2, h2⟩ := scan_take 44 h
  exact ⟨s2, scan_ltrim _ _ h2⟩
theorem dropWhile_idem (p : UInt8 → Bool) (l : Str) : (l.dropWhile p).dropWhile p = l.dropWhile p := by
  induction l with
  | nil => rfl
  | cons a l ih =>
    rw [List.dropWhile_cons]
    cases ha : p a with
    | true => simpa using ih
    | false => simp [ha]
theorem split_scan {s : Str} {m : Str} (hm : m ∈ split s) : (∃ st, scan 44 0 m = some st) ∧ m ≠ [] ∧ trim m = m := by
  have h1 := List.mem_of_mem_take hm
  rw [List.mem_filter, List.mem_map] at h1
  obtain ⟨⟨y, hy, rfl⟩, hne⟩ := h1
  obtain ⟨st, hst⟩ := segs_pieces 44 s 0 [] rfl y hy
  refine ⟨scan_trim hst, by simpa using hne, ?_⟩
  have e1 : ∀ x : Str, rtrim bl (rtrim bl x) = rtrim bl x := by
    intro x; unfold rtrim; rw [List.reverse_reverse, dropWhile_idem]
  have e2 : ∀ x : Str, ltrim bl (ltrim bl x) = ltrim bl x := fun x => dropWhile_idem bl x
  unfold trim
  rw [trim_comm, e1, e2]
theorem segs_noncut (st : Nat) (m y : Str) (cur : Str) (h : scan 44 st m = some 0) : segs 44 st cur (m ++ 44 :: y) = (cur ++ m) :: segs 44 0 [] y := by
  rw [segs_scan 44 m _ st 0 cur h]
  conv => lhs; unfold segs
  rw [if_pos ⟨rfl, rfl⟩]
theorem scan_le (a : UInt8) : ∀ (x : Str) (st st' : Nat), st ≤ 2 → scan a st x = some st' → st' ≤ 2
  | [], st, st', h, h2 => by cases h2; exact h
  | c :: r, st, st', h, h2 => by
    unfold scan at h2
    split at h2
    · cases h2
    · exact scan_le a r _ st' (step_le h) h2
/-- A member that ends within quotes is not followed by another. -/
theorem two_of_end {m : Str} {st : Nat} (h : scan 44 0 m = some st) (h2 : (split (m ++ [44, 120])).length = 2) : st = 0 := by
  by_cases h0 : st = 0
  · exact h0
  · exfalso
    have hle := scan_le 44 m 0 st (by omega) h
    have hs : cutS 44 (m ++ [44, 120]) = [m ++ [44, 120]] := by
      unfold cutS
      rw [segs_scan 44 m _ 0 st [] h]
      have h12 : st = 1 ∨ st = 2 := by omega
      rcases h12 with rfl | rfl <;> simp [segs, step]
    unfold split mem64 at h2
    rw [hs] at h2
    have : ((List.map trim [m ++ [44, 120]]).filter fun x => x != []).length ≤ 1 := Nat.le_trans (List.length_filter_le _ _) (by simp)
    rw [List.length_take] at h2
    omega
theorem trim_blank (x : Str) : trim (32 :: x) = trim x := by
  unfold trim
  rw [← trim_comm, ← trim_comm]
  rfl
theorem segs_join : ∀ (l : List Str), (∀ m ∈ l, scan 44 0 m = some 0) → ∀ m0 : Str, scan 44 0 m0 = some 0 → (segs 44 0 [] (m0 ++ (l.map ([44, 32] ++ ·)).flatten)) = m0 :: l.map ((32 : UInt8) :: ·) := by
  intro l
  induction l with
  | nil =>
    intro _ m0 h0
    simp only [List.map_nil, List.flatten_nil]
    rw [segs_scan 44 m0 [] 0 0 [] h0]
    simp [segs]
  | cons x l ih =>
    intro hl m0 h0
    have hx := hl x List.mem_cons_self
    rw [List.map_cons, List.flatten_cons]
    have e : m0 ++ (([44, 32] ++ x) ++ (l.map ([44, 32] ++ ·)).flatten) = m0 ++ 44 :: ((32 :: x) ++ (l.map ([44, 32] ++ ·)).flatten) := by simp
    have hx2 : scan 44 0 (32 :: x) = some 0 := by
      show (if (0 : Nat) = 0 ∧ (32 : UInt8) = 44 then none else scan 44 (step 0 32) x) = some 0
      rw [if_neg (by decide)]; exact hx
    rw [e, segs_noncut 0 m0 _ [] h0, ih (fun m hm => hl m (List.mem_cons_of_mem _ hm)) (32 :: x) hx2]
    simp
theorem split_join (l : List Str) (h : ∀ m ∈ l, scan 44 0 m = some 0) (hn : ∀ m ∈ l, m ≠ []) (ht : ∀ m ∈ l, trim m = m) (hl : l.length ≤ 64) : split (join l) = l := by
  cases l with
  | nil => rfl
  | cons m0 r =>
    unfold split cutS
    rw [join_cons2, segs_join r (fun m hm => h m (List.mem_cons_of_mem _ hm)) m0 (h m0 List.mem_cons_self)]
    unfold mem64
    have e : (m0 :: r.map ((32 : UInt8) :: ·)).map trim = m0 :: r := by
      rw [List.map_cons, List.map_map, ht m0 List.mem_cons_self]
      congr 1
      conv => rhs; rw [← List.map_id r]
      apply List.map_congr_left
      intro m hm
      show trim (32 :: m) = m
      rw [trim_blank, ht m (List.mem_cons_of_mem _ hm)]
    rw [e, List.filter_eq_self.2, List.take_of_length_le hl]
    intro m hm
    simpa using hn m hm
theorem neI2 (n : Nat) : (((n : Int) != 2) : Bool) = (n != 2) := neI n 2
theorem two_sm : ([44, 120] : Str).length ≤ 64 * 1073741824 := by rw [List.length_cons, List.length_cons, List.length_nil]; omega
theorem ListBack_loop (l : List Str) (hl : l.length ≤ 64) (hm : ∀ m ∈ l, m.length ≤ 1000) : whileO (law07_ListBack_L0 l) 0 = some (if l.any (fun m => (split (m ++ [44, 120])).length != 2) = true then .inr true else .inl ()) := by
  refine while_any (law07_ListBack_L0 l) l (fun m => (split (m ++ [44, 120])).length != 2) (.inr true) (.inl ()) (fun n hn => ?_) ?_
  · have h1 := hm _ (List.getElem_mem hn)
    have e2 : wr ((n : Int) + 1) = (n : Int) + 1 := by rw [wrs (by omega)]; omega
    unfold law07_ListBack_L0
    rw [lt_true hn, bif_true, xnth_get hn, some_bind]
    generalize l[n] = m at h1
    rw [xcat_sm (by omega) two_sm, some_bind]
    rw [RSplit_eq _ (by rw [List.length_append, List.length_cons, List.length_cons, List.length_nil]; omega), some_bind, e2, neI2]
    generalize ((split (m ++ [44, 120])).length != 2) = b
    cases b <;> rfl
  · simp only [law07_ListBack_L0, lt_false (Nat.le_refl l.length), bif_false]
theorem ListBack_true (s : Str) : law07_ListBack s = some true := by
  unfold law07_ListBack
  cases hs : decide (1000 < (s.length : Int)) with
  | true => rfl
  | false =>
    have hs : s.length ≤ 1000 := by simp at hs; omega
    rw [bif_false, RSplit_eq s (by omega), some_bind]
    have hm := split_sm s
    have hlen := split_len s
    rw [ListBack_loop (split s) hlen (fun m h => Nat.le_trans (hm m h) hs)]
    · rw [some_bind]
      cases hb : (split s).any (fun m => (split (m ++ [44, 120])).length != 2) with
      | true => rfl
      | false =>
        have hall : ∀ m ∈ split s, scan 44 0 m = some 0 := by
          intro m hmm
          have h1 := List.any_eq_false.1 hb m hmm
          obtain ⟨⟨st, hst⟩, _⟩ := split_scan hmm
          have := two_of_end hst (by simpa using h1)
          rw [hst, this]
        have hj : split (join (split s)) = split s := split_join _ hall (fun m h => (split_scan h).2.1) (fun m h => (split_scan h).2.2) hlen
        have hjl := join_len (split s) 1000 (fun m h => Nat.le_trans (hm m h) hs)
        have hjl2 : (join (split s)).length ≤ 1073741824 := by
          have : (1000 + 2) * (split s).length ≤ (1000 + 2) * 64 := Nat.mul_le_mul_left _ hlen
          omega
        simp only [Bool.false_eq_true, if_false]
        rw [Split_eq s (by omega)]
        simp only [some_bind]
        rw [Join_eq _ (by omega) hjl2]
        simp only [some_bind]
        rw [Split_eq _ hjl2]
        simp only [some_bind]
        rw [hj, SameStrings_eq _ _ (by omega)]
        simp [awake07]
/-! several lines -/
/-- The pieces that are cut off, the state and the piece that is not ended. -/
def fin (a : UInt8) : Nat → Str → Str → List Str × Nat × Str
  | st, cur, [] => ([], st, cur)
  | st, cur, c :: r => if st = 0 ∧ c = a then (cur :: (fin a 0 [] r).1, (fin a 0 [] r).2) else fin a (step st c) (cur ++ [c]) r
theorem segs_fin (a : UInt8) : ∀ (x y : Str) (st : Nat) (cur : Str), segs a st cur (x ++ y) = (fin a st cur x).1 ++ segs a (fin a st cur x).2.1 (fin a st cur x).2.2 y
  | [], y, st, cur => by simp [fin]
  | c :: r, y, st, cur => by
    show segs a st cur (c :: (r ++ y)) = _
    unfold segs fin
    split
    · rw [segs_fin a r y 0 []]; cases y <;> simp [segs]
    · rw [segs_fin a r y _ _]; cases y <;> simp [segs]
theorem fin_le (a : UInt8) : ∀ (x : Str) (st : Nat) (cur : Str), st ≤ 2 → (fin a st cur x).2.1 ≤ 2
  | [], st, cur, h => h
  | c :: r, st, cur, h => by
    unfold fin
    split
    · exact fin_le a r 0 [] (by omega)
    · exact fin_le a r _ _ (step_le h)
theorem fin_quote (a : UInt8) : ∀ (x : Str) (st : Nat) (cur : Str), (st ≠ 0 → (34 : UInt8) ∈ cur) → (fin a st cur x).2.1 ≠ 0 → (34 : UInt8) ∈ (fin a st cur x).2.2
  | [], st, cur, h => h
  | c :: r, st, cur, h => by
    unfold fin
    split
    · exact fin_quote a r 0 [] (fun h => absurd rfl h)
    · refine fin_quote a r _ _ fun h1 => ?_
      by_cases h0 : st = 0
      · subst h0
        by_cases hc : c = 34
        · subst hc; simp
        · exfalso; apply h1; unfold step; rw [if_neg (by decide), if_neg (by simp), if_neg hc]
      · exact List.mem_append_left _ (h h0)
theorem trim_ne {s : Str} (h : (34 : UInt8) ∈ s) : trim s ≠ [] := by
  intro h2
  unfold trim ltrim at h2
  rw [dropWhile_nil] at h2
  obtain ⟨t, ht⟩ := rtrim_prefix s
  have h3 : (34 : UInt8) ∈ rtrim bl s := by
    unfold rtrim
    rw [List.mem_reverse]
    have hm : (34 : UInt8) ∈ s.reverse := List.mem_reverse.2 h
    have key : ∀ l : Str, (34 : UInt8) ∈ l → (34 : UInt8) ∈ l.dropWhile bl := by
      intro l
      induction l with
      | nil => intro h; exact h
      | cons c r ih =>
        intro h
        rw [List.dropWhile_cons]
        split
        · rename_i hc
          rcases List.mem_cons.1 h with h | h
          · rw [← h] at hc; exact absurd hc (by decide)
          · exact ih h
        · exact h
    exact key _ hm
  have := h2 34 h3
  revert this; decide
/-- The members, however many. -/
def mems (l : List Str) : List Str := (l.map trim).filter fun x => x != []
theorem mems_append (x y : List Str) : mems (x ++ y) = mems x ++ mems y := by unfold mems; rw [List.map_append, List.filter_append]
theorem split_mems (s : Str) : split s = (mems (cutS 44 s)).take 64 := rfl
theorem cut_fin (s y : Str) : cutS 44 (s ++ y) = (fin 44 0 [] s).1 ++ segs 44 (fin 44 0 [] s).2.1 (fin 44 0 [] s).2.2 y := segs_fin 44 s y 0 []
theorem cut_self (s : Str) : cutS 44 s = (fin 44 0 [] s).1 ++ [(fin 44 0 [] s).2.2] := by
  have := cut_fin s []
  rw [List.append_nil] at this
  rw [this, segs]
theorem mems_one {x : Str} (h : trim x ≠ []) : mems [x] = [trim x] := by simp [mems, h]
theorem ends_of_count {a : Str} (h : (split (a ++ [44, 120])).length = (split a).length + 1) : (fin 44 0 [] a).2.1 = 0 := by
  by_cases h0 : (fin 44 0 [] a).2.1 = 0
  · exact h0
  · exfalso
    have hle := fin_le 44 a 0 [] (by omega)
    have hq := fin_quote 44 a 0 [] (fun h => absurd rfl h) h0
    have h1 := cut_fin a [44, 120]
    have h2 := cut_self a
    generalize hf : fin 44 0 [] a = f at *
    obtain ⟨p, st, cur⟩ := f
    have h3 : segs 44 st cur [44, 120] = [cur ++ [44, 120]] := by
      have h12 : st = 1 ∨ st = 2 := by simp at h0 hle; omega
      rcases h12 with rfl | rfl <;> simp [segs, step]
    have hq2 : (34 : UInt8) ∈ cur := hq
    rw [split_mems, split_mems, h1, h2] at h
    simp only [h3] at h
    rw [mems_append, mems_append, mems_one (trim_ne hq2), mems_one (trim_ne (List.mem_append_left _ hq2))] at h
    simp only [List.length_take, List.length_append, List.length_singleton] at h
    omega
theorem take_take_append (x y : List Str) : (x ++ y).take 64 = (x.take 64 ++ y.take 64).take 64 := by
  rw [List.take_append, List.take_append, List.take_take, List.take_take, List.length_take]
  congr 1
  by_cases hx : x.length ≤ 64
  · rw [Nat.min_eq_right hx]; simp
  · rw [Nat.min_eq_left (a := 64) (by omega)]
    have : 64 - x.length = 0 := by omega
    simp [this]
theorem split_two {a b : Str} (h : (fin 44 0 [] a).2.1 = 0) : split (a ++ [44] ++ b) = (split a ++ split b).take 64 := by
  have h1 := cut_fin a ([44] ++ b)
  have h2 := cut_self a
  rw [List.append_assoc, split_mems, h1, h]
  have h3 : segs 44 0 (fin 44 0 [] a).2.2 ([44] ++ b) = (fin 44 0 [] a).2.2 :: cutS 44 b := by
    show segs 44 0 _ (44 :: b) = _
    conv => lhs; unfold segs
    rw [if_pos ⟨rfl, rfl⟩]; rfl
  have h4 : (fin 44 0 [] a).1 ++ segs 44 0 (fin 44 0 [] a).2.2 ([44] ++ b) = cutS 44 a ++ cutS 44 b := by
    rw [h3, h2]; simp
  rw [h4, mems_append, split_mems, split_mems]
  exact take_take_append _ _
theorem lower_lower (s : Str) : lower (lower s) = lower s := by
  unfold lower
  rw [List.map_map]
  apply List.map_congr_left
  intro c _
  show lowB (lowB c) = lowB c
  unfold lowB
  split
  · rename_i h
    rw [if_neg]
    simp only [Bool.and_eq_true, decide_eq_true_eq, UInt8.le_iff_toNat_le] at h ⊢
    have h1 : (65 : UInt8).toNat = 65 := rfl
    have h2 : (90 : UInt8).toNat = 90 := rfl
    have h3 : (c + 32).toNat = c.toNat + 32 := by
      rw [UInt8.toNat_add]
      have : (32 : UInt8).toNat = 32 := rfl
      omega
    omega
  · rfl
theorem fold_lower (s : Str) : fold (lower s) s = true := by
  unfold fold
  rw [lower_len, lower_lower]; simp
theorem fold_comm (a b : Str) : fold a b = fold b a := by
  unfold fold
  rw [Bool.eq_iff_iff]
  simp only [Bool.and_eq_true, beq_iff_eq]
  exact ⟨fun h => ⟨h.1.symm, h.2.symm⟩, fun h => ⟨h.1.symm, h.2.symm⟩⟩
theorem ListLines_true (a b name : Str) : law07_ListLines a b name = some true := by
  unfold law07_ListLines
  cases hg : ((decide (500 < (a.length : Int)) || decide (500 < (b.length : Int))) || decide (100 < (name.length : Int))) with
  | true => rfl
  | false =>
    simp only [Bool.or_eq_false_iff, decide_eq_false_iff_not] at hg
    have ha : a.length ≤ 500 := by omega
    have hb : b.length ≤ 500 := by omega
    have hn : name.length ≤ 100 := by omega
    rw [bif_false, xcat_sm (by omega) (by decide), some_bind, RSplit_eq _ (by rw [List.length_append]; simp; omega), some_bind, RSplit_eq _ (by omega), some_bind, some_bind]
    have hal := split_len a
    rw [wrs (by omega), neI]
    cases hc : ((split (a ++ [44, 120])).length != (split a).length + 1) with
    | true => rfl
    | false =>
      have hc : (split (a ++ [44, 120])).length = (split a).length + 1 := by simpa using hc
      have hst := ends_of_count hc
      rw [bif_false, RLower_eq name (by omega), some_bind]
      have hF : ∀ f ∈ ([⟨name, a⟩, ⟨[111, 116, 104, 101, 114], b⟩, ⟨lower name, b⟩] : List GField), smF f := by
        intro f hf
        simp only [List.mem_cons, List.not_mem_nil, or_false] at hf
        rcases hf with rfl | rfl | rfl
        · exact ⟨show name.length ≤ _ by omega, show a.length ≤ _ by omega⟩
        · exact ⟨show (5 : Nat) ≤ _ by omega, show b.length ≤ _ by omega⟩
        · exact ⟨show (lower name).length ≤ _ by rw [lower_len]; omega, show b.length ≤ _ by omega⟩
      rw [All_eq _ name (by simp) hF (by omega), some_bind, xcat_sm (by omega) (by decide), some_bind, xcat_sm (by rw [List.length_append]; simp; omega) (by omega), some_bind,
        Split_eq _ (by rw [List.length_append, List.length_append]; simp; omega), some_bind, RFold_eq _ _ (by omega) (by decide), some_bind]
      cases ho : fold name [111, 116, 104, 101, 114] with
      | true => rfl
      | false =>
        rw [fold_comm] at ho
        have hget : allM [⟨name, a⟩, ⟨[111, 116, 104, 101, 114], b⟩, ⟨lower name, b⟩] name = split (a ++ [44] ++ b) := by
          rw [split_two hst]
          unfold allM getF
          have e1 : fold name name = true := fold_self name
          have e2 := fold_lower name
          simp [e1, e2, ho]
        rw [bif_false, hget, SameStrings_eq _ _ (Nat.le_trans (split_len _) (by decide)), some_bind]
        simp [awake07]
end Go.Eng.Pure
