/- The engine, part 3: slices as lists; append. -/
import Derived.Test.YtmeemcjmhbgbdaaGreatDoorEng2
namespace Go.Eng
open Go

/-- How a value lies in cells. -/
class Enc (α : Type) where
  sz : Nat
  cells : Hp → List Value → α → Prop
  pos : 0 < sz
  len : ∀ {H cs x}, cells H cs x → cs.length = sz
  mono : ∀ {H H' cs x}, cells H cs x → H.le H' → cells H' cs x
  one : ∀ {H cs x}, cells H cs x → ∀ v ∈ cs, v.oneCell' = true

def Cells {α : Type} [Enc α] (H : Hp) : List Value → List α → Prop
  | l, [] => l = []
  | l, x :: xs => ∃ cs r, l = cs ++ r ∧ Enc.cells H cs x ∧ Cells H r xs

section
variable {α : Type} [Enc α] {H H' : Hp}
theorem Cells.mono : ∀ {xs : List α} {l : List Value}, Cells H l xs → H.le H' → Cells H' l xs
  | [], _, h, _ => h
  | _ :: _, _, ⟨cs, r, e, hc, hr⟩, hl => ⟨cs, r, e, Enc.mono hc hl, Cells.mono hr hl⟩
theorem Cells.length : ∀ {xs : List α} {l : List Value}, Cells H l xs → l.length = xs.length * Enc.sz α
  | [], _, h => by rw [show _ = [] from h]; simp
  | x :: xs, _, ⟨cs, r, e, hc, hr⟩ => by rw [e, List.length_append, Enc.len hc, Cells.length hr, List.length_cons, Nat.succ_mul, Nat.add_comm]
theorem Cells.append : ∀ {xs ys : List α} {l k : List Value}, Cells H l xs → Cells H k ys → Cells H (l ++ k) (xs ++ ys)
  | [], _, _, _, h, h' => by rw [show _ = [] from h]; exact h'
  | _ :: _, _, _, _, ⟨cs, r, e, hc, hr⟩, h' => ⟨cs, r ++ _, by rw [e, List.append_assoc], hc, Cells.append hr h'⟩
theorem Cells.one : ∀ {xs : List α} {l : List Value}, Cells H l xs → ∀ v ∈ l, v.oneCell' = true
  | [], _, h, v, hv => by rw [show _ = [] from h] at hv; cases hv
  | _ :: _, _, ⟨cs, r, e, hc, hr⟩, v, hv => by
    rw [e] at hv
    rcases List.mem_append.1 hv with hv | hv
    · exact Enc.one hc v hv
    · exact Cells.one hr v hv
theorem Cells.drop : ∀ {xs : List α} {l : List Value} (n : Nat), Cells H l xs → n ≤ xs.length → Cells H (l.drop (n * Enc.sz α)) (xs.drop n)
  | _, _, 0, h, _ => by simpa using h
  | [], _, _ + 1, _, hn => absurd hn (by simp)
  | _ :: xs, _, n + 1, ⟨cs, r, e, hc, hr⟩, hn => by
    have := Cells.drop n hr (by simpa using hn)
    have e2 : (cs ++ r).drop (Enc.sz α) = r := by rw [← Enc.len hc, List.drop_left]
    rw [e, List.drop_succ_cons, Nat.succ_mul, Nat.add_comm, ← List.drop_drop, e2]
    exact this
theorem Cells.take : ∀ {xs : List α} {l : List Value} (n : Nat), Cells H l xs → n ≤ xs.length → Cells H (l.take (n * Enc.sz α)) (xs.take n)
  | _, _, 0, _, _ => by simp [Cells]
  | [], _, _ + 1, _, hn => absurd hn (by simp)
  | _ :: xs, _, n + 1, ⟨cs, r, e, hc, hr⟩, hn => by
    have := Cells.take n hr (by simpa using hn)
    refine ⟨cs, _, ?_, hc, this⟩
    rw [e, Nat.succ_mul, Nat.add_comm, List.take_append, Enc.len hc, List.take_of_length_le (by rw [Enc.len hc]; omega)]
    congr 2
    omega
theorem Cells.get {xs : List α} {l : List Value} (h : Cells H l xs) {i : Nat} {x : α} (hx : xs[i]? = some x) : ∃ cs r, l.drop (i * Enc.sz α) = cs ++ r ∧ Enc.cells H cs x := by
  obtain ⟨hi, rfl⟩ := List.getElem?_eq_some_iff.1 hx
  have := Cells.drop i h (by omega)
  rw [List.drop_eq_getElem_cons hi] at this
  obtain ⟨cs, r, e, hc, _⟩ := this
  exact ⟨cs, r, e, hc⟩

/-- The slice value v reads as the list xs. -/
def Sl (H : Hp) (v : Value) (xs : List α) : Prop :=
  ∃ a c, v = .slice a xs.length c ∧ xs.length ≤ c ∧ c ≤ maxLen ∧ (xs = [] ∨ ∃ b off cs, a = some ⟨b, off, none⟩ ∧ At H ⟨b, off, none⟩ cs ∧ Cells H cs xs)
theorem Sl.mono {v : Value} {xs : List α} (h : Sl H v xs) (hl : H.le H') : Sl H' v xs := by
  obtain ⟨a, c, hv, h1, h2, h3⟩ := h
  refine ⟨a, c, hv, h1, h2, ?_⟩
  rcases h3 with h3 | ⟨b, off, cs, ha, hat, hc⟩
  · exact .inl h3
  · by_cases hx : xs = []
    · exact .inl hx
    · refine .inr ⟨b, off, cs, ha, hat.mono hl ?_, hc.mono hl⟩
      intro h0
      have := hc.length
      rw [h0] at this
      cases xs with
      | nil => exact hx rfl
      | cons x xs => simp [Nat.succ_mul] at this; have := Enc.pos (α := α); omega
theorem Sl.nil : Sl H (.slice none 0 0) ([] : List α) := ⟨none, 0, rfl, Nat.le_refl _, by simp [maxLen], .inl rfl⟩
end

/-- An element by its number. -/
def xnth {α : Type} (xs : List α) (i : Int) : Option α := if 0 ≤ i then xs[i.toNat]? else none
/-- A part of a list: 'xs[i:j]', j at most the length. -/
def xsub {α : Type} (xs : List α) (i j : Int) : Option (List α) := if 0 ≤ i ∧ i ≤ j ∧ j ≤ xs.length then some ((xs.take j.toNat).drop i.toNat) else none
/-- The greatest length that a slice is grown to here. -/
def big : Nat := 274877906944
/-- 'append'. -/
def xapp {α : Type} (xs ys : List α) : Option (List α) := if xs.length + ys.length ≤ big then some (xs ++ ys) else none

/-- What is asked of a slice's element type. -/
structure Elem (P : Program) (T e : TypeId) (sz : Nat) : Prop where
  ht : P.underlying T = some (.slice e)
  hi : ∃ i z, P.info? e = some i ∧ i.zero = some z ∧ i.size = sz ∧ z.cells.size = sz ∧ i.bytes ≤ 512

section
variable {α : Type} [Enc α] {P : Program} {w0 w : World} {H0 H : Hp} {L : List Ent}

theorem St.addNil (S : St w0 H0 w H L) (T : TypeId) (sz : Nat) : St w0 H0 w H (.row (.slice none 0 0) T sz 0 :: L) := by
  refine ⟨S.post, ?_, ?_, ?_⟩
  · intro e he
    rcases List.mem_cons.1 he with rfl | he
    · exact .inl ⟨rfl, rfl⟩
    · exact S.ents e he
  · intro e he b hb
    rcases List.mem_cons.1 he with rfl | he
    · simp [Ent.blk, Value.ownBlock] at hb
    · exact S.own e he b hb
  · have : (Ent.row (.slice none 0 0) T sz 0).blk = none := rfl
    rw [List.filterMap_cons, this]
    exact S.nodup

/-- The cells of a slice, as the laws of append ask for them. -/
theorem Sl.news {v : Value} {ys : List α} (h : Sl H v ys) (hw : Holds w H) (hne : ys ≠ []) :
    ∃ a c cs, v = .slice (some a) ys.length c ∧ cs.length = ys.length * Enc.sz α ∧ (∀ j u, cs[j]? = some u → w.cell? (a.add j) = some u) ∧ Cells H cs ys := by
  obtain ⟨a, c, hv, h1, h2, h3⟩ := h
  rcases h3 with h3 | ⟨b, off, cs, ha, hat, hc⟩
  · exact absurd h3 hne
  · exact ⟨⟨b, off, none⟩, c, cs, by rw [hv, ha], hc.length, fun j u hu => hat.cell hw hu, hc⟩

theorem run_append_empty (t ty e : TypeId) (sz : Nat) (hE : Elem P t e sz) (a : Option Addr) (n cap : Nat) (hn : n ≤ cap) (x : Option Addr) (c : Nat) :
    (Builtin.append_ #[t, t] ty #[.slice a n cap, .slice x 0 c]).run P w = .ok (.slice a n cap) w := by
  obtain ⟨ht, i, z, hi, _⟩ := hE
  have h0 : ∀ (x : Option Addr), (Builtin.firstCells i.size 0 (.slice x 0 c)).run P w = .ok #[] w := by
    intro x
    cases x <;> simp [Builtin.firstCells, loadCells, loadCellsFrom]
  cases a with
  | none => simp [Builtin.append_, run_underlying ht, sizeOf, typeInfo, hi, Builtin.lenOf, h0, hn]
  | some a => simp [Builtin.append_, run_underlying ht, sizeOf, typeInfo, hi, Builtin.lenOf, h0, hn, storeCells]

/-- append to a slice of the call's own. -/
theorem St.append (S : St w0 H0 w H L) {i : Nat} {t ty e : TypeId} {v u : Value} {xs ys zs : List α} (hE : Elem P t e (Enc.sz α)) (hi : L[i]? = some (.row v e (Enc.sz α) xs.length))
    (hx : Sl H v xs) (hy : Sl H u ys) (hz : xapp xs ys = some zs) :
    ∃ v' w' H', (Builtin.append_ #[t, t] ty #[v, u]).run P w = .ok v' w' ∧ H.le H' ∧ Sl H' v' zs ∧ St w0 H0 w' H' (L.set i (.row v' e (Enc.sz α) zs.length)) := by
  have hsz := Enc.pos (α := α)
  unfold xapp at hz
  split at hz
  case isFalse => cases hz
  rename_i hbig
  simp only [Option.some.injEq] at hz
  subst hz
  by_cases hne : ys = []
  · subst hne
    obtain ⟨a, c, rfl, h1, h2, h3⟩ := hx
    obtain ⟨a', c', rfl, _⟩ := hy
    refine ⟨_, w, H, run_append_empty t ty e _ hE a xs.length c h1 a' c', Hp.le.refl _, ?_, ?_⟩
    · rw [List.append_nil]; exact ⟨a, c, rfl, h1, h2, h3⟩
    · rw [List.append_nil]
      have : L.set i (.row (.slice a xs.length c) e (Enc.sz α) xs.length) = L := by
        have hlt := (List.getElem?_eq_some_iff.1 hi).1
        exact List.ext_getElem? fun j => by
          by_cases hj : i = j
          · subst hj; rw [List.getElem?_set_self hlt, hi]
          · rw [List.getElem?_set_ne hj]
      rw [this]; exact S
  obtain ⟨ad, c', ysC, rfl, hyl, hyc, hyC⟩ := hy.news S.holds hne
  have hE' := hE
  obtain ⟨ht, inf, z, hinf, hzz, hsize, hzs, hbytes⟩ := hE'
  have hmem := List.mem_of_getElem? hi
  have hrow : RowOk w H v e (Enc.sz α) xs.length := S.ents _ hmem
  have hm : 0 < ys.length := List.length_pos_iff.2 hne
  have hb2 : (xs.length + ys.length) * inf.bytes ≤ 140737488355328 := by
    have h1 := Nat.mul_le_mul hbig hbytes
    exact Nat.le_trans h1 (by simp [big])
  have h63 : xs.length + ys.length ≤ maxLen := Nat.le_trans hbig (by simp [big, maxLen])
  have h63' : ((xs.length + ys.length : Nat) : Int) ≤ 9223372036854775807 := by simp only [maxLen] at h63; omega
  have hlen : (xs ++ ys).length = xs.length + ys.length := List.length_append
  -- the cells that were there
  obtain ⟨xsC, hxC, hxcell, hxl⟩ : ∃ xsC, Cells H xsC xs ∧ (∀ g n cap, v = .slice (some ⟨g, 0, none⟩) n cap → H g = some (e, xsC) ∧ ∀ j u, xsC[j]? = some u → w.cell? ((⟨g, 0, none⟩ : Addr).add j) = some u) ∧ xsC.length = xs.length * Enc.sz α := by
    rcases hrow with ⟨rfl, h0⟩ | ⟨g, cap, cur, rfl, hg, hnc, hcm, hcs, hHg⟩
    · have : xs = [] := List.eq_nil_of_length_eq_zero h0
      subst this
      exact ⟨[], rfl, (fun g n cap h => by cases h), by simp⟩
    · by_cases hxe : xs = []
      · subst hxe
        refine ⟨[], rfl, (fun g' n cap' h => ?_), by simp⟩
        simp only [Value.slice.injEq, Option.some.injEq, Addr.mk.injEq] at h
        obtain ⟨⟨rfl, _⟩, _⟩ := h
        refine ⟨by simpa using hHg, fun j u hu => by simp at hu⟩
      · obtain ⟨a, c, hv, _, _, h3⟩ := hx
        rcases h3 with h3 | ⟨b, off, cs, ha, hat, hc⟩
        · exact absurd h3 hxe
        subst ha
        simp only [Value.slice.injEq, Option.some.injEq, Addr.mk.injEq] at hv
        obtain ⟨⟨rfl, rfl, _⟩, _, rfl⟩ := hv
        have hat' := hat
        obtain ⟨T', l, _, hHl, r, hr⟩ := hat
        have hTl : T' = e ∧ l = cur.toList.take (xs.length * Enc.sz α) := by
          have : H g = some (T', l) := hHl
          rw [hHg] at this
          simp at this
          exact ⟨this.1.symm, this.2.symm⟩
        have hcsl := hc.length
        have hr0 : r = [] := by
          have h1 : (l.drop 0).length = (cs ++ r).length := congrArg List.length hr
          rw [hTl.2] at h1
          simp only [List.drop_zero, List.length_take, Array.length_toList, List.length_append, hcs, hcsl] at h1
          have : xs.length * Enc.sz α ≤ cap * Enc.sz α := Nat.mul_le_mul_right _ hnc
          exact List.eq_nil_of_length_eq_zero (by omega)
        have hlcs : l = cs := by simpa [hr0] using hr
        refine ⟨cs, hc, (fun g' n cap' h => ?_), hcsl⟩
        simp only [Value.slice.injEq, Option.some.injEq, Addr.mk.injEq] at h
        obtain ⟨⟨rfl, _⟩, _⟩ := h
        exact ⟨by rw [← hlcs, hHg, hTl.2], fun j u hu => hat'.cell S.holds hu⟩
  have hxyC : Cells H (xsC ++ ysC) (xs ++ ys) := hxC.append hyC
  have hxylen : (xsC ++ ysC).length = (xs.length + ys.length) * Enc.sz α := by rw [List.length_append, hxl, hyl, Nat.add_mul]
  -- the new array
  have grown : ∀ (old : Nat), old < xs.length + ys.length →
      ∃ H', H.le H' ∧ Sl H' (.slice (some ⟨w.heap.size, 0, none⟩) (xs.length + ys.length) (grownCap w (xs.length + ys.length) old e)) (xs ++ ys) ∧
        St w0 H0 (w.drew.alloc (.cells (xsC.toArray ++ ysC.toArray ++ Builtin.zeroCells z.cells (grownCap w (xs.length + ys.length) old e - (xs.length + ys.length))) e)) H'
          (L.set i (.row (.slice (some ⟨w.heap.size, 0, none⟩) (xs.length + ys.length) (grownCap w (xs.length + ys.length) old e)) e (Enc.sz α) (xs ++ ys).length)) := by
    intro old hold
    have hge := grownCap_ge w (xs.length + ys.length) old e
    have hcm : grownCap w (xs.length + ys.length) old e ≤ maxLen := grownCap_le_maxLen w (xs.length + ys.length) old e h63
    generalize grownCap w (xs.length + ys.length) old e = cap at *
    have S1 := S.drew.box e (xsC.toArray ++ ysC.toArray ++ Builtin.zeroCells z.cells (cap - (xs.length + ys.length))) (0, 0) (xsC ++ ysC) (Builtin.zeroCells z.cells (cap - (xs.length + ys.length))).toList (by simp) (by intro i _ h; exact Nat.not_lt_zero _ h.2)
    obtain ⟨H', hle, hHn, hHo, S2⟩ := S1.settle (i := 0) rfl
    simp only [List.eraseIdx_cons_zero] at S2
    refine ⟨H', hle, ⟨some ⟨w.heap.size, 0, none⟩, cap, by rw [hlen], by rw [hlen]; exact hge, hcm, .inr ⟨w.heap.size, 0, _, rfl, ⟨e, _, rfl, hHn, [], by simp⟩, hxyC.mono hle⟩⟩, ?_⟩
    have hlt : i < L.length := (List.getElem?_eq_some_iff.1 hi).1
    refine ⟨S2.post, ?_, ?_, ?_⟩
    · intro x hxm
      obtain ⟨j, hj⟩ := List.mem_iff_getElem?.1 hxm
      by_cases hij : i = j
      · subst hij
        rw [List.getElem?_set_self hlt] at hj
        simp at hj; subst hj
        refine .inr ⟨w.heap.size, cap, _, rfl, heap_alloc_new w.drew _, hge, hcm, ?_, ?_⟩
        · simp only [Array.size_append, List.size_toArray, size_zeroCells, hzs, hxl, hyl, ← Nat.add_mul]
          congr 1; omega
        · rw [show H' w.heap.size = some (e, xsC ++ ysC) from hHn, ← hxylen]
          have e3 : ∀ Z : Array Value, (xsC.toArray ++ ysC.toArray ++ Z).toList = (xsC ++ ysC) ++ Z.toList := by simp
          rw [e3, List.take_left]
      · rw [List.getElem?_set_ne hij] at hj
        exact S2.ents x (List.mem_of_getElem? hj)
    · intro x hxm b hb
      obtain ⟨j, hj⟩ := List.mem_iff_getElem?.1 hxm
      by_cases hij : i = j
      · subst hij
        rw [List.getElem?_set_self hlt] at hj
        simp at hj; subst hj
        simp [Ent.blk, Value.ownBlock] at hb
        subst hb
        exact S.post.below.size
      · rw [List.getElem?_set_ne hij] at hj
        exact S2.own x (List.mem_of_getElem? hj) b hb
    · -- the new block is no other's
      have hall : ∀ b ∈ L.filterMap Ent.blk, b < w.heap.size := fun b hb => S.lt hb
      have key : ∀ (K : List Ent) (i : Nat) (v' : Value) (m : Nat), (K.filterMap Ent.blk).Nodup → (∀ b ∈ K.filterMap Ent.blk, b < w.heap.size) → v'.ownBlock = some w.heap.size →
          ((K.set i (.row v' e (Enc.sz α) m)).filterMap Ent.blk).Nodup ∧ ∀ b ∈ (K.set i (.row v' e (Enc.sz α) m)).filterMap Ent.blk, b < w.heap.size ∨ b = w.heap.size := by
        intro K
        induction K with
        | nil => intro i v' m h1 h2 _; exact ⟨by simp, by simp⟩
        | cons x K ih =>
          intro i v' m h1 h2 h3
          have h1' : (K.filterMap Ent.blk).Nodup := by
            rw [List.filterMap_cons] at h1
            split at h1
            · exact h1
            · exact (List.nodup_cons.1 h1).2
          have h2' : ∀ b ∈ K.filterMap Ent.blk, b < w.heap.size := by
            intro b hb
            apply h2
            rw [List.filterMap_cons]
            split
            · exact hb
            · exact List.mem_cons_of_mem _ hb
          cases i with
          | zero =>
            rw [List.set_cons_zero, List.filterMap_cons]
            have : (Ent.row v' e (Enc.sz α) m).blk = some w.heap.size := h3
            rw [this]
            refine ⟨List.nodup_cons.2 ⟨fun hm => Nat.lt_irrefl _ (h2' _ hm), h1'⟩, ?_⟩
            intro b hb
            rcases List.mem_cons.1 hb with rfl | hb
            · exact .inr rfl
            · exact .inl (h2' b hb)
          | succ i =>
            rw [List.set_cons_succ, List.filterMap_cons]
            obtain ⟨g1, g2⟩ := ih i v' m h1' h2' h3
            cases hb : x.blk with
            | none => simp only; exact ⟨g1, g2⟩
            | some b =>
              have hbm : b ∈ (x :: K).filterMap Ent.blk := by rw [List.filterMap_cons, hb]; exact List.mem_cons_self
              have hbl : b < w.heap.size := h2 b hbm
              have hnb : b ∉ K.filterMap Ent.blk := by
                rw [List.filterMap_cons, hb] at h1
                exact (List.nodup_cons.1 h1).1
              simp only
              refine ⟨List.nodup_cons.2 ⟨fun hm => ?_, g1⟩, ?_⟩
              · -- b among the rest: it stood there, or is the new one
                obtain ⟨y, hy, hyb⟩ := List.mem_filterMap.1 hm
                rcases List.mem_or_eq_of_mem_set hy with hy | hy
                · exact hnb (List.mem_filterMap.2 ⟨y, hy, hyb⟩)
                · subst hy
                  have : some w.heap.size = some b := by rw [← hyb]; exact h3.symm
                  simp at this; omega
              · intro b' hb'
                rcases List.mem_cons.1 hb' with rfl | hb'
                · exact .inl hbl
                · exact g2 b' hb'
      exact (key L i _ _ S.nodup hall rfl).1
  rcases hrow with ⟨rfl, h0⟩ | ⟨g, cap, cur, rfl, hg, hnc, hcm, hcs, hHg⟩
  · have hxe : xs = [] := List.eq_nil_of_length_eq_zero h0
    subst hxe
    have hxC0 : xsC = [] := hxC
    subst hxC0
    have hr := run_append_nil (P := P) w t ty e inf z ht hinf hzz ad ys.length c' ysC (by rw [hsize]; exact hyl) hyc hm (by simpa using h63') (by have hb := hb2; simp only [List.length_nil, Nat.zero_add] at hb; omega)
    obtain ⟨H', hle, hsl, hst⟩ := grown 0 (by simpa using hm)
    simp only [List.length_nil, Nat.zero_add, List.nil_append] at hsl hst
    refine ⟨_, _, H', hr, hle, by simpa using hsl, ?_⟩
    simpa using hst
  · obtain ⟨hHx, hcell⟩ := hxcell g _ cap rfl
    by_cases hroom : xs.length + ys.length ≤ cap
    · have hfit : xs.length * inf.size + ysC.length ≤ cur.size := by rw [hyl, hcs, hsize, ← Nat.add_mul]; exact Nat.mul_le_mul_right _ hroom
      have hr := run_append_room (P := P) w t ty e inf ht hinf g xs.length cap cur hg ad ys.length c' ysC (by rw [hsize]; exact hyl) hyc (hyC.one) hroom hfit
      have htake : cur.toList.take (xs.length * Enc.sz α) = xsC := by rw [hHg] at hHx; simpa using hHx
      rw [hsize, htake] at hr
      have hgown : w0.heap.size ≤ g := S.own _ hmem g rfl
      have hle : H.le (fun k => if k = g then some (e, xsC ++ ysC) else H k) := by
        intro k T' l hk
        by_cases h : k = g
        · subst h
          rw [hHx] at hk
          simp at hk
          obtain ⟨rfl, rfl⟩ := hk
          exact ⟨ysC, by simp⟩
        · exact ⟨[], by simp [h, hk]⟩
      refine ⟨_, _, fun k => if k = g then some (e, xsC ++ ysC) else H k, hr, hle, ?_, ?_⟩
      · exact ⟨some ⟨g, 0, none⟩, cap, by rw [hlen], by rw [hlen]; exact hroom, hcm, .inr ⟨g, 0, xsC ++ ysC, rfl, ⟨e, _, rfl, if_pos rfl, [], by simp⟩, hxyC.mono hle⟩⟩
      · have hlt : i < L.length := (List.getElem?_eq_some_iff.1 hi).1
        have hnew : (w.setRow g (xsC ++ ysC ++ cur.toList.drop (xs.length * Enc.sz α + ysC.length)).toArray).heap[g]? = some (.cells (xsC ++ ysC ++ cur.toList.drop (xs.length * Enc.sz α + ysC.length)).toArray e (0, 0)) := setRow_heap w g cur _ e _ hg
        refine ⟨⟨S.post.below.trans ⟨rfl, rfl, rfl, by simp, fun k hk => setRow_other w g k _ (by omega)⟩, S.post.le.trans hle, fun b hb => ?_, ?_⟩, ?_, ?_, ?_⟩
        · show (if b = g then _ else H b) = _
          rw [if_neg (by omega)]; exact S.post.eqb b hb
        · intro k T' l hk
          by_cases h : k = g
          · subst h
            simp at hk
            obtain ⟨rfl, rfl⟩ := hk
            exact ⟨_, _, hnew, cur.toList.drop (xs.length * Enc.sz α + ysC.length), by simp⟩
          · simp [h] at hk
            rw [setRow_other w g k _ h]
            exact S.holds k T' l hk
        · intro x hxm
          obtain ⟨j, hj⟩ := List.mem_iff_getElem?.1 hxm
          by_cases hij : i = j
          · subst hij
            rw [List.getElem?_set_self hlt] at hj
            simp at hj; subst hj
            refine .inr ⟨g, cap, _, rfl, hnew, hroom, hcm, ?_, ?_⟩
            · have h1 : xs.length * Enc.sz α + ysC.length ≤ cur.size := by rw [← hsize]; exact hfit
              simp only [List.size_toArray, List.length_append, List.length_drop, Array.length_toList, hxl]
              omega
            · show (if g = g then _ else _) = _
              rw [if_pos rfl, ← hxylen]
              have e3 : ∀ Z : List Value, (xsC ++ ysC ++ Z).toArray.toList = (xsC ++ ysC) ++ Z := by simp
              rw [e3, List.take_left]
          · rw [List.getElem?_set_ne hij] at hj
            refine Ent.ok_keep (S.ents x (List.mem_of_getElem? hj)) fun k hk => ?_
            have hkg : k ≠ g := S.blk_ne hj hi hk rfl (Ne.symm hij)
            exact ⟨setRow_other w g k _ hkg, if_neg hkg⟩
        · intro x hxm b hb
          obtain ⟨j, hj⟩ := List.mem_iff_getElem?.1 hxm
          by_cases hij : i = j
          · subst hij
            rw [List.getElem?_set_self hlt] at hj
            simp at hj; subst hj
            simp [Ent.blk, Value.ownBlock] at hb
            omega
          · rw [List.getElem?_set_ne hij] at hj
            exact S.own x (List.mem_of_getElem? hj) b hb
        · rw [filterMap_set (e' := .row (.slice (some ⟨g, 0, none⟩) (xs.length + ys.length) cap) e (Enc.sz α) (xs ++ ys).length) hi rfl]; exact S.nodup
    · have hr := run_append_grow (P := P) w t ty e inf z ht hinf hzz ⟨g, 0, none⟩ xs.length cap xsC (by rw [hsize]; exact hxl) hcell ad ys.length c' ysC (by rw [hsize]; exact hyl) hyc (by omega) h63' (growslice_fits (by omega) hb2)
      obtain ⟨H', hle, hsl, hst⟩ := grown cap (by omega)
      exact ⟨_, _, H', hr, hle, hsl, hst⟩
end
end Go.Eng
