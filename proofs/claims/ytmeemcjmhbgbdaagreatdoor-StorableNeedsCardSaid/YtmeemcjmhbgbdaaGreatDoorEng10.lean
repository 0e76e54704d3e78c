/- The engine, part 10: from a contract to a law's row. -/
import Derived.Test.YtmeemcjmhbgbdaaGreatDoorEng9
import Derived.ProofKit
namespace Go.Eng
open Go Go.ChangeShapes Go.WideShapes Go.ChangeAt Go.RowKit

/-- All of memory is settled when the law is called. -/
def Hp.of (W : World) : Hp := fun b => match W.heap[b]? with | some (.cells cs T _) => some (T, cs.toList) | _ => none
theorem Holds.of (W : World) : Holds W (Hp.of W) := by
  intro b T l h
  unfold Hp.of at h
  split at h
  · rename_i cs T' fz hc
    simp at h
    obtain ⟨rfl, rfl⟩ := h
    exact ⟨cs, fz, hc, [], by simp⟩
  · cases h
theorem Hp.of_cells {W : World} {b : Nat} {cs : Array Value} {T : TypeId} {fz : Nat × Nat} (h : W.heap[b]? = some (.cells cs T fz)) : Hp.of W b = some (T, cs.toList) := by
  unfold Hp.of; rw [h]
def readableAll (P : Program) (ts : List TypeId) : Bool := ts.all fun t => P.readableRec t && decide (t < P.types.size)
section
variable {X : Type} {enc : TypeId × Value → X} {P : Program} {W W' : World}
theorem trodAll_below (hl : laidOutB P = true) (hb : Below W.heap.size W W') : ∀ {ts : List TypeId} {vs : List Value} {ds : List (DataW X)} {ps : List MemPlace}, readableAll P ts = true →
    DataW.TrodAll enc P W 0 (fun _ => true) true ts vs ds ps → (∀ x ∈ ps, x.block < W.heap.size) → DataW.TrodAll enc P W' 0 (fun b => decide (b < W.heap.size)) true ts vs ds ps
  | [], _, _, _, _, h, _ => by obtain ⟨rfl, rfl, rfl⟩ := trodAll_nil h; rfl
  | t :: ts, _, _, _, hr, h, hlt => by
    obtain ⟨v, vs, d, ds', p, q, rfl, rfl, rfl, hd, hrest⟩ := trodAll_cons h
    simp only [readableAll, List.all_cons, Bool.and_eq_true, decide_eq_true_eq] at hr
    exact ⟨p, q, Below.trod hl hr.1.1 hr.1.2 hd hb (fun x hx => hlt x (List.mem_append.2 (.inl hx))), trodAll_below hl hb (by simpa [readableAll] using hr.2) hrest (fun x hx => hlt x (List.mem_append.2 (.inr hx))), rfl⟩

/-- A law that returns true, and leaves what was there as it was. -/
theorem law_post {fn : Func} {s : ChangeSpec} {args : Array Value} {ds gs : List (DataW X)} {before : List MemPlace} {tb : TypeId} {apart : Bool}
    (hl : laidOutB P = true) (hts : readableAll P fn.params.toList = true) (hv : s.vars = []) (hW : DataW.Whole enc P fn.params.toList s.vars apart W args.toList ds gs before)
    (hs : (s.fn X (ds ++ gs)).results = [.lit (.bool true)] ∧ (s.fn X (ds ++ gs)).args = ds ∧ (s.fn X (ds ++ gs)).vars = []) (hrt : fn.resultTypes = #[tb]) (hbt : P.underlying tb = some .bool) (hb : Below W.heap.size W W') :
    s.post enc P fn apart true false false W args (boo true) W' := by
  obtain ⟨h1, h2, h3⟩ := hs
  have hlt : ∀ p ∈ before, p.block < W.heap.size := fun p hp => hW.lt p hp
  have hW' := hW
  obtain ⟨p, q, hA, hV, rfl, _, _⟩ := hW'
  refine ⟨ds, gs, _, [], p, [], hW, ?_, ?_, ?_, hb.frame _, fun h => by cases h⟩
  · rw [h1, hrt]
    exact trodAll_mk1 (shut_bool hbt true)
  · rw [h2]
    exact trodAll_below hl hb hts hA (fun x hx => hlt x (List.mem_append.2 (.inl hx)))
  · rw [h3, hv]; rfl
theorem law_calls {fn : Func} {k : FuncId} {s : ChangeSpec} {args : Array Value} {vs : List Value} {ds gs : List (DataW X)} {before : List MemPlace} {tb : TypeId} {apart : Bool} (ha : args = vs.toArray)
    (hl : laidOutB P = true) (hts : readableAll P fn.params.toList = true) (hv : s.vars = []) (hW : DataW.Whole enc P fn.params.toList s.vars apart W args.toList ds gs before)
    (hs : (s.fn X (ds ++ gs)).results = [.lit (.bool true)] ∧ (s.fn X (ds ++ gs)).args = ds ∧ (s.fn X (ds ++ gs)).vars = []) (hrt : fn.resultTypes = #[tb]) (hbt : P.underlying tb = some .bool)
    (C : Con P k vs W (Hp.of W) (fun _ v => v = boo true)) :
    Calls P k args W fun e W' => ∃ v, e = .returned v ∧ s.post enc P fn apart true false false W args v W' := by
  subst ha
  refine Calls.mono C.2 fun e W' ⟨v, H', he, hp, hv'⟩ => ⟨v, he, ?_⟩
  subst hv'
  exact law_post hl hts hv hW hs hrt hbt hp.below

end

/-! what a reading gives -/
def Rd (P : Program) (t : TypeId) (α : Type) [Enc α] : Prop :=
  ∀ (X : Type) (enc : TypeId × Value → X) (W : World) (fuel : Nat) (cs : List Value) (x : DataW X × List MemPlace), DataW.trod enc P W 0 (fun _ => true) true fuel t cs = some x → ∃ a : α, Enc.cells (Hp.of W) cs a
theorem Rd.str {P : Program} {t : TypeId} (ht : P.underlying t = some .string) : Rd P t Str := fun _ _ _ _ _ _ h => by
  obtain ⟨s, rfl, _⟩ := DataW.trod_string ht h
  exact ⟨s.data.toList, rfl⟩
theorem Rd.bool {P : Program} {t : TypeId} (ht : P.underlying t = some .bool) : Rd P t Bool := fun _ _ _ _ _ _ h => by
  obtain ⟨b, rfl, _⟩ := DataW.trod_bool ht h
  exact ⟨b, rfl⟩
theorem Rd.int {P : Program} {t : TypeId} (ht : P.underlying t = some (.int .i64)) : Rd P t Int := fun _ _ _ _ _ _ h => by
  obtain ⟨n, rfl, _⟩ := DataW.trod_int ht h
  exact ⟨n, rfl⟩
theorem mapM_range {α : Type} {f : Nat → Option α} {n : Nat} {l : List α} (h : (List.range n).mapM f = some l) : l.length = n ∧ ∀ i, i < n → f i = l[i]? := by
  have key : ∀ (is : List Nat) (l : List α), is.mapM f = some l → l.length = is.length ∧ ∀ (k i : Nat), is[k]? = some i → f i = l[k]? := by
    intro is
    induction is with
    | nil => intro l h; simp at h; subst h; simp
    | cons i is ih =>
      intro l h
      rw [List.mapM_cons] at h
      cases hf : f i with
      | none => simp [hf] at h
      | some y =>
        cases hr : is.mapM f with
        | none => simp [hf, hr] at h
        | some ys =>
          simp [hf, hr] at h
          subst h
          obtain ⟨h1, h2⟩ := ih ys hr
          refine ⟨by simp [h1], fun k j hk => ?_⟩
          cases k with
          | zero => simp at hk; subst hk; simpa using hf
          | succ k => simpa using h2 k j (by simpa using hk)
  obtain ⟨h1, h2⟩ := key _ _ h
  refine ⟨by simpa using h1, fun i hi => h2 i i (by simp [hi])⟩
theorem add_zero' (a : Addr) : a.add 0 = a := by unfold Addr.add; simp
theorem cells_row {W : World} {a : Addr} {n : Nat} {cs : List Value} (h : W.cells? 0 a n = some cs) (hn : 0 < n) :
    a.spot = none ∧ ∃ c T fz, W.heap[a.block]? = some (.cells c T fz) ∧ (c.toList.drop a.off).take n = cs ∧ cs.length = n := by
  unfold World.cells? at h
  rw [if_pos (Nat.zero_le _)] at h
  obtain ⟨hl, hf⟩ := mapM_range h
  have h0 := hf 0 hn
  rw [add_zero'] at h0
  have hex : ∃ v, W.cell? a = some v := ⟨cs[0], by rw [h0, List.getElem?_eq_getElem]⟩
  obtain ⟨v, hv⟩ := hex
  have hv' := hv
  unfold World.cell? at hv'
  split at hv'
  · rename_i c T fz hc
    split at hv'
    · cases hv'
    · rename_i hs
      have hs' : a.spot = none := by cases h : a.spot with
        | none => rfl
        | some _ => rw [h] at hs; simp at hs
      refine ⟨hs', c, T, fz, hc, ?_, hl⟩
      apply List.ext_getElem?
      intro i
      by_cases hi : i < n
      · rw [List.getElem?_take_of_lt hi, List.getElem?_drop, ← hf i hi]
        have e : a.add i = ⟨a.block, a.off + i, none⟩ := by
          unfold Addr.add
          split
          · rename_i h0; subst h0; cases a; simp at hs'; subst hs'; rfl
          · cases a; rfl
        rw [e, cell_of_row W a.block (a.off + i) c T fz hc, Array.getElem?_toList]
      · rw [List.getElem?_eq_none (by simp; omega), List.getElem?_eq_none (by omega)]
  · cases hv'
theorem Rd.slice {P : Program} {t e : TypeId} {α : Type} [Enc α] (ht : P.underlying t = some (.slice e)) (hc : P.cellsOf e = Enc.sz α) (hr : Rd P e α) {X : Type} {enc : TypeId × Value → X} {W : World} {fuel : Nat} {v : Value} {x : DataW X × List MemPlace}
    (h : DataW.trod enc P W 0 (fun _ => true) true fuel t [v] = some x) : ∃ a : List α, Sl (Hp.of W) v a := by
  rcases DataW.trod_slice ht h with ⟨hcs, _⟩ | ⟨a, len, cap, elems, rest, n, _, hcs, _, _, hl, hm, hel, hf, _⟩
  · simp at hcs; subst hcs; exact ⟨[], Sl.nil⟩
  · simp at hcs; subst hcs
    by_cases h0 : len = 0
    · subst h0
      exact ⟨[], some a, cap, rfl, by simp, hm, .inl rfl⟩
    · have hsz := Enc.pos (α := α)
      -- each element's cells
      have hrow : ∀ i, i < len → ∃ cs y, W.cells? 0 (a.add (i * Enc.sz α)) (Enc.sz α) = some cs ∧ DataW.trod enc P W 0 (fun _ => true) true n e cs = some y := by
        intro i hi
        have := hf i hi
        rw [hc, List.getElem?_eq_getElem (by omega)] at this
        obtain ⟨cs, h1, h2⟩ := Option.bind_eq_some_iff.1 this
        exact ⟨cs, _, h1, h2⟩
      obtain ⟨cs0, y0, h1, _⟩ := hrow 0 (by omega)
      rw [Nat.zero_mul, add_zero'] at h1
      obtain ⟨hs, c, T, fz, hcc, _, _⟩ := cells_row h1 hsz
      have e : ∀ i, a.add i = ⟨a.block, a.off + i, none⟩ := by
        intro i
        unfold Addr.add
        split
        · rename_i h0; subst h0; cases a; simp at hs; subst hs; rfl
        · cases a; rfl
      have key : ∀ k, k ≤ len → ∃ xs : List α, xs.length = k ∧ Cells (Hp.of W) ((c.toList.drop (a.off + (len - k) * Enc.sz α)).take (k * Enc.sz α)) xs := by
        intro k
        induction k with
        | zero => intro _; exact ⟨[], rfl, by simp [Cells]⟩
        | succ k ih =>
          intro hk
          obtain ⟨xs, hxl, hxs⟩ := ih (by omega)
          obtain ⟨cs, y, h1, h2⟩ := hrow (len - (k + 1)) (by omega)
          obtain ⟨z, hz⟩ := hr X enc W n cs y h2
          rw [e] at h1
          obtain ⟨_, c', T', fz', hcc', htk, hlen⟩ := cells_row h1 hsz
          have : c' = c := by
            have h3 : W.heap[a.block]? = some (.cells c' T' fz') := hcc'
            rw [hcc] at h3; simp at h3; exact h3.1.symm
          subst this
          refine ⟨z :: xs, by simp [hxl], cs, _, ?_, hz, hxs⟩
          have htk' : (c'.toList.drop (a.off + (len - (k + 1)) * Enc.sz α)).take (Enc.sz α) = cs := htk
          rw [Nat.succ_mul, Nat.add_comm (k * Enc.sz α), List.take_add, htk', List.drop_drop]
          have e3 : a.off + (len - k) * Enc.sz α = a.off + (len - (k + 1)) * Enc.sz α + Enc.sz α := by
            have : len - k = (len - (k + 1)) + 1 := by omega
            rw [this, Nat.succ_mul]; omega
          rw [e3]
      obtain ⟨xs, hxl, hxs⟩ := key len (Nat.le_refl _)
      subst hxl
      refine ⟨xs, some a, cap, rfl, hl, hm, .inr ⟨a.block, a.off, _, ?_, ?_, hxs⟩⟩
      · cases a; simp at hs; subst hs; rfl
      · refine ⟨T, c.toList, rfl, Hp.of_cells hcc, (c.toList.drop a.off).drop (xs.length * Enc.sz α), ?_⟩
        rw [Nat.sub_self, Nat.zero_mul, Nat.add_zero]
        exact (List.take_append_drop _ _).symm
theorem Rd.list {P : Program} {t e : TypeId} {α : Type} [Enc α] (hc : P.cellsOf e = Enc.sz α) (ht : P.underlying t = some (.slice e)) (hr : Rd P e α) :
    ∀ (X : Type) (enc : TypeId × Value → X) (W : World) (fuel : Nat) (cs : List Value) (x : DataW X × List MemPlace), DataW.trod enc P W 0 (fun _ => true) true fuel t cs = some x → ∃ (v : Value) (a : List α), cs = [v] ∧ Sl (Hp.of W) v a := by
  intro X enc W fuel cs x h
  have : ∃ v, cs = [v] := by
    rcases DataW.trod_slice ht h with ⟨hcs, _⟩ | ⟨a, len, cap, elems, rest, n, _, hcs, _⟩
    · exact ⟨_, hcs⟩
    · exact ⟨_, hcs⟩
  obtain ⟨v, rfl⟩ := this
  obtain ⟨a, ha⟩ := Rd.slice ht hc hr h
  exact ⟨v, a, rfl, ha⟩
/-- A field of a struct, read. -/
theorem Rd.field {P : Program} {t : TypeId} {fs : Array Field} {X : Type} {enc : TypeId × Value → X} {W : World} {fuel : Nat} {cs : List Value} {x : DataW X × List MemPlace} (ht : P.underlying t = some (.struct fs))
    (h : DataW.trod enc P W 0 (fun _ => true) true fuel t cs = some x) : cs.length = P.cellsOf t ∧ ∀ (i : Nat) (f : Field), fs[i]? = some f → ∃ n y, DataW.trod enc P W 0 (fun _ => true) true n f.type ((cs.drop f.offset).take (P.cellsOf f.type)) = some y := by
  obtain ⟨xs, n, _, _, hl, hlen, hf⟩ := DataW.trod_struct ht h
  refine ⟨hl, fun i f hi => ⟨n, xs[i]'(by rw [hlen]; exact (Array.getElem?_eq_some_iff.1 hi).1), ?_⟩⟩
  rw [hf i f hi, List.getElem?_eq_getElem]
/-- A struct's argument: its cells. -/
theorem arg_struct {P : Program} {W : World} {X : Type} {enc : TypeId × Value → X} {t : TypeId} {fs : Array Field} {α : Type} [Enc α] {v : Value} {d : DataW X} {p : List MemPlace} {base : Nat} (ht : P.underlying t = some (.struct fs)) (hr : Rd P t α)
    (hv : Value.okWide P W .any base t v) (h : DataW.Trod enc P W 0 (fun _ => true) true t v d p) : ∃ cs a, v = agg cs ∧ Enc.cells (α := α) (Hp.of W) cs a := by
  obtain ⟨cs, rfl, _⟩ := okWide_struct ht hv
  obtain ⟨fuel, h⟩ := h
  obtain ⟨a, ha⟩ := hr X enc W fuel _ _ h
  exact ⟨cs.toList, a, rfl, ha⟩
end Go.Eng
