/- The engine, part 5: operations on memory; calls; a function's contract. -/
import Derived.Test.YtmeemcjmhbgbdaaGreatDoorEng4
namespace Go.Eng
open Go

/-- Where a field lies. -/
def fld (P : Program) (T : TypeId) (k : Nat) : Option Nat :=
  match P.underlying T with
  | some (.struct fs) => match fs[k]? with
    | some g => if P.cellsOf g.type = 0 then none else some g.offset
    | none => none
  | _ => none
/-- The zero value. -/
def zer (P : Program) (T : TypeId) : Option (List Value) := ((P.info? T).bind (·.zero)).map (·.cells.toList)

section
variable {P : Program} {N : Nat} {f : Fr} {w w0 : World} {H0 H : Hp} {L : List Ent} {ops : Array Oper} {rest : List Oper} {Q : Fr → World → Prop} {d : Nat} {od : Option Nat} {ty : TypeId} {pos : String} {af : Array Edge} {g : Option (Nat × Bool)}

theorem run_newVar {T : TypeId} {v : Value} {cs : List Value} (hc : v.cells.toList = cs) : (Instr.box T v).run P w = .ok (ptr w.heap.size 0) (w.alloc (.cells cs.toArray T)) := by
  subst hc
  simp [Instr.box, newVar, newRow, ptr]
theorem W.box {T : TypeId} {x : Operand} {v : Value} (cs : List Value) (S : St w0 H0 w H L) (hx : ev N f x = v) (hc : v.cells.toList = cs)
    (k : ∀ b w', St w0 H0 w' H (.box b T cs :: L) → WL P N ops rest Q (upd f d (ptr b 0)) w') : WL P N ops (⟨some d, .box T x, ty, pos, af, none⟩ :: rest) Q f w := by
  refine WL.valw (v := ptr w.heap.size 0) (w' := w.alloc (.cells cs.toArray T)) ?_ (k _ _ (S.box T cs.toArray (0, 0) cs [] (by simp) (by intro i _ h; exact Nat.not_lt_zero _ h.2)))
  simp only [execOp, hx, Sem.run_bind, run_newVar hc, Result.andThen_ok, Sem.run_pure]
theorem W.alloc {T : TypeId} (cs : List Value) (S : St w0 H0 w H L) (hc : zer P T = some cs)
    (k : ∀ b w', St w0 H0 w' H (.box b T cs :: L) → WL P N ops rest Q (upd f d (ptr b 0)) w') : WL P N ops (⟨some d, .alloc T, ty, pos, af, none⟩ :: rest) Q f w := by
  unfold zer at hc
  cases hi : P.info? T with
  | none => rw [hi] at hc; cases hc
  | some i =>
    rw [hi] at hc
    cases hz : i.zero with
    | none => simp [hz] at hc
    | some z =>
      simp [hz] at hc
      refine WL.valw (v := ptr w.heap.size 0) (w' := w.alloc (.cells cs.toArray T)) ?_ (k _ _ (S.box T cs.toArray (0, 0) cs [] (by simp) (by intro i _ h; exact Nat.not_lt_zero _ h.2)))
      subst hc
      simp [execOp, Instr.alloc, zeroValue, typeInfo, hi, hz, newVar, newRow, ptr]

theorem BoxOk.cell {b : Nat} {T : TypeId} {cs : List Value} (h : BoxOk w H b T cs) {o : Nat} {v : Value} (hv : cs[o]? = some v) : w.cell? ⟨b, o, none⟩ = some v := by
  obtain ⟨_, arr, fz, hc, ⟨r, hr⟩, _⟩ := h
  rw [cell_of_row w b o arr T fz hc, ← Array.getElem?_toList, hr, List.getElem?_append_left (List.getElem?_eq_some_iff.1 hv).1]
  exact hv
theorem St.boxOk (S : St w0 H0 w H L) {i b : Nat} {T : TypeId} {cs : List Value} (hi : L[i]? = some (.box b T cs)) : BoxOk w H b T cs := S.ents _ (List.mem_of_getElem? hi)
/-- A load of one cell. -/
theorem R.load1 {T : TypeId} {x : Operand} {a : Addr} {v : Value} (hx : ev N f x = .pointer (some a)) (hT : lay P T = some (false, 1)) (hv : w.cell? a = some v) :
    (execOp (ev N f) ⟨od, .load T x, ty, pos, af, g⟩).run P w = .ok (.value v) w := by
  obtain ⟨h1, _⟩ := run_isAgg (w := w) hT
  simp [execOp, Instr.loadAt, Instr.sureAddr, hx, loadVar, h1, hv]
/-- A load of a struct. -/
theorem R.loadN {T : TypeId} {x : Operand} {a : Addr} {n : Nat} {vs : List Value} (hx : ev N f x = .pointer (some a)) (hT : lay P T = some (true, n)) (hn : vs.length = n) (hv : ∀ j v, vs[j]? = some v → w.cell? (a.add j) = some v) :
    (execOp (ev N f) ⟨od, .load T x, ty, pos, af, g⟩).run P w = .ok (.value (agg vs)) w := by
  obtain ⟨h1, h2⟩ := run_isAgg (w := w) hT
  have h3 := run_loadCells_list (P := P) (w := w) a vs hv
  rw [hn] at h3
  simp [execOp, Instr.loadAt, Instr.sureAddr, hx, loadVar, h1, h2, h3, agg]
theorem R.loadB {T T' : TypeId} {x : Operand} {b o i : Nat} {cs : List Value} {v : Value} (S : St w0 H0 w H L) (hx : ev N f x = ptr b o) (hi : L[i]? = some (.box b T' cs)) (hT : lay P T = some (false, 1)) (hv : cs[o]? = some v) :
    (execOp (ev N f) ⟨od, .load T x, ty, pos, af, g⟩).run P w = .ok (.value v) w := R.load1 hx hT ((S.boxOk hi).cell hv)
theorem R.loadBN {T T' : TypeId} {x : Operand} {b o i n : Nat} {cs vs : List Value} (S : St w0 H0 w H L) (hx : ev N f x = ptr b o) (hi : L[i]? = some (.box b T' cs)) (hT : lay P T = some (true, n)) (hn : vs.length = n) (hv : (cs.drop o).take n = vs) :
    (execOp (ev N f) ⟨od, .load T x, ty, pos, af, g⟩).run P w = .ok (.value (agg vs)) w := by
  refine R.loadN hx hT hn fun j v hj => ?_
  rw [Addr.add_lit]
  refine (S.boxOk hi).cell ?_
  rw [← hv, List.getElem?_take, List.getElem?_drop] at hj
  split at hj
  · exact hj
  · cases hj
theorem R.loadH {T : TypeId} {x : Operand} {a : Addr} {cs : List Value} {v : Value} (S : St w0 H0 w H L) (hx : ev N f x = .pointer (some a)) (hA : At H a cs) (hT : lay P T = some (false, 1)) (hv : cs[0]? = some v) :
    (execOp (ev N f) ⟨od, .load T x, ty, pos, af, g⟩).run P w = .ok (.value v) w := by
  refine R.load1 hx hT ?_
  have := hA.cell S.holds hv
  simpa [Addr.add] using this
theorem R.loadHN {T : TypeId} {x : Operand} {a : Addr} {n : Nat} {cs vs : List Value} (S : St w0 H0 w H L) (hx : ev N f x = .pointer (some a)) (hA : At H a cs) (hT : lay P T = some (true, n)) (hn : vs.length = n) (hv : cs.take n = vs) :
    (execOp (ev N f) ⟨od, .load T x, ty, pos, af, g⟩).run P w = .ok (.value (agg vs)) w := by
  refine R.loadN hx hT hn fun j v hj => ?_
  refine hA.cell S.holds ?_
  rw [← hv, List.getElem?_take] at hj
  split at hj
  · exact hj
  · cases hj
theorem R.field {T : TypeId} {x : Operand} {a : Addr} {k off : Nat} (hx : ev N f x = .pointer (some a)) (hF : fld P T k = some off) :
    (execOp (ev N f) ⟨od, .fieldAddr T x k, ty, pos, af, g⟩).run P w = .ok (.value (.pointer (some (a.add off)))) w := by
  unfold fld at hF
  split at hF
  · rename_i fs hT
    split at hF
    · rename_i fi hk
      split at hF
      · cases hF
      · rename_i hsz
        simp at hF
        subst hF
        have : (sizeOf fi.type).run P w = .ok (P.cellsOf fi.type) w ∨ P.info? fi.type = none := by
          unfold Program.cellsOf
          cases hi : P.info? fi.type with
          | none => exact .inr rfl
          | some i => simp [sizeOf, typeInfo, hi]
        rcases this with h | h
        · simp [execOp, Instr.fieldAt, Instr.sureAddr, hx, run_underlying hT, hk, fieldPlace, h, hsz]
        · exact absurd (by simp [Program.cellsOf, h]) hsz
    · cases hF
  · cases hF
theorem R.fieldB {T : TypeId} {x : Operand} {b o k off : Nat} (hx : ev N f x = ptr b o) (hF : fld P T k = some off) :
    (execOp (ev N f) ⟨od, .fieldAddr T x k, ty, pos, af, g⟩).run P w = .ok (.value (ptr b (o + off))) w := by
  have := R.field (P := P) (w := w) (od := od) (ty := ty) (pos := pos) (af := af) (g := g) hx hF
  rwa [Addr.add_lit] at this

/-! stores -/
theorem run_storeCells (b o : Nat) (T : TypeId) (fz : Nat × Nat) : ∀ (vs : List Value) (i : Nat) (arr : Array Value) (w : World), w.heap[b]? = some (.cells arr T fz) → o + i + vs.length ≤ arr.size → (∀ v ∈ vs, v.oneCell' = true) →
    (∀ j, o + i ≤ j → j < o + i + vs.length → ¬ (fz.1 ≤ j ∧ j < fz.2)) →
    ∃ w' arr', (storeCells ⟨b, o, none⟩ vs i).run P w = .ok () w' ∧ (∀ k, k ≠ b → w'.heap[k]? = w.heap[k]?) ∧ w'.heap.size = w.heap.size ∧ (w'.os = w.os ∧ w'.tape = w.tape ∧ w'.output = w.output) ∧
      w'.heap[b]? = some (.cells arr' T fz) ∧ arr'.toList = arr.toList.take (o + i) ++ vs ++ arr.toList.drop (o + i + vs.length)
  | [], i, arr, w, hb, _, _, _ => ⟨w, arr, rfl, fun _ _ => rfl, rfl, ⟨rfl, rfl, rfl⟩, hb, by simp⟩
  | v :: vs, i, arr, w, hb, hl, h1, hf => by
    have hlen : o + i < arr.size := by simp at hl; omega
    have hcell : w.cell? ((⟨b, o, none⟩ : Addr).add i) = some arr[o + i] := by
      rw [Addr.add_lit, cell_of_row w b (o + i) arr T fz hb]; simp [hlen]
    have hfr : w.frozen? ((⟨b, o, none⟩ : Addr).add i) = false := by
      rw [Addr.add_lit]
      have := hf (o + i) (Nat.le_refl _) (by simp)
      have h2 : w.frozen? ⟨b, o + i, none⟩ = (decide (fz.1 ≤ o + i) && decide (o + i < fz.2)) := by
        unfold World.frozen?
        rw [hb]
      rw [h2]
      by_cases ha : fz.1 ≤ o + i <;> by_cases hb' : o + i < fz.2 <;> simp_all
    have hw1 : (w.setCell ((⟨b, o, none⟩ : Addr).add i) v).heap[b]? = some (.cells (arr.setIfInBounds (o + i) v) T fz) := by
      rw [Addr.add_lit]
      simp only [World.setCell, Array.getElem?_modify, if_true, hb, Option.map_some]
      rfl
    obtain ⟨w', arr', hr, hoth, hsz, hos, hb', harr⟩ := run_storeCells b o T fz vs (i + 1) (arr.setIfInBounds (o + i) v) _ hw1 (by simp at hl ⊢; omega) (fun u hu => h1 u (List.mem_cons_of_mem _ hu)) (fun j h2 h3 => hf j (by omega) (by simp at h3 ⊢; omega))
    refine ⟨w', arr', ?_, ?_, ?_, ?_, hb', ?_⟩
    · simp only [storeCells, Sem.run_bind]
      rw [run_store P w _ v _ (h1 v List.mem_cons_self), hcell]
      simp only [hfr, Bool.false_eq_true, if_false, Result.andThen_ok]
      exact hr
    · intro k hk
      rw [hoth k hk]
      exact heap_setCell_other w _ k v (by rw [Addr.add_lit]; exact hk)
    · rw [hsz]; simp
    · exact ⟨hos.1, hos.2.1, hos.2.2⟩
    · have hlen' : o + i < arr.toList.length := by simpa using hlen
      have e1 : (arr.toList.set (o + i) v).take (o + (i + 1)) = arr.toList.take (o + i) ++ [v] := by
        rw [← Nat.add_assoc, List.take_add_one, List.take_set_of_le (Nat.le_refl _), List.getElem?_set_self hlen']
        rfl
      have e2 : (arr.toList.set (o + i) v).drop (o + (i + 1) + vs.length) = arr.toList.drop (o + i + (vs.length + 1)) := by
        rw [List.drop_set_of_lt (by omega)]
        congr 1; omega
      rw [harr, Array.toList_setIfInBounds, e1, e2]
      simp [List.append_assoc]
theorem W.store {T T' : TypeId} {a x : Operand} {b o i n : Nat} {bb : Bool} {v : Value} {cs : List Value} (cs' : List Value) (S : St w0 H0 w H L) (ha : ev N f a = ptr b o) (hx : ev N f x = v) (hi : L[i]? = some (.box b T' cs)) (hT : lay P T = some (bb, n))
    (hn : v.cells.size = n) (h1 : v.cells.toList.all Value.oneCell' = true) (ho : o + n ≤ cs.length) (hc : splice cs o v.cells.toList = cs')
    (k : ∀ w', St w0 H0 w' H (L.set i (.box b T' cs')) → WL P N ops rest Q (updo f od undef) w') : WL P N ops (⟨od, .store T a x, ty, pos, af, none⟩ :: rest) Q f w := by
  obtain ⟨_, h2⟩ := run_isAgg (w := w) hT
  obtain ⟨_, arr, fz, hb, ⟨r, hr⟩, hf⟩ := S.boxOk hi
  have hlen : v.cells.toList.length = n := by simpa using hn
  have harrl : arr.size = cs.length + r.length := by rw [← Array.length_toList, hr, List.length_append]
  obtain ⟨w', arr', hrun, hoth, hsz, hos, hb', harr⟩ := run_storeCells (P := P) b o T' fz v.cells.toList 0 arr w hb (by omega) (fun u hu => List.all_eq_true.1 h1 u hu) (fun j _ h4 => hf j (by omega))
  refine WL.skipw (w' := w') ?_ (k w' (S.stored hi ?_ hoth hsz hos ?_))
  · simp only [execOp, Instr.storeAt, Instr.sureAddr, ha, hx, ptr, storeVar, Sem.run_bind, Sem.run_pure, Result.andThen_ok, h2, hn, ne_eq, not_true_eq_false, if_false, hrun]
  · rw [← hc]; simp [splice]; omega
  · intro arr2 fz2 r2 hb2 hr2
    rw [hb] at hb2
    simp only [Option.some.injEq, Obj.cells.injEq, true_and] at hb2
    obtain ⟨rfl, rfl⟩ := hb2
    refine ⟨arr', hb', ?_⟩
    have hrr : r2 = r := by rw [hr] at hr2; exact (List.append_cancel_left hr2).symm
    subst hrr
    rw [harr, ← hc, splice, hr, Nat.add_zero, List.take_append_of_le_length (by omega), List.drop_append_of_le_length (by omega)]
    simp only [List.append_assoc]

/-! slices -/
theorem W.idx {α : Type} [Enc α] {T e : TypeId} {x i : Operand} {v : Value} {xs : List α} {n : Int} {c : α} (hR : Sl H v xs) (hx : ev N f x = v) (hi : ev N f i = int n) (hE : Elem P T e (Enc.sz α)) (h : xnth xs n = some c)
    (k : ∀ a cs, At H a cs → Enc.cells H cs c → WL P N ops rest Q (upd f d (.pointer (some a))) w) : WL P N ops (⟨some d, .indexAddr T x i, ty, pos, af, none⟩ :: rest) Q f w := by
  unfold xnth at h
  split at h
  case isFalse => cases h
  rename_i h0
  obtain ⟨a, cp, rfl, h1, h2, h3⟩ := hR
  obtain ⟨hlt, hc⟩ := List.getElem?_eq_some_iff.1 h
  rcases h3 with rfl | ⟨b, off, cs, rfl, hat, hC⟩
  · simp at hlt
  obtain ⟨cs1, r, hr, hcs1⟩ := hC.get h
  have hE' := hE
  obtain ⟨ht, inf, z, hinf, _, hsize, _⟩ := hE'
  have hat' : At H ⟨b, off + n.toNat * Enc.sz α, none⟩ cs1 := by
    obtain ⟨T', l, _, hH, r', hr'⟩ := hat
    refine ⟨T', l, rfl, hH, r ++ r', ?_⟩
    show l.drop (off + n.toNat * Enc.sz α) = _
    have hle : n.toNat * Enc.sz α ≤ cs.length := by
      rw [hC.length]; exact Nat.mul_le_mul_right _ (by omega)
    rw [← List.drop_drop, show List.drop off l = cs ++ r' from hr', List.drop_append_of_le_length hle, hr, List.append_assoc]
  refine WL.valw (v := .pointer (some ⟨b, off + n.toNat * Enc.sz α, none⟩)) (w' := w) ?_ (k _ _ hat' hcs1)
  have hr : 0 ≤ n ∧ n < (xs.length : Int) := ⟨h0, by omega⟩
  simp [execOp, Instr.indexAt, asIntOf, hx, hi, int, run_underlying ht, hr, sizeOf, typeInfo, hinf, hsize, Addr.add_lit]
theorem Sl.sub {α : Type} [Enc α] {a : Option Addr} {xs ys : List α} {c : Nat} (hR : Sl H (.slice a xs.length c) xs) {n m : Int} (h : xsub xs n m = some ys) :
    Sl H (.slice (if c = n.toNat then a else a.map (·.add (n.toNat * Enc.sz α))) (m.toNat - n.toNat) (c - n.toNat)) ys := by
  unfold xsub at h
  split at h
  case isFalse => cases h
  rename_i h0
  simp only [Option.some.injEq] at h
  subst h
  obtain ⟨a', c', hv, h1, h2, h3⟩ := hR
  simp only [Value.slice.injEq, true_and] at hv
  obtain ⟨rfl, rfl⟩ := hv
  have hlen : ((xs.take m.toNat).drop n.toNat).length = m.toNat - n.toNat := by simp; omega
  refine ⟨_, c - n.toNat, by rw [hlen], by rw [hlen]; omega, by omega, ?_⟩
  by_cases hnm : n.toNat = m.toNat
  · left; exact List.eq_nil_of_length_eq_zero (by rw [hlen]; omega)
  · right
    rcases h3 with rfl | ⟨b, off, cs, rfl, hat, hC⟩
    · simp at h0; omega
    · have hne : ¬ (c = n.toNat) := by omega
      have hCt := (hC.take m.toNat (by omega)).drop n.toNat (by simp; omega)
      refine ⟨b, off + n.toNat * Enc.sz α, _, ?_, ?_, hCt⟩
      · simp [hne, Addr.add_lit]
      · obtain ⟨T', l, _, hH, r', hr'⟩ := hat
        refine ⟨T', l, rfl, hH, cs.drop (m.toNat * Enc.sz α) ++ r', ?_⟩
        have hml : m.toNat * Enc.sz α ≤ cs.length := by rw [hC.length]; exact Nat.mul_le_mul_right _ (by omega)
        have hnl : n.toNat * Enc.sz α ≤ m.toNat * Enc.sz α := Nat.mul_le_mul_right _ (by omega)
        show l.drop (off + n.toNat * Enc.sz α) = _
        rw [← List.drop_drop, show List.drop off l = cs ++ r' from hr', List.drop_append_of_le_length (by omega), ← List.append_assoc]
        congr 1
        conv => lhs; rw [← List.take_append_drop (m.toNat * Enc.sz α) cs]
        rw [List.drop_append_of_le_length (by simp; omega)]
theorem W.sub {α : Type} [Enc α] {T e : TypeId} {x i j : Operand} {v : Value} {xs ys : List α} {n m : Int} (hR : Sl H v xs) (hx : ev N f x = v) (hi : ev N f i = int n) (hj : ev N f j = int m) (hE : Elem P T e (Enc.sz α)) (h : xsub xs n m = some ys)
    (k : ∀ v', Sl H v' ys → WL P N ops rest Q (upd f d v') w) : WL P N ops (⟨some d, .slice T x (some i) (some j) none, ty, pos, af, none⟩ :: rest) Q f w := by
  obtain ⟨a, c, rfl, h1, h2, h3⟩ := hR
  have hs := Sl.sub (⟨a, c, rfl, h1, h2, h3⟩) h
  refine WL.valw (w' := w) ?_ (k _ hs)
  obtain ⟨ht, inf, z, hinf, _, hsize, _⟩ := hE
  unfold xsub at h
  split at h
  case isFalse => cases h
  rename_i h0
  have g1 : 0 ≤ m ∧ m ≤ (c : Int) := ⟨by omega, by omega⟩
  simp [execOp, Instr.sliceAt, Instr.slice, Instr.sliceBounds, Instr.sliceBound, asIntOf, hx, hi, hj, int, run_underlying ht, g1, h0.1, sizeOf, typeInfo, hinf, hsize]
  intro hc; omega
theorem W.subHi {α : Type} [Enc α] {T e : TypeId} {x j : Operand} {v : Value} {xs ys : List α} {m : Int} (hR : Sl H v xs) (hx : ev N f x = v) (hj : ev N f j = int m) (hE : Elem P T e (Enc.sz α)) (h : xsub xs 0 m = some ys)
    (k : ∀ v', Sl H v' ys → WL P N ops rest Q (upd f d v') w) : WL P N ops (⟨some d, .slice T x none (some j) none, ty, pos, af, none⟩ :: rest) Q f w := by
  obtain ⟨a, c, rfl, h1, h2, h3⟩ := hR
  have hs := Sl.sub (⟨a, c, rfl, h1, h2, h3⟩) h
  refine WL.valw (w' := w) ?_ (k _ hs)
  obtain ⟨ht, inf, z, hinf, _, hsize, _⟩ := hE
  unfold xsub at h
  split at h
  case isFalse => cases h
  rename_i h0
  have g1 : 0 ≤ m ∧ m ≤ (c : Int) := ⟨by omega, by omega⟩
  simp [execOp, Instr.sliceAt, Instr.slice, Instr.sliceBounds, Instr.sliceBound, asIntOf, hx, hj, int, run_underlying ht, g1, sizeOf, typeInfo, hinf]
theorem W.app {α : Type} [Enc α] {T e : TypeId} {x y : Operand} {v u : Value} {xs ys zs : List α} {i : Nat} (S : St w0 H0 w H L) (hE : Elem P T e (Enc.sz α)) (hi : L[i]? = some (.row v e (Enc.sz α) xs.length))
    (hx : ev N f x = v) (hy : ev N f y = u) (hX : Sl H v xs) (hY : Sl H u ys) (h : xapp xs ys = some zs)
    (k : ∀ v' w' H', H.le H' → Sl H' v' zs → St w0 H0 w' H' (L.set i (.row v' e (Enc.sz α) zs.length)) → WL P N ops rest Q (upd f d v') w') : WL P N ops (⟨some d, .call ⟨.builtin .append, #[x, y], #[T, T]⟩, ty, pos, af, none⟩ :: rest) Q f w := by
  obtain ⟨v', w', H', hr, hle, hsl, hst⟩ := S.append (P := P) (t := T) (ty := ty) hE hi hX hY h
  refine WL.valw (v := v') (w' := w') ?_ (k v' w' H' hle hsl hst)
  simp only [execOp, resolve, invoke, builtin, Sem.run_bind, Sem.run_pure, Result.andThen_ok, List.map_toArray, List.map_cons, List.map_nil, hx, hy, hr]

/-! slices written out -/
theorem foldl_set (off : Nat) : ∀ (l : List Value) (k : Nat) (arr : Array Value), off + k + l.length ≤ arr.size →
    ((l.zipIdx k).foldl (fun (cs : Array Value) (x : Value × Nat) => cs.setIfInBounds (off + x.2) x.1) arr).toList = arr.toList.take (off + k) ++ l ++ arr.toList.drop (off + k + l.length)
  | [], k, arr, _ => by simp
  | v :: l, k, arr, h => by
    simp only [List.zipIdx_cons, List.foldl_cons]
    rw [foldl_set off l (k + 1) _ (by simp at h ⊢; omega)]
    simp only [Array.toList_setIfInBounds, List.length_cons]
    have hlen : off + k < arr.toList.length := by simp at h ⊢; omega
    have e1 : (arr.toList.set (off + k) v).take (off + (k + 1)) = arr.toList.take (off + k) ++ [v] := by
      rw [← Nat.add_assoc, List.take_add_one, List.take_set_of_le (Nat.le_refl _), List.getElem?_set_self hlen]
      rfl
    have e2 : (arr.toList.set (off + k) v).drop (off + (k + 1) + l.length) = arr.toList.drop (off + k + (l.length + 1)) := by
      rw [List.drop_set_of_lt (by omega)]
      congr 1; omega
    rw [e1, e2]
    simp [List.append_assoc]
theorem run_fill (sz : Nat) (hsz : 0 < sz) : ∀ (vs : List Value) (i : Nat) (arr : Array Value), (∀ v ∈ vs, v.cells.size = sz) → arr.size = (i + vs.length) * sz →
    ∃ arr', Instr.fill (fun i => some (i * sz, sz)) arr ((vs.zipIdx i).map fun x => (x.2, x.1)) = some arr' ∧ arr'.toList = arr.toList.take (i * sz) ++ (vs.flatMap fun v => v.cells.toList)
  | [], i, arr, _, hl => by
    refine ⟨arr, rfl, ?_⟩
    have : arr.toList.length ≤ i * sz := by simp at hl ⊢; omega
    simp [List.take_of_length_le this]
  | v :: vs, i, arr, hv, hl => by
    have h1 : v.cells.size = sz := hv v List.mem_cons_self
    have hbound : i * sz + sz ≤ arr.size := by rw [hl, List.length_cons]; calc i * sz + sz = (i + 1) * sz := by rw [Nat.succ_mul]
      _ ≤ _ := Nat.mul_le_mul_right _ (by omega)
    simp only [List.zipIdx_cons, List.map_cons, Instr.fill]
    have hno : ¬ ((v.cells.size ≠ sz || decide (i * sz + v.cells.size > arr.size)) = true) := by
      simp [h1]; omega
    rw [if_neg hno]
    have hf := foldl_set (i * sz) v.cells.toList 0 arr (by simp [h1]; omega)
    rw [← Array.foldl_toList, Array.toList_zipIdx]
    generalize hA : List.foldl (fun (cs : Array Value) (x : Value × Nat) => cs.setIfInBounds (i * sz + x.2) x.1) arr (v.cells.toList.zipIdx 0) = A at hf
    have hAs : A.size = arr.size := by
      have := congrArg List.length hf
      simp [h1] at this
      omega
    obtain ⟨arr', hr, ha⟩ := run_fill sz hsz vs (i + 1) A (fun u hu => hv u (List.mem_cons_of_mem _ hu)) (by rw [hAs, hl, List.length_cons]; congr 1; omega)
    refine ⟨arr', ?_, ?_⟩
    · rw [← hr]
    · rw [ha, hf]
      have e : ((arr.toList.take (i * sz + 0) ++ v.cells.toList ++ arr.toList.drop (i * sz + 0 + v.cells.toList.length))).take ((i + 1) * sz) = arr.toList.take (i * sz) ++ v.cells.toList := by
        rw [Nat.add_zero]
        apply List.take_left'
        simp [h1, Nat.succ_mul]
        omega
      rw [e]
      simp [List.append_assoc]
end
end Go.Eng
