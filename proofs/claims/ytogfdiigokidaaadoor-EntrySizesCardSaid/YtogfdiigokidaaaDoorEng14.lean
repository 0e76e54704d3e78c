/- The engine, part 14: maps of the call's own, keyed by strings; constants; loops that are unrolled; arrays by number; regions that draw, and write at their end. -/
import Derived.Test.YtogfdiigokidaaaDoorEng13
import Derived.StillTail
import Derived.Maps.Keyed
namespace Go.Eng
open Go Go.ChangeMaps
set_option linter.unusedVariables false
set_option linter.unusedSimpArgs false

section
variable {P : Program} {N : Nat} {f : Fr} {w w' w0 : World} {H0 H : Hp} {L : List Ent} {ops : Array Oper} {rest : List Oper} {Q : Fr → World → Prop} {d : Nat} {od : Option Nat} {ty : TypeId} {pos : String} {af : Array Edge} {g : Option (Nat × Bool)}
/-- A new block of one's own. -/
theorem St.new (S : St w0 H0 w H L) (o : Obj) (e : Ent) (hb : e.blk = some w.heap.size) (hok : e.ok (w.alloc o) H) : St w0 H0 (w.alloc o) H (e :: L) := by
  have hsz : w0.heap.size ≤ w.heap.size := S.post.below.size
  have hold : ∀ i, i < w.heap.size → (w.alloc o).heap[i]? = w.heap[i]? := fun i hi => RowKit.Below.heap_alloc w _ i hi
  refine ⟨⟨S.post.below.alloc hsz _, S.post.le, S.post.eqb, fun b T' l hbb => ?_⟩, ?_, ?_, ?_⟩
  · obtain ⟨cs', fz', hc, hr'⟩ := S.holds b T' l hbb
    exact ⟨cs', fz', by rw [hold b (Array.getElem?_eq_some_iff.1 hc).1]; exact hc, hr'⟩
  · intro e' he
    rcases List.mem_cons.1 he with rfl | he
    · exact hok
    · exact Ent.ok_keep (S.ents e' he) fun b hb => ⟨hold b (Ent.ok_lt (S.ents e' he) hb), rfl⟩
  · intro e' he b hbb
    rcases List.mem_cons.1 he with rfl | he
    · rw [hb] at hbb; cases hbb; exact hsz
    · exact S.own e' he b hbb
  · rw [List.filterMap_cons, hb]
    exact List.nodup_cons.2 ⟨fun hm => Nat.lt_irrefl _ (S.lt hm), S.nodup⟩
end

/-! constants -/
theorem R.ofEq {r : Result Next} {w : World} {v v' : Value} (h : r = .ok (.value v) w) (e : v = v') : r = .ok (.value v') w := by subst e; exact h

/-! loops that are unrolled -/
def RD (P : Program) (N : Nat) (c : Code) (Q : Exit → Fr → World → Prop) (n : Nat) (f : Fr) (w : World) : Prop :=
  Code.rounds P c (fun e a w' => ∃ f', a = act N f' ∧ Q e f' w') n (act N f) w
section
variable {P : Program} {N : Nat} {f : Fr} {w w' w0 : World} {H0 H : Hp} {L : List Ent} {ops : Array Oper} {rest : List Oper} {d : Nat} {od : Option Nat} {ty : TypeId} {pos : String} {af : Array Edge} {g : Option (Nat × Bool)}
theorem WP.loopRd {c : Code} {Q : Exit → Fr → World → Prop} (n : Nat) (h : RD P N c Q n f w) : WP P N (.loop c) Q f w := wp_loop_rounds n h
theorem RD.succ {c : Code} {Q : Exit → Fr → World → Prop} {n : Nat} (h : WP P N c (fun e f w => match e with | .normal => RD P N c Q n f w | e => Q e f w) f w) : RD P N c Q (n + 1) f w := by
  unfold RD
  rw [rounds_succ]
  refine Code.wp_mono (fun e a w ⟨f', ha, hq⟩ => ?_) h
  subst ha
  cases e with
  | normal => exact hq
  | _ => exact ⟨f', rfl, hq⟩

/-! arrays by number -/
theorem xnth_map {α β : Type} {F : α → β} {l : List α} {n : Int} {c : α} (h : xnth l n = some c) : 0 ≤ n ∧ n < l.length ∧ (l.map F)[n.toNat]? = some (F c) := by
  unfold xnth at h
  split at h
  · rename_i h0
    obtain ⟨hl, he⟩ := List.getElem?_eq_some_iff.1 h
    exact ⟨h0, by omega, by rw [List.getElem?_map, h]; rfl⟩
  · cases h
/-- An element of an array that is a value. -/
theorem R.idxA {α : Type} (F : α → Value) {T e n : Nat} {x y : Operand} {l : List α} {i : Int} {c : α} (hx : ev N f x = agg (l.map F)) (hy : ev N f y = int i) (hT : P.underlying T = some (.array n e)) (he : lay P e = some (false, 1)) (hn : l.length = n) (h : xnth l i = some c) :
    (execOp (ev N f) ⟨od, .index T x y, ty, pos, af, g⟩).run P w = .ok (.value (F c)) w := by
  obtain ⟨h0, h1, h2⟩ := xnth_map (F := F) h
  obtain ⟨g1, g2⟩ := run_isAgg (w := w) he
  have h3 : i < (n : Int) := by omega
  simp [execOp, Instr.index, asIntOf, hx, hy, int, agg, run_underlying hT, h0, h3, part, g1, g2, Result.andThen]
  rw [List.getElem?_map] at h2
  rw [h2]; rfl
/-- The address of an element of an array of one's own. -/
theorem R.idxAddrA {T e n m : Nat} {bb : Bool} {x y : Operand} {b o : Nat} {i : Int} (hx : ev N f x = ptr b o) (hy : ev N f y = int i) (hT : P.underlying T = some (.array n e)) (he : lay P e = some (bb, m)) (h : 0 ≤ i ∧ i < n) :
    (execOp (ev N f) ⟨od, .indexAddr T x y, ty, pos, af, g⟩).run P w = .ok (.value (ptr b (o + i.toNat * m))) w := by
  obtain ⟨_, g2⟩ := run_isAgg (w := w) he
  simp [execOp, Instr.indexAt, Instr.sureAddr, asIntOf, hx, hy, int, ptr, run_underlying hT, h.1, h.2, g2, Result.andThen, Addr.add_lit]
/-! cells as they are: elements of slices that hold pointers -/
structure Raw (n : Nat) where
  l : List Value
  len : l.length = n
  one : l.all Value.oneCell' = true
instance (n : Nat) : Enc (Raw (n + 1)) where
  sz := n + 1
  cells H cs x := cs = x.l
  pos := Nat.succ_pos _
  len := fun {H cs x} h => by rw [h]; exact x.len
  mono := fun h _ => h
  one := fun {H cs x} h v hv => by rw [h] at hv; exact List.all_eq_true.1 x.one v hv

/-! regions that draw; all their operations but the last ones only read -/
/-- Whatever order is taken among the first operations, till L holds. -/
def anyH (P : Program) (md : Region.Mode) (ops : Array Oper) (C : World → Prop) (n : Nat) (Lq : Array Bool → Act → Prop) : Nat → Array Bool → Act → Prop
  | 0, listed, a => Lq listed a
  | k + 1, listed, a => Region.ready md ops listed ≠ [] ∧ ∀ i ∈ Region.ready md ops listed, i < n ∧ qOp P ops C i (anyH P md ops C n Lq k (listed.setIfInBounds i true)) a
variable {md : Region.Mode} {C : World → Prop} {n m : Nat} {Lq : Array Bool → Act → Prop}
theorem anyH_any {Q' : Exit → Act → World → Prop} (hL : ∀ listed a w, C w → Lq listed a → wpAny P md ops Q' m listed a w) : ∀ (k : Nat) (listed : Array Bool) (a : Act) (w : World), C w → anyH P md ops C n Lq k listed a → wpAny P md ops Q' (k + m) listed a w
  | 0, listed, a, w, hw, h => by rw [Nat.zero_add]; exact hL _ _ _ hw h
  | k + 1, listed, a, w, hw, h => by
    have e : k + 1 + m = (k + m) + 1 := by omega
    rw [e]
    exact ⟨fun h0 => absurd h0 h.1, fun i hi => wpOp_of_qOp hw (fun a' w' hw' h' => anyH_any hL k _ a' w' hw' h') (h.2 i hi).2⟩
theorem anyH_first {i : Nat} {oi : Oper} {v : Value} (hi : ops[i]? = some oi) (hsel : ∀ (j : Nat) (o : Oper) cs b, ops[j]? = some o → o.op ≠ .select cs b)
    (hs : Region.sinkB md ops n = true) (hc : Region.chainB md ops n = true) (hn : n < ops.size) (hin : i < n) (hdone : ∀ listed a, Lq listed a → ∀ j ∈ Region.ready md ops listed, n ≤ j) :
    ∀ (k : Nat) (listed : Array Bool) (a : Act), HeadInv md ops n listed →
      (∀ j oj, ops[j]? = some oj → j ≠ i → listed.getD j true = false → (∀ e ∈ oj.after, Region.binds md e = true → e.on ≠ i) → oi.apart ops oj = true) →
      i ∈ Region.ready md ops listed → YieldsIn P ops C oi v a → anyH P md ops C n Lq k (listed.setIfInBounds i true) (a.put oi.dst v) → anyH P md ops C n Lq (k + 1) listed a := by
  intro k
  induction k with
  | zero =>
    intro listed a inv _ hr hy H
    have hun := (mem_ready.1 hr).1
    refine ⟨fun h => by rw [h] at hr; exact absurd hr (List.not_mem_nil), fun j hj => ?_⟩
    have hjn : j < n := Nat.lt_of_not_le fun h => absurd hj (tail_waits hs hc hn inv _ i rfl hin hun j h)
    by_cases hji : j = i
    · subst hji; exact ⟨hjn, hy.qOp hi H⟩
    · exact absurd (hdone _ _ H j (ready_mono hj hji)) (by omega)
  | succ k ih =>
    intro listed a inv hfree hr hy H
    have hun := (mem_ready.1 hr).1
    refine ⟨fun h => by rw [h] at hr; exact absurd hr (List.not_mem_nil), fun j hj => ?_⟩
    have hjn : j < n := Nat.lt_of_not_le fun h => absurd hj (tail_waits hs hc hn inv _ i rfl hin hun j h)
    refine ⟨hjn, ?_⟩
    by_cases hji : j = i
    · subst hji; exact hy.qOp hi H
    · obtain ⟨hjun, oj, hoj, hall⟩ := mem_ready.1 hj
      have hnot : ∀ e ∈ oj.after, Region.binds md e = true → e.on ≠ i := fun e he hb heq => by
        have h1 := hall e he hb
        rw [heq, getD_both hun] at h1
        cases h1
      refine qOp_mono (fun a' h3 => ih (listed.setIfInBounds j true) a' (inv.set hj hjn) (fun x ox hx hxi hxu hxn => ?_) (ready_mono hr (Ne.symm hji)) h3.1 ?_)
        (qOp_put hoj (hfree j oj hoj hji hjun hnot) (fun cs b => hsel i oi cs b hi) (fun cs b => hsel j oj cs b hoj) hy (H.2 j (ready_mono hj hji)).2)
      · refine hfree x ox hx hxi ?_ hxn
        by_cases hjx : j = x
        · subst hjx; exact hjun
        · rw [getD_set_ne true hjx] at hxu; exact hxu
      · rw [Array.setIfInBounds_comm _ _ hji]
        exact h3.2
theorem anyH_lex {Qa : Act → Prop} (hsel : Region.noSelect ops = true) (hs : Region.sinkB md ops n = true) (hc : Region.chainB md ops n = true) (hn : n < ops.size) :
    ∀ (l : List Oper) (k : Nat) (listed : Array Bool) (a : Act), (∀ j, j < l.length → l[j]? = ops[k + j]?) → k + l.length = n → HeadInv md ops n listed →
    Region.lexHead md ops m l.length k listed = true → wpQuiet P ops C Qa l a →
    anyH P md ops C n (fun listed' a' => Region.seqB md ops m n listed' = true ∧ Qa a') l.length listed a
  | [], k, listed, a, _, hk, _, hB, h => by
    obtain rfl : k = n := by simpa using hk
    exact ⟨by simpa [Region.lexHead] using hB, h⟩
  | o :: l, k, listed, a, hl, hk, inv, hB, h => by
    have h0 : ops[k]? = some o := by simpa using (hl 0 (by simp)).symm
    simp only [List.length_cons, Region.lexHead, Bool.and_eq_true] at hB
    obtain ⟨⟨hr, hf⟩, hB'⟩ := hB
    have hkn : k < n := by simp only [List.length_cons] at hk; omega
    have hr' : k ∈ Region.ready md ops listed := by simpa using hr
    have hst : qOp P ops C k (wpQuiet P ops C Qa l) a := by unfold qOp; simp only [h0]; exact h
    obtain ⟨v, hy, hK⟩ := yieldsIn_of_qOp h0 hst
    refine anyH_first h0 (Region.noSelect_spec hsel) hs hc hn hkn (fun listed' a' hL => seqB_ready hL.1) l.length listed a inv (Region.free_spec h0 hf) hr' hy ?_
    refine anyH_lex hsel hs hc hn l (k + 1) _ _ (fun j hj => ?_) (by simp only [List.length_cons] at hk; omega) (inv.set hr' hkn) hB' hK
    have := hl (j + 1) (by simp; omega)
    simpa [Nat.add_assoc, Nat.add_comm 1 j] using this
/-- A list of operations, with an outer end that speaks of all exits. -/
theorem WL.all {l : List Oper} {Q : Exit → Fr → World → Prop} (h : WL P N ops l (fun f w => Q .normal f w) f w) : wpList P ops (fun e a w' => ∃ f', a = act N f' ∧ Q e f' w') l (act N f) w := by
  have key : ∀ (l : List Oper) (a : Act) (w : World), wpList P ops (fun e a w' => ∃ f', a = act N f' ∧ e = .normal ∧ Q .normal f' w') l a w → wpList P ops (fun e a w' => ∃ f', a = act N f' ∧ Q e f' w') l a w := by
    intro l
    induction l with
    | nil => intro a w ⟨f', ha, _, q⟩; exact ⟨f', ha, q⟩
    | cons o rest ih =>
      intro a w h
      unfold wpList at h ⊢
      split
      · rename_i hw
        rw [if_pos hw] at h
        rcases h with h | ⟨_, a0, w0, f0, _, hc, _⟩
        · refine .inl (Oper.wp_monoQ (fun a w hk => ih _ _ hk) (fun e a w hne ⟨f', ha, he, _⟩ => absurd he hne) h)
        · cases hc
      · rename_i hw
        rw [if_neg hw] at h
        exact ih _ _ h
  exact key _ _ _ h.out
theorem WP.quietTail {id : Nat} {l : List Oper} {Q : Exit → Fr → World → Prop} (n : Nat) (S : St w0 H0 w H L) (hm : P.follows .mixedOrders = true) (hB : Region.lexTailB .any l.toArray n = true)
    (h : WQ P N l.toArray (Cl w0 H0 H L) (l.take n) (fun f' => ∀ w' H', H.le H' → St w0 H0 w' H' L → WL P N l.toArray (l.drop n) (fun f w => Q .normal f w) f' w') f) : WP P N (.region id l.toArray true) Q f w := by
  simp only [Region.lexTailB, Bool.and_eq_true, decide_eq_true_eq] at hB
  obtain ⟨⟨⟨⟨hsel, hn⟩, hs⟩, hc⟩, hlex⟩ := hB
  have hn' : n < l.length := by simpa using hn
  have htl : (l.take n).length = n := by simp; omega
  have hdl : (l.drop n).length = l.toArray.size - n := by simp
  have inv0 : HeadInv .any l.toArray n (Array.replicate l.toArray.size false) :=
    ⟨by simp, fun j oj _ hl => (by rw [getD_replicate_false] at hl; cases hl), fun t _ ht => getD_in (by simpa using ht) (getD_replicate_false _ _)⟩
  have hh := anyH_lex (P := P) (C := Cl w0 H0 H L) (md := .any) (m := l.toArray.size - n) hsel hs hc hn (l.take n) 0 _ (act N f) (fun j hj => by
    have hj' : j < n := by rw [htl] at hj; exact hj
    simp [hj']) (by simpa using htl) inv0 (by rw [htl]; exact hlex) h.out
  refine wp_region_any hm ?_
  have := anyH_any (m := l.toArray.size - n) (Q' := fun e a w' => ∃ f', a = act N f' ∧ Q e f' w') (fun listed a' w' hw' hL => by
    obtain ⟨H', hle, S'⟩ := hw'
    obtain ⟨f', ha, hq⟩ := hL.2
    subst ha
    have := wpAny_of_seq (md := .any) (Q' := fun e a w' => ∃ f', a = act N f' ∧ Q e f' w') (l.drop n) n listed (act N f') w' (fun j => by simp [List.getElem?_drop]) (by rw [hdl]; exact hL.1) (WL.all (hq w' H' hle S'))
    rwa [hdl] at this) _ _ _ w.drew ⟨H, Hp.le.refl _, S.drew⟩ hh
  rw [htl, show n + (l.toArray.size - n) = l.toArray.size by omega] at this
  exact this
end
end Go.Eng
