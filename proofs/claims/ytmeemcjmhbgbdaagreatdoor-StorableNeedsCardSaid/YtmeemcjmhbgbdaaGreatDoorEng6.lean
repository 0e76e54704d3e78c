/- The engine, part 6: calls, contracts, returns; slices written out; bytes. -/
import Derived.Test.YtmeemcjmhbgbdaaGreatDoorEng5
namespace Go.Eng
open Go

/-- A call of function k, with arguments: it returns a value of which R holds, and leaves what was there as it was. -/
def Con (P : Program) (k : FuncId) (args : List Value) (w : World) (H : Hp) (R : Hp → Value → Prop) : Prop :=
  (∀ w, (callFunc k args.toArray).run P w = .ok (.enter k args.toArray) w) ∧
  Calls P k args.toArray w (fun e w' => ∃ v H', e = .returned v ∧ Post w H w' H' ∧ R H' v)
/-- The end of a function. -/
def Out (P : Program) (fn : Func) (N : Nat) (w0 : World) (H0 : Hp) (R : Hp → Value → Prop) : Exit → Fr → World → Prop := fun e f w =>
  (e = .ret ∨ e = .normal) ∧ ∃ v, (results fn (tm N f)).run P w = .ok v w ∧ ∃ H, Post w0 H0 w H ∧ R H v
theorem Con.mono {P : Program} {k : FuncId} {args : List Value} {w : World} {H : Hp} {R R' : Hp → Value → Prop} (h : Con P k args w H R) (hr : ∀ H v, R H v → R' H v) : Con P k args w H R' :=
  ⟨h.1, Calls.mono h.2 fun _ _ ⟨v, H', he, hp, hv⟩ => ⟨v, H', he, hp, hr _ _ hv⟩⟩

section
variable {P : Program} {N : Nat} {f : Fr} {w w0 : World} {H0 H : Hp} {L : List Ent} {ops : Array Oper} {rest : List Oper} {Q : Fr → World → Prop} {d : Nat} {od : Option Nat} {ty : TypeId} {pos : String} {af : Array Edge} {g : Option (Nat × Bool)}

theorem Con.mk {fn : Func} {c : Code} {k : FuncId} {args : List Value} {R : Hp → Value → Prop} (hf : P.funcs[k]? = some fn) (hb : fn.body = some c) (hn : fn.ntmps = N) (hname : (fn.name == "runtime.NumGoroutine") = false)
    (hsz : Nat.ble args.length N = true) (h : WP P N c (Out P fn N w H R) (init args) w) : Con P k args w H R := by
  refine ⟨fun w => ?_, ?_⟩
  · simp only [callFunc, Sem.run_bind, run_program, Result.andThen_ok, hf, hname, hb]
    rfl
  · refine calls_of_wp hf hb ?_
    have hle : args.length ≤ N := Nat.le_of_ble_eq_true hsz
    have e : ({ tmps := args.toArray ++ Array.replicate (fn.ntmps - args.toArray.size) undef, defers := [] } : Act) = act N (init args) := by
      simp only [act]
      congr 1
      apply Array.ext_getElem?
      intro t
      rw [tm_get, hn, Array.getElem?_append]
      simp only [List.size_toArray, List.getElem?_toArray, init, List.getD_eq_getElem?_getD]
      by_cases h1 : t < args.length
      · simp [h1, show t < N from by omega]
      · simp only [h1, if_false]
        rw [Array.getElem?_replicate]
        by_cases h2 : t < N
        · rw [if_pos (by omega), if_pos h2, List.getElem?_eq_none (by omega)]; rfl
        · rw [if_neg (by omega), if_neg h2]
    rw [e]
    refine Code.wp_mono (fun e a w' ⟨f', ha, he, v, hv, H', hp, hr⟩ => ?_) h
    subst ha
    rcases he with rfl | rfl
    · exact ⟨rfl, v, hv, v, H', rfl, hp, hr⟩
    · exact ⟨rfl, v, hv, v, H', rfl, hp, hr⟩

/-- A call of a function by its name. -/
theorem W.call {k : FuncId} {xs : List Operand} {ats : Array TypeId} {args : List Value} {R : Hp → Value → Prop} (S : St w0 H0 w H L) (ha : xs.map (ev N f) = args) (C : Con P k args w H R)
    (K : ∀ v w' H', H.le H' → St w0 H0 w' H' L → R H' v → WL P N ops rest Q (updo f od v) w') : WL P N ops (⟨od, .call ⟨.value (.func k), xs.toArray, ats⟩, ty, pos, af, none⟩ :: rest) Q f w := by
  refine WL.enterw (w' := w) (k := k) (args := args.toArray) ?_ (Calls.mono C.2 fun e w' ⟨v, H', he, hp, hv⟩ => ⟨v, he, K v w' H' hp.le (S.call hp) hv⟩)
  have : (execOp (ev N f) ⟨od, .call ⟨.value (.func k), xs.toArray, ats⟩, ty, pos, af, none⟩) = callFunc k (#[] ++ xs.toArray.map (ev N f) ++ #[]) := rfl
  rw [this]
  have e : (#[] ++ xs.toArray.map (ev N f) ++ #[]) = args.toArray := by simp [ha]
  rw [e]
  exact C.1 w
/-- A call of a function value. -/
theorem W.callv {k : FuncId} {x : Operand} {xs : List Operand} {ats : Array TypeId} {args caps : List Value} {R : Hp → Value → Prop} (S : St w0 H0 w H L) (hx : ev N f x = .func (.func k) #[] caps.toArray) (ha : xs.map (ev N f) = args) (C : Con P k (args ++ caps) w H R)
    (K : ∀ v w' H', H.le H' → St w0 H0 w' H' L → R H' v → WL P N ops rest Q (updo f od v) w') : WL P N ops (⟨od, .call ⟨.value x, xs.toArray, ats⟩, ty, pos, af, none⟩ :: rest) Q f w := by
  refine WL.enterw (w' := w) (k := k) (args := (args ++ caps).toArray) ?_ (Calls.mono C.2 fun e w' ⟨v, H', he, hp, hv⟩ => ⟨v, he, K v w' H' hp.le (S.call hp) hv⟩)
  have e : xs.toArray.map (ev N f) ++ caps.toArray = (args ++ caps).toArray := by simp [ha]
  have : (execOp (ev N f) ⟨od, .call ⟨.value x, xs.toArray, ats⟩, ty, pos, af, none⟩).run P w = (callFunc k (#[] ++ xs.toArray.map (ev N f) ++ caps.toArray)).run P w := by
    simp [execOp, resolve, hx, Deferred.ofValue, invoke]
  rw [this, Array.empty_append, e]
  exact C.1 w

theorem tm_getD (N : Nat) (f : Fr) (t : Nat) : (tm N f).getD t undef = ev N f (.tmp t) := by
  have := eval_act N f (.tmp t)
  simpa [Act.eval, act] using this
/-- What a result's place holds. -/
def Res (P : Program) (N : Nat) (f : Fr) (w : World) : ResultVar → Value → Prop
  | .tmp t, v => ev N f (.tmp t) = v
  | .cell a t, v => ∃ b, ev N f (.tmp a) = .pointer (some b) ∧ (loadVar t b).run P w = .ok v w
def resSem (tmps : Array Value) : ResultVar → Sem Value
  | .tmp t => pure (tmps.getD t undef)
  | .cell a t => do loadVar t (← asAddr (tmps.getD a undef))
theorem results_eq (fn : Func) (tmps : Array Value) : results fn tmps = (fn.results.mapM (resSem tmps) >>= fun vs => (pure (if h : vs.size = 1 then vs[0] else .tuple vs) : Sem Value)) := by
  unfold results
  congr 1
theorem run_resultVar {r : ResultVar} {v : Value} (h : Res P N f w r v) : (resSem (tm N f) r).run P w = .ok v w := by
  cases r with
  | tmp t =>
    have h' : ev N f (.tmp t) = v := h
    simp only [resSem, tm_getD, h']; rfl
  | cell a t =>
    obtain ⟨b, h1, h2⟩ := h
    simp only [resSem, tm_getD, h1, asAddr, Sem.run_bind, Sem.run_pure, Result.andThen_ok, h2]
theorem Out.one {fn : Func} {r : ResultVar} {v : Value} {R : Hp → Value → Prop} (hr : fn.results = #[r]) (S : St w0 H0 w H L) (h : Res P N f w r v) (hR : R H v) : Out P fn N w0 H0 R .ret f w := by
  refine ⟨.inl rfl, v, ?_, H, S.post, hR⟩
  have := run_resultVar h
  rw [results_eq, hr]
  simp only [List.mapM_toArray, List.mapM_cons, List.mapM_nil, Sem.run_bind, Sem.run_map, this, Result.andThen_ok, Sem.run_pure]
  rfl
theorem Out.two {fn : Func} {r1 r2 : ResultVar} {v1 v2 : Value} {R : Hp → Value → Prop} (hr : fn.results = #[r1, r2]) (S : St w0 H0 w H L) (h1 : Res P N f w r1 v1) (h2 : Res P N f w r2 v2) (hR : R H (.tuple ⟨[v1, v2]⟩)) : Out P fn N w0 H0 R .ret f w := by
  refine ⟨.inl rfl, _, ?_, H, S.post, hR⟩
  have h1 := run_resultVar h1
  have h2 := run_resultVar h2
  rw [results_eq, hr]
  simp only [List.mapM_toArray, List.mapM_cons, List.mapM_nil, Sem.run_bind, Sem.run_map, h1, h2, Result.andThen_ok, Sem.run_pure]
  rfl
theorem Res.cellB {T T' a b i n : Nat} {bb : Bool} {cs : List Value} (S : St w0 H0 w H L) (hx : ev N f (.tmp a) = ptr b 0) (hi : L[i]? = some (.box b T' cs)) (hT : lay P T = some (true, n)) (hn : cs.length = n) (_hb : bb = true) : Res P N f w (.cell a T) (agg cs) := by
  refine ⟨⟨b, 0, none⟩, hx, ?_⟩
  obtain ⟨h1, h2⟩ := run_isAgg (w := w) hT
  have h3 := run_loadCells_list (P := P) (w := w) ⟨b, 0, none⟩ cs (fun j v hj => by rw [Addr.add_lit]; exact (S.boxOk hi).cell (by simpa using hj))
  rw [hn] at h3
  simp [loadVar, h1, h2, h3, agg]

theorem W.bslice {α : Type} [Enc α] {T e : TypeId} {n : Nat} {ps : List (Nat × Operand)} (vs : List Value) (xs : List α) (S : St w0 H0 w H L) (hE : Elem P T e (Enc.sz α))
    (hp : (ps.map fun p => (p.1, ev N f p.2)) = (vs.zipIdx.map fun x => (x.2, x.1))) (hn : vs.length = n) (hx : xs.length = n) (hbig : n * Enc.sz α ≤ 16777216)
    (hC : ∀ (i : Nat) (v : Value) (x : α), vs[i]? = some v → xs[i]? = some x → v.cells.size = Enc.sz α ∧ Enc.cells H v.cells.toList x)
    (K : ∀ u w' H', H.le H' → Sl H' u xs → St w0 H0 w' H' (.row u e (Enc.sz α) xs.length :: L) → WL P N ops rest Q (upd f d u) w') : WL P N ops (⟨some d, .buildSlice T n ps.toArray, ty, pos, af, none⟩ :: rest) Q f w := by
  have hsz := Enc.pos (α := α)
  have hE' := hE
  obtain ⟨ht, inf, z, hinf, hz, hsize, hzs, hbytes⟩ := hE'
  have hvs : ∀ v ∈ vs, v.cells.size = Enc.sz α := by
    intro v hv
    obtain ⟨i, hi⟩ := List.mem_iff_getElem?.1 hv
    have hlt : i < xs.length := by rw [hx, ← hn]; exact (List.getElem?_eq_some_iff.1 hi).1
    exact (hC i v xs[i] hi (List.getElem?_eq_getElem hlt)).1
  generalize hzero : ((Array.range (n * Enc.sz α)).map (z.cells[· % z.cells.size]!)) = zs
  have hzsz : zs.size = (0 + vs.length) * Enc.sz α := by rw [← hzero]; simp [hn]
  obtain ⟨arr', hfill, harr⟩ := run_fill (Enc.sz α) hsz vs 0 zs hvs hzsz
  have harr2 : arr'.toList = vs.flatMap fun v => v.cells.toList := by simpa using harr
  -- the cells read as xs
  have hCells : ∀ (vs : List Value) (xs : List α), vs.length = xs.length → (∀ (i : Nat) (v : Value) (x : α), vs[i]? = some v → xs[i]? = some x → v.cells.size = Enc.sz α ∧ Enc.cells H v.cells.toList x) → Cells H (vs.flatMap fun v => v.cells.toList) xs := by
    intro vs
    induction vs with
    | nil => intro xs hl _; cases xs with
      | nil => rfl
      | cons _ _ => cases hl
    | cons v vs ih =>
      intro xs hl h
      cases xs with
      | nil => cases hl
      | cons x xs =>
        exact ⟨_, _, rfl, (h 0 v x rfl rfl).2, ih xs (by simpa using hl) fun i v x hv hx => h (i + 1) v x (by simpa using hv) (by simpa using hx)⟩
  have hcells := hCells vs xs (by rw [hn, hx]) hC
  have hclen := hcells.length
  have harrs : arr'.size = n * Enc.sz α := by rw [← Array.length_toList, harr2, hclen, hx]
  have S1 := S.box e arr' (0, 0) arr'.toList [] (by simp) (by intro i _ h; exact Nat.not_lt_zero _ h.2)
  obtain ⟨H', hle, hHn, hHo, S2⟩ := S1.settle (i := 0) rfl
  simp only [List.eraseIdx_cons_zero] at S2
  have hmax : n ≤ maxLen := by
    have : n * 1 ≤ n * Enc.sz α := Nat.mul_le_mul_left _ hsz
    simp only [maxLen]; omega
  have hSl : Sl H' (.slice (some ⟨w.heap.size, 0, none⟩) n n) xs :=
    ⟨some ⟨w.heap.size, 0, none⟩, n, by rw [hx], by omega, hmax, .inr ⟨w.heap.size, 0, arr'.toList, rfl, ⟨e, _, rfl, hHn, [], by simp⟩, by rw [harr2]; exact hcells.mono hle⟩⟩
  have hrow : RowOk (w.alloc (.cells arr' e)) H' (.slice (some ⟨w.heap.size, 0, none⟩) n n) e (Enc.sz α) xs.length :=
    .inr ⟨w.heap.size, n, arr', by rw [hx], heap_alloc_new w _, by omega, hmax, harrs, by rw [hHn, hx, List.take_of_length_le (by rw [Array.length_toList, harrs]; exact Nat.le_refl _)]⟩
  have S3 : St w0 H0 (w.alloc (.cells arr' e)) H' (.row (.slice (some ⟨w.heap.size, 0, none⟩) n n) e (Enc.sz α) xs.length :: L) := by
    refine ⟨S2.post, ?_, ?_, ?_⟩
    · intro x hxm
      rcases List.mem_cons.1 hxm with rfl | hxm
      · exact hrow
      · exact S2.ents x hxm
    · intro x hxm b hb
      rcases List.mem_cons.1 hxm with rfl | hxm
      · simp [Ent.blk, Value.ownBlock] at hb; subst hb; exact S.post.below.size
      · exact S2.own x hxm b hb
    · have : (Ent.row (.slice (some ⟨w.heap.size, 0, none⟩) n n) e (Enc.sz α) xs.length).blk = some w.heap.size := rfl
      rw [List.filterMap_cons, this]
      exact List.nodup_cons.2 ⟨fun hm => Nat.lt_irrefl _ (S.lt hm), S.nodup⟩
  refine WL.valw (v := .slice (some ⟨w.heap.size, 0, none⟩) n n) (w' := w.alloc (.cells arr' e)) ?_ (K _ _ H' hle hSl S3)
  have hps : ps.toArray.map (fun x => (x.1, ev N f x.2)) = (vs.zipIdx.map fun x => (x.2, x.1)).toArray := by rw [List.map_toArray, hp]
  have hno : ¬ (2 ^ 24 < n * inf.size) := by rw [hsize]; omega
  have hz0 : ∀ (b : Bool), True := fun _ => trivial
  by_cases h0 : n * Enc.sz α = 0
  · have hn0 : n = 0 := by
      rcases Nat.mul_eq_zero.1 h0 with h | h
      · exact h
      · omega
    subst hn0
    have hv0 : vs = [] := List.eq_nil_of_length_eq_zero hn
    subst hv0
    have ha0 : arr' = #[] := by
      apply Array.ext_getElem?
      intro i
      rw [Array.getElem?_eq_none (by rw [harrs]; omega)]
      simp
    subst ha0
    have hps0 : ps = [] := by
      cases ps with
      | nil => rfl
      | cons _ _ => simp at hp
    subst hps0
    simp [execOp, Instr.buildSlice, run_underlying ht, sizeOf, typeInfo, hinf, newRow, Instr.fill]
    have e0 : ∀ g : Nat → Value, (Array.range 0).map g = #[] := fun g => Array.eq_empty_of_size_eq_zero (by simp)
    rw [e0]
  · have hmatch : (fun x : Nat × Operand => match x with | (i, x) => (i, ev N f x)) = fun x => (x.1, ev N f x.2) := by funext x; rfl
    simp only [execOp, Instr.buildSlice, hps, run_underlying ht, sizeOf, typeInfo, hinf, Sem.run_bind, run_program, Result.andThen_ok, Sem.run_pure, zeroValue, hsize]
    rw [if_neg (by omega)]
    simp only [h0, if_false, Sem.run_bind, run_program, hinf, hz, Result.andThen_ok, Sem.run_pure]
    rw [hzero, hfill]
    simp [newRow]

/-! bytes -/
theorem W.bytes {T T' e : TypeId} {x : Operand} {s : Str} (S : St w0 H0 w H L) (hx : ev N f x = str s) (hs : P.underlying T = some .string) (hd : P.underlying T' = some (.slice e)) (he : P.underlying e = some (.int .u8))
    (K : ∀ b c w', s.length ≤ c → St w0 H0 w' H (.box b e (s.map byt) :: L) → WL P N ops rest Q (upd f d (.slice (some ⟨b, 0, none⟩) s.length c)) w') : WL P N ops (⟨some d, .convert T T' x, ty, pos, af, none⟩ :: rest) Q f w := by
  have hr := run_bytes_of_string (P := P) w T T' e ⟨⟨s⟩⟩ hs hd he
  have hcap := grownCap_ge w s.length 0 e
  have e1 : (bytesRow ⟨⟨s⟩⟩ (grownCap w s.length 0 e)).toList = s.map byt ++ List.replicate (grownCap w s.length 0 e - s.length) (.int .u8 0) := by
    simp only [bytesRow, Array.toList_append, Array.toList_map, Array.toList_replicate, size_str]
    rfl
  have hlen : s.length ≤ (bytesRow ⟨⟨s⟩⟩ (grownCap w s.length 0 e)).size := by rw [← Array.length_toList, e1]; simp
  have S1 := S.drew.box e (bytesRow ⟨⟨s⟩⟩ (grownCap w s.length 0 e)) ((bytesRow ⟨⟨s⟩⟩ (grownCap w s.length 0 e)).size, (bytesRow ⟨⟨s⟩⟩ (grownCap w s.length 0 e)).size + 1) (s.map byt) _ e1 (by
    intro i hi h
    simp only [List.length_map] at hi
    have := h.1
    simp only at this
    omega)
  refine WL.valw (v := .slice (some ⟨w.heap.size, 0, none⟩) s.length (grownCap w s.length 0 e)) ?_ (K w.heap.size _ _ hcap S1)
  rw [show (Value.string ⟨⟨s⟩⟩) = ev N f x from hx.symm] at hr
  simp only [execOp, Sem.run_bind, hr]
  rfl
/-- The address of a byte of one's own. -/
theorem R.idxB {T e : TypeId} {x i : Operand} {b n c : Nat} {m : Int} (hx : ev N f x = .slice (some ⟨b, 0, none⟩) n c) (hi : ev N f i = int m) (hE : Elem P T e 1) (h : 0 ≤ m ∧ m < n) :
    (execOp (ev N f) ⟨od, .indexAddr T x i, ty, pos, af, g⟩).run P w = .ok (.value (ptr b m.toNat)) w := by
  obtain ⟨ht, inf, z, hinf, _, hsize, _⟩ := hE
  simp [execOp, Instr.indexAt, asIntOf, hx, hi, int, run_underlying ht, h, sizeOf, typeInfo, hinf, hsize, Addr.add_lit, ptr]
theorem map_byt_get {s : Str} {m : Int} {c : UInt8} (h : xnth s m = some c) : (s.map byt)[m.toNat]? = some (byt c) ∧ 0 ≤ m ∧ m < s.length := by
  unfold xnth at h
  split at h
  · rename_i h0
    obtain ⟨hl, he⟩ := List.getElem?_eq_some_iff.1 h
    exact ⟨by rw [List.getElem?_map, h]; rfl, h0, by omega⟩
  · cases h
theorem splice_byt (s : Str) (i : Nat) (c : UInt8) (h : i < s.length) : splice (s.map byt) i [byt c] = (s.set i c).map byt := by
  unfold splice
  rw [List.map_set, List.set_eq_take_append_cons_drop, if_pos (by simpa using h)]
  simp
theorem loadCells_byt {H : Hp} (hw : Holds w H) {a : Addr} {s : Str} (hA : At H a (s.map byt)) : (loadCells a s.length).run P w = .ok (s.map byt).toArray w := by
  have := run_loadCells_list (P := P) (w := w) a (s.map byt) (fun j v hj => hA.cell hw hj)
  simpa using this
theorem run_str_bytes {a : Addr} {s : Str} {c : Nat} (h : (loadCells a s.length).run P w = .ok (s.map byt).toArray w) : (Conv.bytesToString (.slice (some a) s.length c)).run P w = .ok (str s) w := by
  have e : (s.map byt).toArray = ((s.map fun c => (c.toNat : Int)).map (Value.int .u8)).toArray := by
    simp [byt]
  rw [e] at h
  have hr := run_bytesToString (P := P) w a s.length c (s.map fun c => (c.toNat : Int)) h
  rw [hr]
  congr 1
  unfold str
  congr 1
  have key : ∀ (l : Str) (r : ByteArray), (l.map fun c => (c.toNat : Int)).foldl (fun r n => r.push (UInt8.ofNat n.toNat)) r = ⟨⟨r.data.toList ++ l⟩⟩ := by
    intro l
    induction l with
    | nil => intro r; simp
    | cons c l ih =>
      intro r
      simp only [List.map_cons, List.foldl_cons]
      rw [ih]
      congr 1
      congr 1
      simp [ByteArray.push]
  exact (key s ByteArray.empty).trans (by simp [ByteArray.empty, ByteArray.emptyWithCapacity]; rfl)
/-- string(b), b of the call's own. -/
theorem R.strB {T T' e : TypeId} {x : Operand} {b c i : Nat} {s : Str} (S : St w0 H0 w H L) (hx : ev N f x = .slice (some ⟨b, 0, none⟩) s.length c) (hi : L[i]? = some (.box b e (s.map byt))) (hs : P.underlying T = some (.slice e)) (hd : P.underlying T' = some .string) (he : P.underlying e = some (.int .u8)) :
    (execOp (ev N f) ⟨od, .convert T T' x, ty, pos, af, g⟩).run P w = .ok (.value (str s)) w := by
  have h : (loadCells ⟨b, 0, none⟩ s.length).run P w = .ok (s.map byt).toArray w := by
    have := run_loadCells_list (P := P) (w := w) ⟨b, 0, none⟩ (s.map byt) (fun j v hj => by rw [Addr.add_lit]; exact (S.boxOk hi).cell (by simpa using hj))
    simpa using this
  have := run_str_bytes (c := c) h
  simp [execOp, convert, hx, run_underlying hs, run_underlying hd, run_underlying he, this]
end

instance : Enc UInt8 where
  sz := 1
  cells _ cs x := cs = [byt x]
  pos := Nat.one_pos
  len h := by rw [h]; rfl
  mono h _ := h
  one h v hv := by rw [h] at hv; simp at hv; subst hv; rfl
instance : Enc Str where
  sz := 1
  cells _ cs x := cs = [str x]
  pos := Nat.one_pos
  len h := by rw [h]; rfl
  mono h _ := h
  one h v hv := by rw [h] at hv; simp at hv; subst hv; rfl
instance : Enc Int where
  sz := 1
  cells _ cs x := cs = [int x]
  pos := Nat.one_pos
  len h := by rw [h]; rfl
  mono h _ := h
  one h v hv := by rw [h] at hv; simp at hv; subst hv; rfl
instance : Enc Bool where
  sz := 1
  cells _ cs x := cs = [boo x]
  pos := Nat.one_pos
  len h := by rw [h]; rfl
  mono h _ := h
  one h v hv := by rw [h] at hv; simp at hv; subst hv; rfl
section
variable {P : Program} {N : Nat} {f : Fr} {w w0 : World} {H0 H : Hp} {L : List Ent} {od : Option Nat} {ty : TypeId} {pos : String} {af : Array Edge} {g : Option (Nat × Bool)}
theorem Cells.bytes : ∀ {xs : Str} {l : List Value}, Cells (α := UInt8) H l xs → l = xs.map byt
  | [], _, h => h
  | x :: xs, _, ⟨cs, r, e, hc, hr⟩ => by rw [e, show cs = [byt x] from hc, Cells.bytes hr]; rfl
/-- string(b), b a slice that reads as s. -/
theorem R.strL {T T' e : TypeId} {x : Operand} {v : Value} {s : Str} (S : St w0 H0 w H L) (hR : Sl (α := UInt8) H v s) (hx : ev N f x = v) (hs : P.underlying T = some (.slice e)) (hd : P.underlying T' = some .string) (he : P.underlying e = some (.int .u8)) :
    (execOp (ev N f) ⟨od, .convert T T' x, ty, pos, af, g⟩).run P w = .ok (.value (str s)) w := by
  obtain ⟨a, c, rfl, h1, h2, h3⟩ := hR
  cases a with
  | none =>
    have : s = [] := by
      rcases h3 with h3 | ⟨b, off, cs, ha, _⟩
      · exact h3
      · cases ha
    subst this
    simp [execOp, convert, hx, run_underlying hs, run_underlying hd, run_underlying he, Conv.bytesToString]
    rfl
  | some a =>
    have h : (loadCells a s.length).run P w = .ok (s.map byt).toArray w := by
      rcases h3 with rfl | ⟨b, off, cs, ha, hat, hC⟩
      · rfl
      · simp at ha; subst ha
        rw [hC.bytes] at hat
        exact loadCells_byt S.holds hat
    have := run_str_bytes (c := c) h
    simp [execOp, convert, hx, run_underlying hs, run_underlying hd, run_underlying he, this]
end
/-- A slice in a cell. -/
instance (priority := low) {α : Type} [Enc α] : Enc (List α) where
  sz := 1
  cells H cs x := ∃ v, cs = [v] ∧ Sl H v x
  pos := Nat.one_pos
  len := fun ⟨v, h, _⟩ => by rw [h]; rfl
  mono := fun ⟨v, h, hs⟩ hl => ⟨v, h, hs.mono hl⟩
  one := fun ⟨v, h, hs⟩ u hu => by
    rw [h] at hu; simp at hu; subst hu
    obtain ⟨a, c, rfl, _⟩ := hs; rfl
end Go.Eng
