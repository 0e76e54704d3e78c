/- The engine, part 8: regions that draw their order and only read; struct literals; struct equality. -/
import Derived.Test.YtogfdiigokidaaaDoorEng7
import Derived.Laws.StructEq
namespace Go.Eng
open Go

/-- The worlds that a region of quiet operations may come to. -/
def Cl (w0 : World) (H0 H : Hp) (L : List Ent) : World → Prop := fun w => ∃ H', H.le H' ∧ St w0 H0 w H' L
structure WQ (P : Program) (N : Nat) (ops : Array Oper) (C : World → Prop) (l : List Oper) (Q : Fr → Prop) (f : Fr) : Prop where
  out : wpQuiet P ops C (fun a => ∃ f', a = act N f' ∧ Q f') l (act N f)
theorem wpQuiet_mono {P : Program} {ops : Array Oper} {C : World → Prop} {Q Q' : Act → Prop} (hq : ∀ a, Q a → Q' a) : ∀ (l : List Oper) (a : Act), wpQuiet P ops C Q l a → wpQuiet P ops C Q' l a := by
  intro l
  induction l with
  | nil => intro a h; exact hq a h
  | cons o l ih =>
    intro a h
    unfold wpQuiet at h ⊢
    split
    · rename_i hw; rw [if_pos hw] at h; exact Oper.quiet_mono ih h
    · rename_i hw; rw [if_neg hw] at h; exact ih _ h
theorem wpQuiet_append {P : Program} {ops : Array Oper} {C : World → Prop} {Q : Act → Prop} : ∀ (l l' : List Oper) (a : Act), wpQuiet P ops C (wpQuiet P ops C Q l') l a → wpQuiet P ops C Q (l ++ l') a := by
  intro l l'
  induction l with
  | nil => intro a h; exact h
  | cons o l ih =>
    intro a h
    rw [List.cons_append]
    unfold wpQuiet at h ⊢
    split
    · rename_i hw; rw [if_pos hw] at h; exact Oper.quiet_mono ih h
    · rename_i hw; rw [if_neg hw] at h; exact ih _ h
section
variable {P : Program} {N : Nat} {f : Fr} {w w0 : World} {H0 H : Hp} {L : List Ent} {ops : Array Oper} {rest : List Oper} {C : World → Prop} {Q : Fr → Prop} {d : Nat} {od : Option Nat} {op : Op} {ty : TypeId} {pos : String} {af : Array Edge} {g : Option (Nat × Bool)}
theorem WP.quiet {id : Nat} {Q : Exit → Fr → World → Prop} (S : St w0 H0 w H L) (hm : P.follows .mixedOrders = true) (hB : Region.lexB .any ops = true)
    (h : WQ P N ops (Cl w0 H0 H L) ops.toList (fun f' => ∀ w' H', H.le H' → St w0 H0 w' H' L → Q .normal f' w') f) : WP P N (.region id ops true) Q f w := by
  refine wp_region_quiet (C := Cl w0 H0 H L) hm hB ⟨H, Hp.le.refl _, S.drew⟩ (wpQuiet_mono (fun a ⟨f', ha, hq⟩ w' ⟨H', hle, S'⟩ => ?_) _ _ h.out)
  subst ha
  exact ⟨f', rfl, hq w' H' hle S'⟩
theorem WQ.nil (h : Q f) : WQ P N ops C [] Q f := ⟨⟨f, rfl, h⟩⟩
theorem WQ.val {v : Value} (hr : ∀ w, C w → (execOp (ev N f) ⟨od, op, ty, pos, af, none⟩).run P w = .ok (.value v) w) (h : WQ P N ops C rest Q (updo f od v)) : WQ P N ops C (⟨od, op, ty, pos, af, none⟩ :: rest) Q f := by
  have h := h.out
  refine ⟨?_⟩
  unfold wpQuiet
  rw [if_pos (by simp [Region.wanted])]
  refine ⟨v, fun w hw => ?_, ?_⟩
  · unfold Oper.quietAt
    rw [eval_act', hr w hw]
    exact ⟨rfl, rfl⟩
  · rw [put_act]; exact h
theorem WQ.call {k : FuncId} {xs : List Operand} {ats : Array TypeId} {args : List Value} {v : Value} (ha : xs.map (ev N f) = args) (hC : ∀ w H', H.le H' → St w0 H0 w H' L → Con P k args w H' (fun _ u => u = v))
    (h : WQ P N ops (Cl w0 H0 H L) rest Q (updo f od v)) : WQ P N ops (Cl w0 H0 H L) (⟨od, .call ⟨.value (.func k), xs.toArray, ats⟩, ty, pos, af, none⟩ :: rest) Q f := by
  have h := h.out
  refine ⟨?_⟩
  unfold wpQuiet
  rw [if_pos (by simp [Region.wanted])]
  refine ⟨v, fun w ⟨H', hle, S⟩ => ?_, ?_⟩
  · unfold Oper.quietAt
    rw [eval_act']
    have e1 : (execOp (ev N f) ⟨od, .call ⟨.value (.func k), xs.toArray, ats⟩, ty, pos, af, none⟩) = callFunc k (#[] ++ xs.toArray.map (ev N f) ++ #[]) := rfl
    have e : (#[] ++ xs.toArray.map (ev N f) ++ #[]) = args.toArray := by simp [ha]
    have c := hC w H' hle S
    rw [e1, e, c.1 w]
    exact ⟨rfl, Calls.mono c.2 fun e w'' ⟨u, H'', he, hp, hu⟩ => ⟨by rw [he, hu], H'', hle.trans hp.le, S.call hp⟩⟩
  · rw [put_act]; exact h
theorem WQ.callv {k : FuncId} {x : Operand} {xs : List Operand} {ats : Array TypeId} {args caps : List Value} {v : Value} (hx : ev N f x = .func (.func k) #[] caps.toArray) (ha : xs.map (ev N f) = args) (hC : ∀ w H', H.le H' → St w0 H0 w H' L → Con P k (args ++ caps) w H' (fun _ u => u = v))
    (h : WQ P N ops (Cl w0 H0 H L) rest Q (updo f od v)) : WQ P N ops (Cl w0 H0 H L) (⟨od, .call ⟨.value x, xs.toArray, ats⟩, ty, pos, af, none⟩ :: rest) Q f := by
  have h := h.out
  refine ⟨?_⟩
  unfold wpQuiet
  rw [if_pos (by simp [Region.wanted])]
  refine ⟨v, fun w ⟨H', hle, S⟩ => ?_, ?_⟩
  · unfold Oper.quietAt
    rw [eval_act']
    have e1 : (execOp (ev N f) ⟨od, .call ⟨.value x, xs.toArray, ats⟩, ty, pos, af, none⟩).run P w = (callFunc k (#[] ++ xs.toArray.map (ev N f) ++ caps.toArray)).run P w := by
      simp [execOp, resolve, hx, Deferred.ofValue, invoke]
    have e : (#[] ++ xs.toArray.map (ev N f) ++ caps.toArray) = (args ++ caps).toArray := by simp [ha]
    have c := hC w H' hle S
    rw [e1, e, c.1 w]
    exact ⟨rfl, Calls.mono c.2 fun e w'' ⟨u, H'', he, hp, hu⟩ => ⟨by rw [he, hu], H'', hle.trans hp.le, S.call hp⟩⟩
  · rw [put_act]; exact h
theorem WQ.gyes {j t : Nat} {b b' : Bool} (hj : (ops[j]?).bind (·.dst) = some t) (hv : ev N f (.tmp t) = boo b') (hb : b' = b) (h : WQ P N ops C (⟨od, op, ty, pos, af, none⟩ :: rest) Q f) : WQ P N ops C (⟨od, op, ty, pos, af, some (j, b)⟩ :: rest) Q f := by
  subst hb
  have hy := yielded_act (N := N) hj hv
  have h := h.out
  refine ⟨?_⟩
  unfold wpQuiet at h ⊢
  rw [if_pos (by simp [Region.wanted, hy])]
  rw [if_pos (by simp [Region.wanted])] at h
  exact h
theorem WQ.gno {j t : Nat} {b b' : Bool} (hj : (ops[j]?).bind (·.dst) = some t) (hv : ev N f (.tmp t) = boo b') (hb : b' = !b) (h : WQ P N ops C rest Q (updo f od undef)) : WQ P N ops C (⟨od, op, ty, pos, af, some (j, b)⟩ :: rest) Q f := by
  subst hb
  have hy := yielded_act (N := N) hj hv
  have h := h.out
  refine ⟨?_⟩
  unfold wpQuiet
  rw [if_neg (by simp [Region.wanted, hy])]
  rw [put_act]
  exact h
theorem WQ.gund {j t : Nat} {b : Bool} (hj : (ops[j]?).bind (·.dst) = some t) (hv : ev N f (.tmp t) = undef) (h : WQ P N ops C rest Q (updo f od undef)) : WQ P N ops C (⟨od, op, ty, pos, af, some (j, b)⟩ :: rest) Q f := by
  have hy : yielded ops (act N f).tmps j = none := by
    unfold yielded
    rw [hj]
    simp only [Option.bind_some, act, tm_get]
    simp only [ev, blt_iff] at hv
    by_cases h : t < N
    · simp only [h, decide_true, cond_true] at hv; simp only [h, if_true, hv, undef]
    · simp only [h, if_false]
  have h := h.out
  refine ⟨?_⟩
  unfold wpQuiet
  rw [if_neg (by simp [Region.wanted, hy])]
  rw [put_act]
  exact h
theorem WQ.grp {l : List Oper} (n : Nat) (ds : List Nat) (dp : Nat) (v : Value) (h : WQ P N ops C (l.take n) (fun f' => f' dp = v ∧ agree f f' (dp :: ds)) f)
    (k : ∀ us, WQ P N ops C (l.drop n) Q (upd (upds f ds us) dp v)) : WQ P N ops C l Q f := by
  rw [← List.take_append_drop n l]
  refine ⟨wpQuiet_append _ _ _ (wpQuiet_mono (fun a ⟨f', ha, h1, h2⟩ => ?_) _ _ h.out)⟩
  subst ha
  rw [frame_eq h1 h2]
  exact (k f').out
theorem WQ.idx {α : Type} [Enc α] {T e : TypeId} {x i : Operand} {v : Value} {xs : List α} {n : Int} {c : α} (hR : Sl H v xs) (hx : ev N f x = v) (hi : ev N f i = int n) (hE : Elem P T e (Enc.sz α)) (h : xnth xs n = some c)
    (k : ∀ a cs, At H a cs → Enc.cells H cs c → WQ P N ops C rest Q (upd f d (.pointer (some a)))) : WQ P N ops C (⟨some d, .indexAddr T x i, ty, pos, af, none⟩ :: rest) Q f := by
  unfold xnth at h
  split at h
  case isFalse => cases h
  rename_i h0
  obtain ⟨a, cp, rfl, h1, h2, h3⟩ := hR
  obtain ⟨hlt, hc⟩ := List.getElem?_eq_some_iff.1 h
  rcases h3 with rfl | ⟨b, off, cs, rfl, hat, hC⟩
  · simp at hlt
  obtain ⟨cs1, r, hr, hcs1⟩ := hC.get h
  have hE' := hE
  obtain ⟨ht, inf, z, hinf, _, hsize, _⟩ := hE'
  have hat' : At H ⟨b, off + n.toNat * Enc.sz α, none⟩ cs1 := by
    obtain ⟨T', l, _, hH, r', hr'⟩ := hat
    refine ⟨T', l, rfl, hH, r ++ r', ?_⟩
    show l.drop (off + n.toNat * Enc.sz α) = _
    have hle : n.toNat * Enc.sz α ≤ cs.length := by
      rw [hC.length]; exact Nat.mul_le_mul_right _ (by omega)
    rw [← List.drop_drop, show List.drop off l = cs ++ r' from hr', List.drop_append_of_le_length hle, hr, List.append_assoc]
  refine WQ.val (v := .pointer (some ⟨b, off + n.toNat * Enc.sz α, none⟩)) (fun w _ => ?_) (k _ _ hat' hcs1)
  have hr : 0 ≤ n ∧ n < (xs.length : Int) := ⟨h0, by omega⟩
  simp [execOp, Instr.indexAt, asIntOf, hx, hi, int, run_underlying ht, hr, sizeOf, typeInfo, hinf, hsize, Addr.add_lit]

/-! struct literals -/
def bplaces (P : Program) (T : TypeId) : Option (List (Nat × Nat)) :=
  match P.underlying T with
  | some (.struct fs) => fs.toList.mapM fun g => (P.info? g.type).map fun i => (g.offset, i.size)
  | _ => none
theorem run_places (l : List Field) (pl : List (Nat × Nat)) (h : (l.mapM fun g => (P.info? g.type).map fun i => (g.offset, i.size)) = some pl) : (l.mapM fun g => (do pure (g.offset, ← sizeOf g.type) : Sem (Nat × Nat))).run P w = .ok pl w := by
  induction l generalizing pl with
  | nil => simp at h; subst h; rfl
  | cons g l ih =>
    simp only [List.mapM_cons, Option.bind_eq_bind, Option.bind_eq_some_iff] at h
    obtain ⟨x, hx, ys, hys, hp⟩ := h
    cases hi : P.info? g.type with
    | none => rw [hi] at hx; cases hx
    | some i =>
      rw [hi] at hx
      simp at hx hp
      subst hx; subst hp
      have hs : (sizeOf g.type).run P w = .ok i.size w := by simp [sizeOf, typeInfo, hi]
      have e := ih ys hys
      simp only [List.mapM_cons, Sem.run_bind, hs, Result.andThen_ok, Sem.run_pure, e]
theorem R.build {T : TypeId} {ps : List (Nat × Operand)} {pl : List (Nat × Nat)} {zs : List Value} (vs : List (Nat × Value)) (cs : List Value) (hp : bplaces P T = some pl) (hz : zer P T = some zs) (hv : (ps.map fun p => (p.1, ev N f p.2)) = vs)
    (hf : (Instr.fill (fun i => pl[i]?) zs.toArray vs) = some cs.toArray) : (execOp (ev N f) ⟨od, .build T ps.toArray, ty, pos, af, g⟩).run P w = .ok (.value (agg cs)) w := by
  unfold bplaces at hp
  split at hp
  case h_2 => cases hp
  rename_i fs hT
  unfold zer at hz
  cases hi : P.info? T with
  | none => rw [hi] at hz; cases hz
  | some i =>
    rw [hi] at hz
    cases hzz : i.zero with
    | none => simp [hzz] at hz
    | some z =>
      simp [hzz] at hz
      have hzs : z.cells = zs.toArray := by rw [← hz]
      have hpl := run_places (P := P) (w := w) fs.toList pl hp
      have hpl2 : (fs.mapM fun g => (do pure (g.offset, ← sizeOf g.type) : Sem (Nat × Nat))).run P w = .ok pl.toArray w := by
        rw [Array.mapM_eq_mapM_toList]
        simp only [Sem.run_map, hpl, Result.andThen_ok]
      have hvs : ps.toArray.map (fun x => (x.1, ev N f x.2)) = vs.toArray := by rw [List.map_toArray, hv]
      have hfun : (fun x : Nat => (pl.toArray)[x]?) = fun i => pl[i]? := by funext i; simp
      have hg : ∀ K : Array (Nat × Value), (Instr.build T K).run P w = (match Instr.fill (fun x => pl.toArray[x]?) z.cells K.toList with | some cells => .ok (.agg cells) w | none => (stuck "build: no such field, or a part of the wrong size" : Sem Value).run P w) := by
        intro K
        simp only [Instr.build, zeroValue, typeInfo, Sem.run_bind, run_program, hi, hzz, Result.andThen_ok, Sem.run_pure, run_underlying hT, hpl2]
        cases Instr.fill (fun x => pl.toArray[x]?) z.cells K.toList <;> rfl
      have hm : (fun (x : Nat × Operand) => match x with | (i, x) => (i, ev N f x)) = fun x => (x.1, ev N f x.2) := by funext x; rfl
      simp only [execOp, Sem.run_bind, hg, hvs, hfun, hzs, hf, Result.andThen_ok, Sem.run_pure, agg]

/-! struct equality -/
/-- Two fields' comparison, by kind. -/
inductive EqF : Value → Value → Bool → Prop where
  | int (a b : Int) : EqF (int a) (int b) (a == b)
  | boo (a b : Bool) : EqF (boo a) (boo b) (a == b)
  | str (a b : Str) : EqF (str a) (str b) (a == b)
/-- A struct of ints, bools and strings, each in a cell of its own, in order. -/
def eqK (P : Program) (t : TypeId) : Option Nat :=
  match P.underlying t with
  | some (.int .i64) => some 0
  | some .bool => some 1
  | some .string => some 2
  | _ => none
def plainS (P : Program) (T : TypeId) : Bool :=
  match P.underlying T with
  | some (.struct fs) => !P.stoodInHeld T && !P.eqGuardType P.depth T && (fs.toList.zipIdx.all fun x => x.1.name != "_" && (x.1.offset == x.2) && (eqK P x.1.type).isSome)
  | _ => false
def kindV : Value → Option Nat
  | .int .i64 _ => some 0
  | .bool _ => some 1
  | .string _ => some 2
  | _ => none
def eqV : Value → Value → Bool
  | .int _ a, .int _ b => a == b
  | .bool a, .bool b => a == b
  | .string a, .string b => a.data.toList == b.data.toList
  | _, _ => false
def allEq : List Value → List Value → Bool
  | x :: xs, y :: ys => eqV x y && allEq xs ys
  | _, _ => true
theorem run_part1 {t : TypeId} {cs : List Value} {o : Nat} {v : Value} {k : Nat} (hk : eqK P t = some k) (hv : cs[o]? = some v) : (part t ⟨cs⟩ o).run P w = .ok v w := by
  have h : (⟨cs⟩ : Array Value)[o]? = some v := by simpa using hv
  unfold eqK at hk
  split at hk <;> first | (rename_i hT; simp [part, isAgg, run_underlying hT, h]) | cases hk
theorem run_eq1 {t : TypeId} {x y : Value} {k n : Nat} (hk : eqK P t = some k) (hx : kindV x = some k) (hy : kindV y = some k) : (Op.equalIn (n + 1) t x y).run P w = .ok (eqV x y) w := by
  unfold eqK at hk
  split at hk
  · rename_i hT; simp at hk; subst hk
    unfold kindV at hx hy
    split at hx <;> simp at hx
    split at hy <;> simp at hy
    rw [run_equalIn_int w n t .i64 .i64 _ _ hT]; rfl
  · rename_i hT; simp at hk; subst hk
    unfold kindV at hx hy
    split at hx <;> simp at hx
    split at hy <;> simp at hy
    rw [run_equalIn_bool' w n t _ _ hT]; rfl
  · rename_i hT; simp at hk; subst hk
    unfold kindV at hx hy
    split at hx <;> simp at hx
    split at hy <;> simp at hy
    rw [run_equalIn_string w n t _ _ hT, Lib.toList_data, Lib.toList_data]; rfl
  · cases hk
theorem run_eqFields (d : Nat) (xs ys : List Value) : ∀ (fs : List Field) (i : Nat), (fs.zipIdx i).all (fun x => x.1.name != "_" && (x.1.offset == x.2) && (eqK P x.1.type).isSome) = true →
    (xs.drop i).length = fs.length → (ys.drop i).length = fs.length → (∀ (j : Nat) (g : Field) (x y : Value), fs[j]? = some g → xs[i + j]? = some x → ys[i + j]? = some y → kindV x = eqK P g.type ∧ kindV y = eqK P g.type) →
    (Op.eqFields (d + 1) ⟨xs⟩ ⟨ys⟩ fs).run P w = .ok (allEq (xs.drop i) (ys.drop i)) w
  | [], i, _, h1, h2, _ => by
    have e1 : xs.drop i = [] := List.eq_nil_of_length_eq_zero h1
    have e2 : ys.drop i = [] := List.eq_nil_of_length_eq_zero h2
    rw [e1, e2]; rfl
  | g :: fs, i, h, h1, h2, hk => by
    simp only [List.zipIdx_cons, List.all_cons, Bool.and_eq_true] at h
    obtain ⟨⟨⟨hn, ho⟩, hs⟩, hr⟩ := h
    have hi1 : i < xs.length := by simp at h1; omega
    have hi2 : i < ys.length := by simp at h2; omega
    obtain ⟨k, hkk⟩ := Option.isSome_iff_exists.1 hs
    obtain ⟨k1, k2⟩ := hk 0 g xs[i] ys[i] rfl (by simp [hi1]) (by simp [hi2])
    have ho' : g.offset = i := by simpa using ho
    have hn' : g.name ≠ "_" := by simpa using hn
    have ih := run_eqFields d xs ys fs (i + 1) hr (by simp at h1 ⊢; omega) (by simp at h2 ⊢; omega) (fun j g' x y a b c => hk (j + 1) g' x y (by simpa using a) (by rw [← b]; congr 1; omega) (by rw [← c]; congr 1; omega))
    have p1 := run_part1 (P := P) (w := w) (cs := xs) (o := i) hkk (List.getElem?_eq_getElem hi1)
    have p2 := run_part1 (P := P) (w := w) (cs := ys) (o := i) hkk (List.getElem?_eq_getElem hi2)
    have p3 := run_eq1 (P := P) (w := w) (n := d) hkk (k1.trans hkk) (k2.trans hkk)
    rw [List.drop_eq_getElem_cons hi1, List.drop_eq_getElem_cons hi2]
    simp only [Op.eqFields, hn', ne_eq, not_false_eq_true, if_true, ho', Sem.run_bind, p1, p2, p3, Result.andThen_ok, Sem.run_ite, allEq]
    cases hb : eqV xs[i] ys[i]
    · simp
    · simp [ih]
def fieldK (P : Program) (T : TypeId) : List (Option Nat) :=
  match P.underlying T with
  | some (.struct fs) => fs.toList.map fun g => eqK P g.type
  | _ => []
theorem run_aggEq {T : TypeId} {xs ys : List Value} {ks : List (Option Nat)} (hT : plainS P T = true) (hk : fieldK P T = ks) (hx : xs.map kindV = ks) (hy : ys.map kindV = ks) :
    (Op.equalIn 10000 T (.agg ⟨xs⟩) (.agg ⟨ys⟩)).run P w = .ok (allEq xs ys) w ∧ ∀ op (x y : Operand), (eqGuard op T x y (.agg ⟨xs⟩) (.agg ⟨ys⟩)).run P w = .ok () w := by
  unfold plainS at hT
  unfold fieldK at hk
  split at hT
  case h_2 => cases hT
  rename_i fs hu
  rw [hu] at hk
  simp only [Bool.and_eq_true, Bool.not_eq_true'] at hT
  obtain ⟨⟨h1, h2⟩, h3⟩ := hT
  have hfo : P.fieldsOf T = fs := by simp [Program.fieldsOf, hu]
  refine ⟨?_, fun op x y => run_eqGuard_agg w op T x y _ _ h2⟩
  have e : (Op.equalIn 10000 T (.agg ⟨xs⟩) (.agg ⟨ys⟩)).run P w = (Op.eqFields 9999 ⟨xs⟩ ⟨ys⟩ (P.fieldsOf T).toList).run P w := run_equalIn_struct w 9999 T _ _ (by rw [hfo]; exact hu) h1
  rw [e, hfo]
  have hl : ∀ zs : List Value, zs.map kindV = ks → zs.length = fs.toList.length := fun zs hz => by
    have := congrArg List.length (hz.trans hk.symm); simpa using this
  have := run_eqFields (P := P) (w := w) 9998 xs ys fs.toList 0 h3 (by simpa using hl xs hx) (by simpa using hl ys hy) (by
    intro j g x y a b c
    have hkj : ks[j]? = some (eqK P g.type) := by rw [← hk]; simp at a; simp [a]
    simp only [Nat.zero_add] at b c
    constructor
    · have : (xs.map kindV)[j]? = some (kindV x) := by simp [b]
      rw [hx, hkj] at this; simpa using this.symm
    · have : (ys.map kindV)[j]? = some (kindV y) := by simp [c]
      rw [hy, hkj] at this; simpa using this.symm)
  simpa using this
theorem R.neqA {T T' : TypeId} {x y : Operand} {xs ys : List Value} {ks : List (Option Nat)} (b : Bool) (hx : ev N f x = agg xs) (hy : ev N f y = agg ys) (hT : plainS P T = true) (hk : fieldK P T = ks) (h1 : xs.map kindV = ks) (h2 : ys.map kindV = ks) (hb : (!allEq xs ys) = b) :
    (execOp (ev N f) ⟨od, .binOp .neq T x y T', ty, pos, af, g⟩).run P w = .ok (.value (boo b)) w := by
  obtain ⟨e1, e2⟩ := run_aggEq (P := P) (w := w) hT hk h1 h2
  simp only [execOp, hx, hy, agg, Sem.run_bind, e2, Result.andThen_ok, run_neq_struct, e1, Sem.run_pure, hb, boo]
end
end Go.Eng
