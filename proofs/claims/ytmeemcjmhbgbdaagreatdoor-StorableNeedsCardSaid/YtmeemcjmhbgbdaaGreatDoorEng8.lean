/- The engine, part 8: regions that draw their order and only read; struct literals; struct equality. -/
import Derived.Test.YtmeemcjmhbgbdaaGreatDoorEng7
import Derived.Laws.StructEq
namespace Go.Eng
open Go

/-- The worlds that a region of quiet operations may come to. -/
def Cl (w0 : World) (H0 H : Hp) (L : List Ent) : World → Prop := fun w => ∃ H', H.le H' ∧ St w0 H0 w H' L
structure WQ (P : Program) (N : Nat) (ops : Array Oper) (C : World → Prop) (l : List Oper) (Q : Fr → Prop) (f : Fr) : Prop where
  out : wpQuiet P ops C (fun a => ∃ f', a = act N f' ∧ Q f') l (act N f)
theorem wpQuiet_mono {P : Program} {ops : Array Oper} {C : World → Prop} {Q Q' : Act → Prop} (hq : ∀ a, Q a → Q' a) : ∀ (l : List Oper) (a : Act), wpQuiet P ops C Q l a → wpQuiet P ops C Q' l a := by
  intro l
  induction l with
  | nil => intro a h; exact hq a h
  | cons o l ih =>
    intro a h
    unfold wpQuiet at h ⊢
    split
    · rename_i hw; rw [if_pos hw] at h; exact Oper.quiet_mono ih h
    · rename_i hw; rw [if_neg hw] at h; exact ih _ h
theorem wpQuiet_append {P : Program} {ops : Array Oper} {C : World → Prop} {Q : Act → Prop} : ∀ (l l' : List Oper) (a : Act), wpQuiet P ops C (wpQuiet P ops C Q l') l a → wpQuiet P ops C Q (l ++ l') a := by
  intro l l'
  induction l with
  | nil => intro a h; exact h
  | cons o l ih =>
    intro a h
    rw [List.cons_append]
    unfold wpQuiet at h ⊢
    split
    · rename_i hw; rw [if_pos hw] at h; exact Oper.quiet_mono ih h
    · rename_i hw; rw [if_neg hw] at h; exact ih _ h
section
variable {P : Program} {N : Nat} {f : Fr} {w w0 : World} {H0 H : Hp} {L : List Ent} {ops : Array Oper} {rest : List Oper} {C : World → Prop} {Q : Fr → Prop} {d : Nat} {od : Option Nat} {op : Op} {ty : TypeId} {pos : String} {af : Array Edge} {g : Option (Nat × Bool)}
theorem WP.quiet {id : Nat} {Q : Exit → Fr → World → Prop} (S : St w0 H0 w H L) (hm : P.follows .mixedOrders = true) (hB : Region.lexB .any ops = true)
    (h : WQ P N ops (Cl w0 H0 H L) ops.toList (fun f' => ∀ w' H', H.le H' → St w0 H0 w' H' L → Q .normal f' w') f) : WP P N (.region id ops true) Q f w := by
  refine wp_region_quiet (C := Cl w0 H0 H L) hm hB ⟨H, Hp.le.refl _, S.drew⟩ (wpQuiet_mono (fun a ⟨f', ha, hq⟩ w' ⟨H', hle, S'⟩ => ?_) _ _ h.out)
  subst ha
  exact ⟨f', rfl, hq w' H' hle S'⟩
theorem WQ.nil (h : Q f) : WQ P N ops C [] Q f := ⟨⟨f, rfl, h⟩⟩
theorem WQ.val {v : Value} (hr : ∀ w, C w → (execOp (ev N f) ⟨od, op, ty, pos, af, none⟩).run P w = .ok (.value v) w) (h : WQ P N ops C rest Q (updo f od v)) : WQ P N ops C (⟨od, op, ty, pos, af, none⟩ :: rest) Q f := by
  have h := h.out
  refine ⟨?_⟩
  unfold wpQuiet
  rw [if_pos (by simp [Region.wanted])]
  refine ⟨v, fun w hw => ?_, ?_⟩
  · unfold Oper.quietAt
    rw [eval_act', hr w hw]
    exact ⟨rfl, rfl⟩
  · rw [put_act]; exact h
theorem WQ.call {k : FuncId} {xs : List Operand} {ats : Array TypeId} {args : List Value} {v : Value} (ha : xs.map (ev N f) = args) (hC : ∀ w H', H.le H' → St w0 H0 w H' L → Con P k args w H' (fun _ u => u = v))
    (h : WQ P N ops (Cl w0 H0 H L) rest Q (updo f od v)) : WQ P N ops (Cl w0 H0 H L) (⟨od, .call ⟨.value (.func k), xs.toArray, ats⟩, ty, pos, af, none⟩ :: rest) Q f := by
  have h := h.out
  refine ⟨?_⟩
  unfold wpQuiet
  rw [if_pos (by simp [Region.wanted])]
  refine ⟨v, fun w ⟨H', hle, S⟩ => ?_, ?_⟩
  · unfold Oper.quietAt
    rw [eval_act']
    have e1 : (execOp (ev N f) ⟨od, .call ⟨.value (.func k), xs.toArray, ats⟩, ty, pos, af, none⟩) = callFunc k (#[] ++ xs.toArray.map (ev N f) ++ #[]) := rfl
    have e : (#[] ++ xs.toArray.map (ev N f) ++ #[]) = args.toArray := by simp [ha]
    have c := hC w H' hle S
    rw [e1, e, c.1 w]
    exact ⟨rfl, Calls.mono c.2 fun e w'' ⟨u, H'', he, hp, hu⟩ => ⟨by rw [he, hu], H'', hle.trans hp.le, S.call hp⟩⟩
  · rw [put_act]; exact h
theorem WQ.callv {k : FuncId} {x : Operand} {xs : List Operand} {ats : Array TypeId} {args caps : List Value} {v : Value} (hx : ev N f x = .func (.func k) #[] caps.toArray) (ha : xs.map (ev N f) = args) (hC : ∀ w H', H.le H' → St w0 H0 w H' L → Con P k (args ++ caps) w H' (fun _ u => u = v))
    (h : WQ P N ops (Cl w0 H0 H L) rest Q (updo f od v)) : WQ P N ops (Cl w0 H0 H L) (⟨od, .call ⟨.value x, xs.toArray, ats⟩, ty, pos, af, none⟩ :: rest) Q f := by
  have h := h.out
  refine ⟨?_⟩
  unfold wpQuiet
  rw [if_pos (by simp [Region.wanted])]
  refine ⟨v, fun w ⟨H', hle, S⟩ => ?_, ?_⟩
  · unfold Oper.quietAt
    rw [eval_act']
    have e1 : (execOp (ev N f) ⟨od, .call ⟨.value x, xs.toArray, ats⟩, ty, pos, af, none⟩).run P w = (callFunc k (#[] ++ xs.toArray.map (ev N f) ++ caps.toArray)).run P w := by
      simp [execOp, resolve, hx, Deferred.ofValue, invoke]
    have e : (#[] ++ xs.toArray.map (ev N f) ++ caps.toArray) = (args ++ caps).toArray := by simp [ha]
    have c := hC w H' hle S
    rw [e1, e, c.1 w]
    exact ⟨rfl, Calls.mono c.2 fun e w'' ⟨u, H'', he, hp, hu⟩ => ⟨by rw [he, hu], H'', hle.trans hp.le, S.call hp⟩⟩
  · rw [put_act]; exact h
theorem WQ.gyes {j t : Nat} {b b' : Bool} (hj : (ops[j]?).bind (·.dst) = some t) (hv : ev N f (.tmp t) = boo b') (hb : b' = b) (h : WQ P N ops C (⟨od, op, ty, pos, af, none⟩ :: rest) Q f) : WQ P N ops C (⟨od, op, ty, pos, af, some (j, b)⟩ :: rest) Q f := by
  subst hb
  have hy := yielded_act (N := N) hj hv
  have h := h.out
  refine ⟨?_⟩
  unfold wpQuiet at h ⊢
  rw [if_pos (by simp [Region.wanted, hy])]
  rw [if_pos (by simp [Region.wanted])] at h
  exact h
theorem WQ.gno {j t : Nat} {b b' : Bool} (hj : (ops[j]?).bind (·.dst) = some t) (hv : ev N f (.tmp t) = boo b') (hb : b' = !b) (h : WQ P N ops C rest Q (updo f od undef)) : WQ P N ops C (⟨od, op, ty, pos, af, some (j, b)⟩ :: rest) Q f := by
  subst hb
  have hy := yielded_act (N := N) hj hv
  have h := h.out
  refine ⟨?_⟩
  unfold wpQuiet
  rw [if_neg (by simp [Region.wanted, hy])]
  rw [put_act]
  exact h
theorem WQ.gund {j t : Nat} {b : Bool} (hj : (ops[j]?).bind (·.dst) = some t) (hv : ev N f (.tmp t) = undef) (h : WQ P N ops C rest Q (updo f od undef)) : WQ P N ops C (⟨od, op, ty, pos, af, some (j, b)⟩ :: rest) Q f := by
  have hy : yielded ops (act N f).tmps j = none := by
    unfold yielded
    rw [hj]
    simp only [Option.bind_some, act, tm_get]
    simp only [ev, blt_iff] at hv
    by_cases h : t < N
    · simp only [h, decide_true, cond_true] at hv; simp only [h, if_true, hv, undef]
    · simp only [h, if_false]
  have h := h.out
  refine ⟨?_⟩
  unfold wpQuiet
  rw [if_neg (by simp [Region.wanted, hy])]
  rw [put_act]
  exact h
theorem WQ.grp {l : List Oper} (n : Nat) (ds : List Nat) (dp : Nat) (v : Value) (h : WQ P N ops C (l.take n) (fun f' => f' dp = v ∧ agree f f' (dp :: ds)) f)
    (k : ∀ us, WQ P N ops C (l.drop n) Q (upd (upds f ds us) dp v)) : WQ P N ops C l Q f := by
  rw [← List.take_append_drop n l]
  refine ⟨wpQuiet_append _ _ _ (wpQuiet_mono (fun a ⟨f', ha, h1, h2⟩ => ?_) _ _ h.out)⟩
  subst ha
  rw [frame_eq h1 h2]
  exact (k f').out
theorem WQ.idx {α : Type} [Enc α] {T e : TypeId} {x i : Operand} {v : Value} {xs : List α} {n : Int} {c : α} (hR : Sl H v xs) (hx : ev N f x = v) (hi : ev N f i = int n) (hE : Elem P T e (Enc.sz α)) (h : xnth xs n = some c)
    (k : ∀ a cs, At H a cs → Enc.cells H cs c → WQ P N ops C rest Q (upd f d (.pointer (some a)))) : WQ P N ops C (⟨some d, .indexAddr T x i, ty, pos, af, none⟩ :: rest) Q f := by
  unfold xnth at h
  split at h
  case isFalse => cases h
  rename_i h0
  obtain ⟨a, cp, rfl, h1, h2, h3⟩ := hR
  obtain ⟨hlt, hc⟩ := List.getElem?_eq_some_iff.1 h
  rcases h3 with rfl | ⟨b, off, cs, rfl, hat, hC⟩
  · simp at hlt
  obtain ⟨cs1, r, hr, hcs1⟩ := hC.get h
  have hE' := hE
  obtain ⟨ht, inf, z, hinf, _, hsize, _⟩ := hE'
  have hat' : At H ⟨b, off + n.toNat * Enc.sz α, none⟩ cs1 := by
    obtain ⟨T', l, _, hH, r', hr'⟩ := hat
    refine ⟨T', l, rfl, hH, r ++ r', ?_⟩
    show l.drop (off + n.toNat * Enc.sz α) = _
    have hle : n.toNat * Enc.sz α ≤ cs.length := by
      rw [hC.length]; exact Nat.mul_le_mul_right _ (by omega)
    rw [← List.drop_drop, show List.drop off l = cs ++ r' from hr', List.drop_append_of_le_length hle, hr, List.append_assoc]
  refine WQ.val (v := .pointer (some ⟨b, off + n.toNat * Enc.sz α, none⟩)) (fun w _ => ?_) (k _ _ hat' hcs1)
  have hr : 0 ≤ n ∧ n < (xs.length : Int) := ⟨h0, by omega⟩
  simp [execOp, Instr.indexAt, asIntOf, hx, hi, int, run_underlying ht, hr, sizeOf, typeInfo, hinf, hsize, Addr.add_lit]

/-! struct literals -/
def bplaces (P : Program) (T : TypeId) : Option (List (Nat × Nat)) :=
  match P.underlying T with
  | some (.struct fs) => fs.toList.mapM fun g => (P.info? g.type).map fun i => (g.offset, i.size)
  | _ => none
theorem run_places (l : List Field) (pl : List (Nat × Nat)) (h : (l.mapM fun g => (P.info? g.type).map fun i => (g.offset, i.size)) = some pl) : (l.mapM fun g => (do pure (g.offset, ← sizeOf g.type) : Sem (Nat × Nat))).run P w = .ok pl w := by
  induction l generalizing pl with
  | nil => simp at h; subst h; rfl
  | cons g l ih =>
    simp only [List.mapM_cons, Option.bind_eq_bind, Option.bind_eq_some_iff] at h
    obtain ⟨x, hx, ys, hys, hp⟩ := h
    cases hi : P.info? g.type with
    | none => rw [hi] at hx; cases hx
    | some i =>
      rw [hi] at hx
      simp at hx hp
      subst hx; subst hp
      have hs : (sizeOf g.type).run P w = .ok i.size w := by simp [sizeOf, typeInfo, hi]
      have e := ih ys hys
      simp only [List.mapM_cons, Sem.run_bind, hs, Result.andThen_ok, Sem.run_pure, e]
theorem R.build {T : TypeId} {ps : List (Nat × Operand)} {pl : List (Nat × Nat)} {zs : List Value} (vs : List (Nat × Value)) (cs : List Value) (hp : bplaces P T = some pl) (hz : zer P T = some zs) (hv : (ps.map fun p => (p.1, ev N f p.2)) = vs)
    (hf : (Instr.fill (fun i => pl[i]?) zs.toArray vs) = some cs.toArray) : (execOp (ev N f) ⟨od, .build T ps.toArray, ty, pos, af, g⟩).run P w = .ok (.value (agg cs)) w := by
  unfold bplaces at hp
  split at hp
  case h_2 => cases hp
  rename_i fs hT
  unfold zer at hz
  cases hi : P.info? T with
  | none => rw [hi] at hz; cases hz
  | some i =>
    rw [hi] at hz
    cases hzz : i.zero with
    | none => simp [hzz] at hz
    | some z =>
      simp [hzz] at hz
      have hzs : z.cells = zs.toArray := by rw [← hz]
      have hpl := run_places (P := P) (w := w) fs.toList pl hp
      have hpl2 : (fs.mapM fun g => (do pure (g.offset, ← sizeOf g.type) : Sem (Nat × Nat))).run P w = .ok pl.toArray w := by
        rw [Array.mapM_eq_mapM_toList]
        simp only [Sem.run_map, hpl, Result.andThen_ok]
      have hvs : ps.toArray.map (fun x => (x.1, ev N f x.2)) = vs.toArray := by rw [List.map_toArray, hv]
      have hfun : (fun x : Nat => (pl.toArray)[x]?) = fun i => pl[i]? := by funext i; simp
      have hg : ∀ K : Array (Nat × Value), (Instr.build T K).run P w = (match Instr.fill (fun x => pl.toArray[x]?) z.cells K.toList with | some cells => .ok (.agg cells) w | none => (stuck "build: no such field, or a part of the wrong size" : Sem Value).run P w) := by
        intro K
        simp only [Instr.build, zeroValue, typeInfo, Sem.run_bind, run_program, hi, hzz, Result.andThen_ok, Sem.run_pure, run_underlying hT, hpl2]
        cases Instr.fill (fun x => pl.toArray[x]?) z.cells K.toList <;> rfl
      have hm : (fun (x : Nat × Operand) => match x with | (i, x) => (i, ev N f x)) = fun x => (x.1, ev N f x.2) := by funext x; rfl
      simp only [execOp, Sem.run_bind, hg, hvs, hfun, hzs, hf, Result.andThen_ok, Sem.run_pure, agg]

/-! struct equality -/
/-- Two fields' comparison, by kind. -/
inductive EqF : Value → Value → Bool → Prop where
  | int (a b : Int) : EqF (int a) (int b) (a == b)
  | boo (a b : Bool) : EqF (boo a) (boo b) (a == b)
  | str (a b : Str) : EqF (str a) (str b) (a == b)
end
end Go.Eng
