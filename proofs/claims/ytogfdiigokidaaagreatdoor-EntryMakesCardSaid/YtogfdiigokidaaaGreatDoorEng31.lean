/- A part of the proof of laws of the seat. -/
import Derived.Test.YtogfdiigokidaaaGreatDoorEng28
namespace Go.Eng
open Go Go.ChangeMaps
set_option linter.unusedVariables false
set_option linter.unusedSimpArgs false
section
variable {P : Program} {N : Frm} {f : Fr} {w w' w0 : World} {H0 H : Hp} {L : List Ent} {ops : Array Oper} {rest : List Oper} {Q : Fr → World → Prop} {d : Nat} {od : Option Nat} {ty : TypeId} {pos : String} {af : Array Edge} {g : Option (Nat × Bool)}
theorem St.runDelete {β : Type} (F : β → Value) {T K E : TypeId} {x y : Operand} {ats : Array TypeId} {b i : Nat} {m : List (Str × β)} {k : Str} (S : St w0 H0 w H L) (hx : ev N f x = mapv b) (hy : ev N f y = str k) (hi : L[i]? = some (.mp b (encm F m)))
    (hat : ats = #[T, K]) (hT : P.underlying T = some (.map K E)) (hK : P.underlying K = some .string) :
    ∃ w', (execOp (ev N f) ⟨od, .call ⟨.builtin .delete, #[x, y], ats⟩, ty, pos, af, g⟩).run P w = .ok (.value (.tuple #[])) w' ∧ St w0 H0 w' H (L.set i (.mp b (encm F (mdel m k)))) := by
  subst hat
  obtain ⟨hH, es, cl, hc, he⟩ := S.mpOk hi
  obtain ⟨r, hr1, hr2, hr3, hr4, hr5, hr6, hr7, hr8⟩ := findNow_str F k m es.toList 0 he
  have hg : (getObj b).run P w = .ok (.map es cl) w := MapKept.run_getObj_map hc
  have hfk := run_findKey (w := w) hK F k m es.toList he hr1
  have hset : ∀ es' cl', (setObj b (.map es' cl')).run P w = .ok () (setBlock w b (.map es' cl')) := fun es' cl' => MapKept.run_setObj_map _ hc
  have hck : ∀ e, (Instr.checkKey e 10000 K (str k)).run P w = .ok () w := fun e => run_checkKey hK e _
  cases r with
  | none =>
    refine ⟨setBlock w b (.map es cl), ?_, S.setMp hi ?_⟩
    · simp [execOp, resolve, invoke, builtin, Builtin.delete_, hx, hy, mapv, run_underlying hT, hg, hck, hfk, hset, Result.andThen]
    · rw [he, hr7 rfl]
  | some q =>
    obtain ⟨j, u0⟩ := q
    refine ⟨setBlock w b (.map (es.eraseIdxIfInBounds j) cl), ?_, S.setMp hi ?_⟩
    · simp [execOp, resolve, invoke, builtin, Builtin.delete_, hx, hy, mapv, run_underlying hT, hg, hck, hfk, hset, Result.andThen]
    · have h6 := hr6 j u0 rfl
      have h3 := (hr3 j u0 rfl).2.1
      have hj : j < es.size := by simpa using h3
      rw [Array.eraseIdxIfInBounds, dif_pos hj, Array.toList_eraseIdx]
      exact h6
theorem St.runUpdate {β : Type} (F : β → Value) {T K E : TypeId} {x y z : Operand} {b i : Nat} {m : List (Str × β)} {k : Str} {v : Value} (u : β) (S : St w0 H0 w H L) (hx : ev N f x = mapv b) (hy : ev N f y = str k) (hz : ev N f z = v) (hv : v = F u) (hi : L[i]? = some (.mp b (encm F m)))
    (hT : P.underlying T = some (.map K E)) (hK : P.underlying K = some .string) :
    ∃ w', (execOp (ev N f) ⟨od, .mapUpdate T x y z, ty, pos, af, g⟩).run P w = .ok .skip w' ∧ St w0 H0 w' H (L.set i (.mp b (encm F (mset m k u)))) := by
  obtain ⟨hH, es, cl, hc, he⟩ := S.mpOk hi
  obtain ⟨r, hr1, hr2, hr3, hr4, hr5, _, _, hr8⟩ := findNow_str F k m es.toList 0 he
  have hg : (getObj b).run P w = .ok (.map es cl) w := MapKept.run_getObj_map hc
  have hfk := run_findKey (w := w) hK F k m es.toList he hr1
  have hset : ∀ es' cl', (setObj b (.map es' cl')).run P w = .ok () (setBlock w b (.map es' cl')) := fun es' cl' => MapKept.run_setObj_map _ hc
  cases r with
  | none =>
    refine ⟨setBlock w b (.map (es.push { key := str k, val := v, born := cl }) (cl + 1)), ?_, S.setMp hi ?_⟩
    · simp [execOp, Instr.mapUpdate, hx, hy, hz, mapv, run_underlying hT, hg, run_checkKey hK, hfk, hset, Result.andThen]
    · rw [Array.toList_push, List.map_append, he, hr5 rfl]
      simp [encm, hv]
  | some q =>
    obtain ⟨j, u0⟩ := q
    have h8 := hr8 j u0 rfl
    have hk8 : (((es[j]?).map (·.key)).getD (str k)) = str k := by
      rw [← Array.getElem?_toList]
      have : (es.toList[j]?).map (·.key) = some (str k) := h8
      rw [this]; rfl
    have hst : (Instr.keyThatStays (str k) (str k)).run P w = .ok (str k) w := by
      have hb : Instr.sameBits 10000 (str k) (str k) = true := by
        unfold Instr.sameBits
        exact (beq_strs k k).trans (by simp)
      simp [Instr.keyThatStays, hb]
    refine ⟨setBlock w b (.map (es.modify j fun e => { e with key := str k, val := v }) cl), ?_, S.setMp hi ?_⟩
    · simp [execOp, Instr.mapUpdate, hx, hy, hz, mapv, run_underlying hT, hg, run_checkKey hK, hfk, hset, Result.andThen, hk8, hst]
    · rw [Array.toList_modify]
      have := hr4 j u0 u rfl
      subst hv
      exact this
end
section
variable {P : Program} {n : Nat} {f : Fr} {w w0 : World} {H0 H : Hp} {L : List Ent}
theorem params_one (t : Nat) (v : Value) : ((#[t].zip #[v]).foldl (fun tmps (t, a) => tmps.setIfInBounds t a) (tm ⟨n, []⟩ f)) = tm ⟨n, []⟩ (upd f t v) := by
  have h := congrArg Act.tmps (put_act ⟨n, []⟩ f (some t) v)
  have e : ((#[t].zip #[v]).foldl (fun tmps (t, a) => tmps.setIfInBounds t a) (tm ⟨n, []⟩ f)) = (tm ⟨n, []⟩ f).setIfInBounds t v := by simp
  rw [e]
  exact h
structure RF (n : Nat) (f : Fr) (t s a b x : Nat) (k : Str) (bm q : Nat) : Prop where
  h1 : ev ⟨n, []⟩ (upd f t (str k)) (.tmp t) = str k
  h2 : ev ⟨n, []⟩ (upd (upd f t (str k)) s (str k)) (.tmp x) = ptr bm 0
  h3 : ev ⟨n, []⟩ (upd (upd (upd f t (str k)) s (str k)) a (mapv q)) (.tmp s) = str k
  h4 : ev ⟨n, []⟩ (upd (upd (upd (upd f t (str k)) s (str k)) a (mapv q)) b (str k)) (.tmp a) = mapv q
  h5 : ev ⟨n, []⟩ (upd (upd (upd (upd f t (str k)) s (str k)) a (mapv q)) b (str k)) (.tmp b) = str k
variable {fn D l ia j ib t s a b x bm q T K TB : Nat} {k : Str} {od : Option Nat} {m : List (Str × Bool)} {ty1 ty2 ty3 ty4 : TypeId} {p1 p2 p3 p4 : String} {a1 a2 a3 a4 : Array Edge} {ats : Array TypeId} {i1 i2 E : Nat}
theorem Round.del (S : St w0 H0 w H (.obj l (.loop (rec0 fn n f #[t] (.region ia #[⟨some s, .assign (.tmp t), ty1, p1, a1, none⟩] false)
        (.block j (.region ib #[⟨some a, .load T (.tmp x), ty2, p2, a2, none⟩, ⟨some b, .move (.tmp s), ty3, p3, a3, none⟩, ⟨od, .call ⟨.builtin .delete, #[.tmp a, .tmp b], ats⟩, ty4, p4, a4, none⟩] false)) D)) :: L))
    (hF : RF n f t s a b x k bm q) (h1 : L[i1]? = some (.box bm TB [mapv q])) (h2 : L[i2]? = some (.mp q (encm boo m))) (hlay : lay P T = some (false, 1)) (hat : ats = #[T, K]) (hT : P.underlying T = some (.map K E)) (hK : P.underlying K = some .string) :
    RoundIn Fence.wide 0 P l fn ((#[t].zip #[str k]).foldl (fun tmps (t, a) => tmps.setIfInBounds t a) (tm ⟨n, []⟩ f)) (.region ia #[⟨some s, .assign (.tmp t), ty1, p1, a1, none⟩] false)
        (.block j (.region ib #[⟨some a, .load T (.tmp x), ty2, p2, a2, none⟩, ⟨some b, .move (.tmp s), ty3, p3, a3, none⟩, ⟨od, .call ⟨.builtin .delete, #[.tmp a, .tmp b], ats⟩, ty4, p4, a4, none⟩] false)) w
      (fun e w' => e = .returned (.bool true) ∧ St w0 H0 w' H (.obj l (.loop (rec0 fn n f #[t] (.region ia #[⟨some s, .assign (.tmp t), ty1, p1, a1, none⟩] false)
        (.block j (.region ib #[⟨some a, .load T (.tmp x), ty2, p2, a2, none⟩, ⟨some b, .move (.tmp s), ty3, p3, a3, none⟩, ⟨od, .call ⟨.builtin .delete, #[.tmp a, .tmp b], ats⟩, ty4, p4, a4, none⟩] false)) D)) :: L.set i2 (.mp q (encm boo (mdel m k))))) := by
  obtain ⟨g1, g2, g3, g4, g5⟩ := hF
  refine round_of S rfl rfl rfl rfl (params_one t (str k)) ⟨rfl, (fun c h => by cases h), .inl ⟨str k, w, R.as g1, H, S, fun w2 S2 => ?_⟩⟩
  refine ⟨rfl, (fun c h => by cases h), .inl ⟨mapv q, w2, R.loadB (i := i1 + 1) S2 g2 (by rw [List.getElem?_cons_succ]; exact h1) hlay rfl, ?_⟩⟩
  refine ⟨rfl, (fun c h => by cases h), .inl ⟨str k, w2, R.mv g3, ?_⟩⟩
  obtain ⟨w3, hr, S3⟩ := S2.runDelete (od := od) (ty := ty4) (pos := p4) (af := a4) (g := none) (i := i2 + 1) boo g4 g5 (by rw [List.getElem?_cons_succ]; exact h2) hat hT hK
  refine ⟨rfl, (fun c h => by cases h), .inl ⟨_, w3, hr, H, _, S3, fun w4 S4 => S4⟩⟩
theorem Round.set (S : St w0 H0 w H (.obj l (.loop (rec0 fn n f #[t] (.region ia #[⟨some s, .assign (.tmp t), ty1, p1, a1, none⟩] false)
        (.block j (.region ib #[⟨some a, .load T (.tmp x), ty2, p2, a2, none⟩, ⟨some b, .move (.tmp s), ty3, p3, a3, none⟩, ⟨od, .mapUpdate T (.tmp a) (.tmp b) (.const (.bool true)), ty4, p4, a4, none⟩] false)) D)) :: L))
    (hF : RF n f t s a b x k bm q) (h1 : L[i1]? = some (.box bm TB [mapv q])) (h2 : L[i2]? = some (.mp q (encm boo m))) (hlay : lay P T = some (false, 1)) (hT : P.underlying T = some (.map K E)) (hK : P.underlying K = some .string) :
    RoundIn Fence.wide 0 P l fn ((#[t].zip #[str k]).foldl (fun tmps (t, a) => tmps.setIfInBounds t a) (tm ⟨n, []⟩ f)) (.region ia #[⟨some s, .assign (.tmp t), ty1, p1, a1, none⟩] false)
        (.block j (.region ib #[⟨some a, .load T (.tmp x), ty2, p2, a2, none⟩, ⟨some b, .move (.tmp s), ty3, p3, a3, none⟩, ⟨od, .mapUpdate T (.tmp a) (.tmp b) (.const (.bool true)), ty4, p4, a4, none⟩] false)) w
      (fun e w' => e = .returned (.bool true) ∧ St w0 H0 w' H (.obj l (.loop (rec0 fn n f #[t] (.region ia #[⟨some s, .assign (.tmp t), ty1, p1, a1, none⟩] false)
        (.block j (.region ib #[⟨some a, .load T (.tmp x), ty2, p2, a2, none⟩, ⟨some b, .move (.tmp s), ty3, p3, a3, none⟩, ⟨od, .mapUpdate T (.tmp a) (.tmp b) (.const (.bool true)), ty4, p4, a4, none⟩] false)) D)) :: L.set i2 (.mp q (encm boo (mset m k true))))) := by
  obtain ⟨g1, g2, g3, g4, g5⟩ := hF
  refine round_of S rfl rfl rfl rfl (params_one t (str k)) ⟨rfl, (fun c h => by cases h), .inl ⟨str k, w, R.as g1, H, S, fun w2 S2 => ?_⟩⟩
  refine ⟨rfl, (fun c h => by cases h), .inl ⟨mapv q, w2, R.loadB (i := i1 + 1) S2 g2 (by rw [List.getElem?_cons_succ]; exact h1) hlay rfl, ?_⟩⟩
  refine ⟨rfl, (fun c h => by cases h), .inl ⟨str k, w2, R.mv g3, ?_⟩⟩
  obtain ⟨w3, hr, S3⟩ := St.runUpdate (od := od) (ty := ty4) (pos := p4) (af := a4) (g := none) (i := i2 + 1) boo (z := .const (.bool true)) (v := .bool true) true S2 g4 g5 rfl rfl (by rw [List.getElem?_cons_succ]; exact h2) hT hK
  refine ⟨rfl, (fun c h => by cases h), .inr ⟨w3, hr, H, _, S3, fun w4 S4 => S4⟩⟩
end
end Go.Eng
namespace Go.Eng
open Go
set_option linter.unusedVariables false
section
variable {P : Program} {N : Frm} {f : Fr} {w : World}
theorem WP.loopK {σ : Type} {c : Code} {Q : Exit → Fr → World → Prop} (I : σ → Fr → World → Prop) (μ : σ → Nat) (s0 : σ) (hI : I s0 f w)
    (h : ∀ s f w, I s f w → WP P N c (fun e f' w' => match e with | .normal => ∃ s', μ s' < μ s ∧ I s' f' w' | e => Q e f' w') f w) : WP P N (.loop c) Q f w := by
  have key : ∀ (n : Nat) (s : σ) (f : Fr) (w : World), μ s < n → I s f w → RD P N c Q n f w := by
    intro n
    induction n with
    | zero => intro s f w hn; exact absurd hn (Nat.not_lt_zero _)
    | succ n ih =>
      intro s f w hn hI
      refine RD.succ ((h s f w hI).mono fun e f' w' hq => ?_)
      cases e with
      | normal =>
        obtain ⟨s', hs, hI'⟩ := hq
        exact ih s' f' w' (by omega) hI'
      | _ => exact hq
  exact WP.loopRd _ (key _ s0 f w (Nat.lt_succ_self _) hI)
end
def pieces (c : UInt8) : Str → List Str
  | [] => [[]]
  | x :: l => if x = c then [] :: pieces c l else match pieces c l with | p :: r => (x :: p) :: r | [] => [[x]]
theorem pieces_none (c : UInt8) : ∀ l : Str, c ∉ l → pieces c l = [l]
  | [], _ => rfl
  | x :: l, h => by
    have h1 : x ≠ c := fun e => h (by simp [e])
    unfold pieces
    rw [if_neg h1, pieces_none c l (fun hm => h (by simp [hm]))]
theorem pieces_some (c : UInt8) : ∀ (a b : Str), c ∉ a → pieces c (a ++ c :: b) = a :: pieces c b
  | [], b, _ => by simp [pieces]
  | x :: a, b, h => by
    have h1 : x ≠ c := fun e => h (by simp [e])
    have e := pieces_some c a b (fun hm => h (by simp [hm]))
    have : pieces c (x :: (a ++ c :: b)) = if x = c then [] :: pieces c (a ++ c :: b) else match pieces c (a ++ c :: b) with | p :: r => (x :: p) :: r | [] => [[x]] := rfl
    rw [List.cons_append, this, if_neg h1, e]
theorem indexByte_cases (s : Str) (c : UInt8) : (Lib.indexByte s c = -1 ∧ c ∉ s) ∨ ∃ a b, s = a ++ c :: b ∧ c ∉ a ∧ Lib.indexByte s c = (a.length : Int) := by
  induction s with
  | nil => exact .inl ⟨rfl, by simp⟩
  | cons x s ih =>
    by_cases hx : x = c
    · subst hx
      refine .inr ⟨[], s, rfl, by simp, ?_⟩
      simp [Lib.indexByte]
    · have hb : (x == c) = false := by simpa using hx
      rcases ih with ⟨h1, h2⟩ | ⟨a, b, rfl, h2, h3⟩
      · refine .inl ⟨?_, by simp [h2, Ne.symm hx]⟩
        rw [Lib.indexByte, hb, h1]; rfl
      · refine .inr ⟨x :: a, b, rfl, by simp [h2, Ne.symm hx], ?_⟩
        rw [Lib.indexByte, hb, h3]
        have : ((a.length : Int) == -1) = false := beq_eq_false_iff_ne.2 (by omega)
        simp [this]
theorem xsub_pre (a b : Str) (c : UInt8) : xsub (a ++ c :: b) 0 (a.length : Int) = some a := by
  unfold xsub
  rw [if_pos ⟨by omega, by omega, by rw [List.length_append]; omega⟩]
  simp
theorem xsub_post (a b : Str) (c : UInt8) : xsub (a ++ c :: b) ((a.length + 1 : Nat) : Int) ((a ++ c :: b).length : Int) = some b := by
  unfold xsub
  rw [if_pos ⟨by omega, by rw [List.length_append, List.length_cons]; omega, by omega⟩]
  rw [Int.toNat_natCast, Int.toNat_natCast, List.take_length]
  have : (a ++ c :: b) = (a ++ [c]) ++ b := by simp
  rw [this]
  have h2 : a.length + 1 = (a ++ [c]).length := by simp
  rw [h2, List.drop_left]
section
variable {P : Program} {n : Nat} {f : Fr} {w w0 : World} {H0 H : Hp} {L : List Ent} {ds : List Deferred}
theorem OutR.one {fn : Func} {t : Nat} {v : Value} {R : Hp → Value → Prop} (Ds : List Nat) (hr : fn.results = #[.tmp t]) (hds : ds = Ds.map mark) (S : St w0 H0 w H (Ds.map (fun D => Ent.obj D (.deferred (some []))) ++ L)) (hv : ev ⟨n, ds⟩ f (.tmp t) = v) (hR : R H v) :
    OutR P fn n w0 H0 R .ret ds f w := by
  refine ⟨.inl rfl, Ds, v, H, L, hds, fun w' => ?_, S, hR⟩
  rw [run_results1 hr, tm_getD]
  exact congrArg (fun v => Result.ok v w') hv
theorem St.objAt {b i : Nat} {o : Obj} (S : St w0 H0 w H L) (hi : L[i]? = some (.obj b o)) : w.heap[b]? = some o := (show ObjOk w H b o from S.ents _ (List.mem_of_getElem? hi)).2
end
end Go.Eng
namespace Go.Eng
open Go
variable {P : Program} {N : Frm} {f : Fr} {w : World}
theorem oi {α : Type} {a b : α} (h : some a = some b) : a = b := Option.some.inj h
theorem ag {f f' : Fr} {ds : List Nat} (h : agree f f' ds := by repeat (first | refine agree_upd rfl ?_ | refine agree_upds' rfl ?_ | exact agree_refl)) : agree f f' ds := h
theorem WL.m {ops : Array Oper} {rest : List Oper} {x : Operand} {d : Option Nat} {ty : TypeId} {pos : String} {af : Array Edge} {Q : Fr → World → Prop} (v : Value)
    (hx : ev N f x = v) (h : WL P N ops rest Q (updo f d v) w) : WL P N ops (⟨d, .move x, ty, pos, af, none⟩ :: rest) Q f w := WL.w (R.mv hx) h
theorem WL.a {ops : Array Oper} {rest : List Oper} {x : Operand} {d : Option Nat} {ty : TypeId} {pos : String} {af : Array Edge} {Q : Fr → World → Prop} (v : Value)
    (hx : ev N f x = v) (h : WL P N ops rest Q (updo f d v) w) : WL P N ops (⟨d, .assign x, ty, pos, af, none⟩ :: rest) Q f w := WL.w (R.as hx) h
end Go.Eng
