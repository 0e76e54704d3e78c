/- The law FreshnessStrict returns true at every input and leaves each argument as it was; condition: the listed package-level variables start as the program's text lays them (tied). -/
import Derived.Test.YtdijehmmnpofjaaDoorCards
import Derived.Test.YtdijehmmnpofjaaDoorTie
import Derived.Test.YtdijehmmnpofjaaDoorGenC10
import Derived.Test.YtdijehmmnpofjaaDoorFreshP
import Derived.Test.YtdijehmmnpofjaaDoorEng12
import Derived.ProofKit
import Derived.OpenShut
import Derived.Deep.DeepHandedRow
import Derived.Lib.LaidIn
namespace Go.Proofs.YtdijehmmnpofjaaDoor
open Go.ChangeShapes Go.WideShapes Go.ChangeAt Go.RowKit Go.Eng Go.Eng.Pure
theorem own : ownKnob Tryd.prog.godebug = none := by kernel_rfl
theorem laidOut : laidOutB Tryd.prog = true := by kernel_rfl
theorem len11 {l : List Value} (h : l.length = 11) : ∃ u0 u1 u2 u3 u4 u5 u6 u7 u8 u9 u10, l = [u0, u1, u2, u3, u4, u5, u6, u7, u8, u9, u10] :=
  match l, h with
  | [u0, u1, u2, u3, u4, u5, u6, u7, u8, u9, u10], _ => ⟨u0, u1, u2, u3, u4, u5, u6, u7, u8, u9, u10, rfl⟩
theorem rd3 : Rd Tryd.prog 3 Int := Rd.int Tryd.underlying3
theorem rd4 : Rd Tryd.prog 4 Bool := Rd.bool Tryd.underlying4
theorem rd32 : Rd Tryd.prog 32 GControl := by
  intro X enc W fuel cs x h
  obtain ⟨hl, hf⟩ := Rd.field Tryd.underlying32 h
  obtain ⟨n0, y0, h0⟩ := hf 0 _ rfl
  obtain ⟨a0, h0⟩ := rd4 X enc W n0 _ y0 h0
  have c0 : Tryd.prog.cellsOf 4 = 1 := by kernel_rfl
  obtain ⟨n1, y1, h1⟩ := hf 1 _ rfl
  obtain ⟨a1, h1⟩ := rd4 X enc W n1 _ y1 h1
  have c1 : Tryd.prog.cellsOf 4 = 1 := by kernel_rfl
  obtain ⟨n2, y2, h2⟩ := hf 2 _ rfl
  obtain ⟨a2, h2⟩ := rd4 X enc W n2 _ y2 h2
  have c2 : Tryd.prog.cellsOf 4 = 1 := by kernel_rfl
  obtain ⟨n3, y3, h3⟩ := hf 3 _ rfl
  obtain ⟨a3, h3⟩ := rd4 X enc W n3 _ y3 h3
  have c3 : Tryd.prog.cellsOf 4 = 1 := by kernel_rfl
  obtain ⟨n4, y4, h4⟩ := hf 4 _ rfl
  obtain ⟨a4, h4⟩ := rd4 X enc W n4 _ y4 h4
  have c4 : Tryd.prog.cellsOf 4 = 1 := by kernel_rfl
  obtain ⟨n5, y5, h5⟩ := hf 5 _ rfl
  obtain ⟨a5, h5⟩ := rd4 X enc W n5 _ y5 h5
  have c5 : Tryd.prog.cellsOf 4 = 1 := by kernel_rfl
  obtain ⟨n6, y6, h6⟩ := hf 6 _ rfl
  obtain ⟨a6, h6⟩ := rd4 X enc W n6 _ y6 h6
  have c6 : Tryd.prog.cellsOf 4 = 1 := by kernel_rfl
  obtain ⟨n7, y7, h7⟩ := hf 7 _ rfl
  obtain ⟨a7, h7⟩ := rd3 X enc W n7 _ y7 h7
  have c7 : Tryd.prog.cellsOf 3 = 1 := by kernel_rfl
  obtain ⟨n8, y8, h8⟩ := hf 8 _ rfl
  obtain ⟨a8, h8⟩ := rd3 X enc W n8 _ y8 h8
  have c8 : Tryd.prog.cellsOf 3 = 1 := by kernel_rfl
  obtain ⟨n9, y9, h9⟩ := hf 9 _ rfl
  obtain ⟨a9, h9⟩ := rd3 X enc W n9 _ y9 h9
  have c9 : Tryd.prog.cellsOf 3 = 1 := by kernel_rfl
  obtain ⟨n10, y10, h10⟩ := hf 10 _ rfl
  obtain ⟨a10, h10⟩ := rd3 X enc W n10 _ y10 h10
  have c10 : Tryd.prog.cellsOf 3 = 1 := by kernel_rfl
  have cc : Tryd.prog.cellsOf 32 = 11 := by kernel_rfl
  rw [cc] at hl
  clear h hf
  obtain ⟨u0, u1, u2, u3, u4, u5, u6, u7, u8, u9, u10, rfl⟩ := len11 hl
  have e0 : (([u0, u1, u2, u3, u4, u5, u6, u7, u8, u9, u10] : List Value).drop 0).take (Tryd.prog.cellsOf 4) = [(boo a0)] := h0
  rw [c0] at e0
  have e1 : (([u0, u1, u2, u3, u4, u5, u6, u7, u8, u9, u10] : List Value).drop 1).take (Tryd.prog.cellsOf 4) = [(boo a1)] := h1
  rw [c1] at e1
  have e2 : (([u0, u1, u2, u3, u4, u5, u6, u7, u8, u9, u10] : List Value).drop 2).take (Tryd.prog.cellsOf 4) = [(boo a2)] := h2
  rw [c2] at e2
  have e3 : (([u0, u1, u2, u3, u4, u5, u6, u7, u8, u9, u10] : List Value).drop 3).take (Tryd.prog.cellsOf 4) = [(boo a3)] := h3
  rw [c3] at e3
  have e4 : (([u0, u1, u2, u3, u4, u5, u6, u7, u8, u9, u10] : List Value).drop 4).take (Tryd.prog.cellsOf 4) = [(boo a4)] := h4
  rw [c4] at e4
  have e5 : (([u0, u1, u2, u3, u4, u5, u6, u7, u8, u9, u10] : List Value).drop 5).take (Tryd.prog.cellsOf 4) = [(boo a5)] := h5
  rw [c5] at e5
  have e6 : (([u0, u1, u2, u3, u4, u5, u6, u7, u8, u9, u10] : List Value).drop 6).take (Tryd.prog.cellsOf 4) = [(boo a6)] := h6
  rw [c6] at e6
  have e7 : (([u0, u1, u2, u3, u4, u5, u6, u7, u8, u9, u10] : List Value).drop 7).take (Tryd.prog.cellsOf 3) = [(int a7)] := h7
  rw [c7] at e7
  have e8 : (([u0, u1, u2, u3, u4, u5, u6, u7, u8, u9, u10] : List Value).drop 8).take (Tryd.prog.cellsOf 3) = [(int a8)] := h8
  rw [c8] at e8
  have e9 : (([u0, u1, u2, u3, u4, u5, u6, u7, u8, u9, u10] : List Value).drop 9).take (Tryd.prog.cellsOf 3) = [(int a9)] := h9
  rw [c9] at e9
  have e10 : (([u0, u1, u2, u3, u4, u5, u6, u7, u8, u9, u10] : List Value).drop 10).take (Tryd.prog.cellsOf 3) = [(int a10)] := h10
  rw [c10] at e10
  simp only [List.drop_zero, List.drop_succ_cons, List.take_succ_cons, List.take_zero, List.cons.injEq, and_true] at e0
  subst e0
  simp only [List.drop_zero, List.drop_succ_cons, List.take_succ_cons, List.take_zero, List.cons.injEq, and_true] at e1
  subst e1
  simp only [List.drop_zero, List.drop_succ_cons, List.take_succ_cons, List.take_zero, List.cons.injEq, and_true] at e2
  subst e2
  simp only [List.drop_zero, List.drop_succ_cons, List.take_succ_cons, List.take_zero, List.cons.injEq, and_true] at e3
  subst e3
  simp only [List.drop_zero, List.drop_succ_cons, List.take_succ_cons, List.take_zero, List.cons.injEq, and_true] at e4
  subst e4
  simp only [List.drop_zero, List.drop_succ_cons, List.take_succ_cons, List.take_zero, List.cons.injEq, and_true] at e5
  subst e5
  simp only [List.drop_zero, List.drop_succ_cons, List.take_succ_cons, List.take_zero, List.cons.injEq, and_true] at e6
  subst e6
  simp only [List.drop_zero, List.drop_succ_cons, List.take_succ_cons, List.take_zero, List.cons.injEq, and_true] at e7
  subst e7
  simp only [List.drop_zero, List.drop_succ_cons, List.take_succ_cons, List.take_zero, List.cons.injEq, and_true] at e8
  subst e8
  simp only [List.drop_zero, List.drop_succ_cons, List.take_succ_cons, List.take_zero, List.cons.injEq, and_true] at e9
  subst e9
  simp only [List.drop_zero, List.drop_succ_cons, List.take_succ_cons, List.take_zero, List.cons.injEq, and_true] at e10
  subst e10
  exact ⟨⟨a0, a1, a2, a3, a4, a5, a6, a7, a8, a9, a10⟩, rfl⟩
/-- A world for the witness: the settled one, the listed variables holding what their initialisers lay. -/
noncomputable def laidWorld (os : Os) : World :=
  let w0 := World.holding Tryd.prog os ⟨#[], #[], []⟩
  let put (h : Array Obj) (g : Nat) (cs : Array Value) : Array Obj := h.modify g fun
    | .cells _ t frozen => .cells cs t frozen
    | o => o
  let h1 := put w0.heap 0 ((Pinned.utf8FirstZ.map fun (z : Nat) => Value.int .u8 (z : Int)).toArray)
  let h2 := put h1 1 #[.int .u8 128, .int .u8 191, .int .u8 160, .int .u8 191, .int .u8 128, .int .u8 159, .int .u8 144, .int .u8 191, .int .u8 128, .int .u8 143, .int .u8 0, .int .u8 0, .int .u8 0, .int .u8 0, .int .u8 0, .int .u8 0, .int .u8 0, .int .u8 0, .int .u8 0, .int .u8 0, .int .u8 0, .int .u8 0, .int .u8 0, .int .u8 0, .int .u8 0, .int .u8 0, .int .u8 0, .int .u8 0, .int .u8 0, .int .u8 0, .int .u8 0, .int .u8 0]
  { w0 with heap := h2 }
theorem laid_in (os : Os) (args : Array Value) : LaidIn Tryd.prog ((laidWorld os).forCall (fun _ _ => 0) ⟨#[], args, []⟩).memory Rows.freshnessStrictRow.laid [1, 0] :=
  LaidIn.of_run [1, 0] 8 (by kernel_rfl) (by kernel_rfl) (by kernel_rfl) (by kernel_rfl)

set_option maxRecDepth 100000 in
theorem freshnessStrict_calls (H : Type) (enc : TypeId × Value → H) (W : World) (base : Nat) (args : Array Value) (ds gs : List (DataW H)) (before : List MemPlace)
    (hval : ∀ (j : Nat) t v, Tryd.f13.params[j]? = some t → args[j]? = some v → Value.okWide Tryd.prog W .any base t v)
    (hW : DataW.Whole enc Tryd.prog Tryd.f13.params.toList Rows.freshnessStrictSpec.vars false W args.toList ds gs before) :
    Calls Tryd.prog 13 args W fun e W' => ∃ v, e = .returned v ∧ Rows.freshnessStrictSpec.post enc Tryd.prog Tryd.f13 false true false false W args v W' := by
  have hW' := hW
  obtain ⟨p, q, hA0, hV, rfl, hfz, hnd⟩ := hW
  have hA : DataW.TrodAll enc Tryd.prog W 0 (fun _ => true) true Tryd.f13.params.toList args.toList ds p := hA0
  rw [Tryd.params13] at hA hval
  clear hA0
  obtain ⟨v0, vs0, d0, ds0, p0, q0, hargs0, rfl, rfl, h0, hA⟩ := trodAll_cons hA
  obtain ⟨v1, vs1, d1, ds1, p1, q1, hargs1, rfl, rfl, h1, hA⟩ := trodAll_cons hA
  obtain ⟨v2, vs2, d2, ds2, p2, q2, hargs2, rfl, rfl, h2, hA⟩ := trodAll_cons hA
  obtain ⟨v3, vs3, d3, ds3, p3, q3, hargs3, rfl, rfl, h3, hA⟩ := trodAll_cons hA
  obtain ⟨hargsN, rfl, rfl⟩ := trodAll_nil hA
  obtain rfl : args = #[v0, v1, v2, v3] := by cases args; simp_all
  obtain ⟨rfl, rfl⟩ := trodVars_none hV
  obtain ⟨x0, rfl, hwf0⟩ := arg_int Tryd.underlying3 (hval 0 3 v0 rfl rfl) h0
  obtain ⟨x1, rfl, hwf1⟩ := arg_int Tryd.underlying3 (hval 1 3 v1 rfl rfl) h1
  obtain ⟨cs2, x2, rfl, e2⟩ := arg_struct Tryd.underlying32 rd32 (hval 2 32 v2 rfl rfl) h2
  have e2 : cs2 = [(boo x2.fNoStore), (boo x2.fNoCache), (boo x2.fMustRevalidate), (boo x2.fProxyRevalidate), (boo x2.fPrivate), (boo x2.fPublic), (boo x2.fOnlyIfCached), (int x2.fMaxAge), (int x2.fSMaxAge), (int x2.fMinFresh), (int x2.fMaxStale)] := e2
  subst e2
  obtain ⟨cs3, x3, rfl, e3⟩ := arg_struct Tryd.underlying32 rd32 (hval 3 32 v3 rfl rfl) h3
  have e3 : cs3 = [(boo x3.fNoStore), (boo x3.fNoCache), (boo x3.fMustRevalidate), (boo x3.fProxyRevalidate), (boo x3.fPrivate), (boo x3.fPublic), (boo x3.fOnlyIfCached), (int x3.fMaxAge), (int x3.fSMaxAge), (int x3.fMinFresh), (int x3.fMaxStale)] := e3
  subst e3
  exact law_calls rfl laidOut (by kernel_rfl) rfl hW' ⟨rfl, rfl, rfl⟩ (by kernel_rfl) Tryd.underlying4
    ((law23_FreshnessStrict_ok (Holds.of W) x0 x1 x2 x3  (FreshnessStrict_true x0 x1 x2 x3)).mono fun _ _ h => h)
theorem freshnessStrict_reads (os : Os) {H : Type} (enc : TypeId × Value → H) : ∃ ds places, DataW.whole enc Tryd.prog ((laidWorld os).forCall (fun _ _ => 0) ⟨#[], #[.int .i64 0, .int .i64 0, .agg #[.bool false, .bool false, .bool false, .bool false, .bool false, .bool false, .bool false, .int .i64 0, .int .i64 0, .int .i64 0, .int .i64 0], .agg #[.bool false, .bool false, .bool false, .bool false, .bool false, .bool false, .bool false, .int .i64 0, .int .i64 0, .int .i64 0, .int .i64 0]], []⟩).memory Tryd.f13.params.toList Rows.freshnessStrictSpec.vars false (#[.int .i64 0, .int .i64 0, .agg #[.bool false, .bool false, .bool false, .bool false, .bool false, .bool false, .bool false, .int .i64 0, .int .i64 0, .int .i64 0, .int .i64 0], .agg #[.bool false, .bool false, .bool false, .bool false, .bool false, .bool false, .bool false, .int .i64 0, .int .i64 0, .int .i64 0, .int .i64 0]] : Array Value).toList 8 = some (ds, [], places) :=
  reads_of (by kernel_rfl)
set_option maxRecDepth 100000 in
theorem freshnessStrict_lifted (os : Os) (started : os.Started) (H : Type) (enc : TypeId × Value → H) (F : Stop.Interp) :
    ReturnsInHanded {} Tryd.checked os 13 .any ((OpenSpec.ofChange Rows.freshnessStrictSpec).preRow enc Tryd.prog Tryd.f13 Rows.freshnessStrictRow.domain false Rows.freshnessStrictRow.laid) (((OpenSpec.ofChange Rows.freshnessStrictSpec).at F).post enc Tryd.prog Tryd.f13 false true false false) := by
  obtain ⟨ds, places, hx⟩ := freshnessStrict_reads os enc
  refine returnsInHanded_of_row (C := Tryd.checked) (s := OpenSpec.ofChange Rows.freshnessStrictSpec) own started (by kernel_rfl) Tryd.func13
    (witness_row_at (enc := enc) (C := Tryd.checked) false (laidWorld os) #[.int .i64 0, .int .i64 0, .agg #[.bool false, .bool false, .bool false, .bool false, .bool false, .bool false, .bool false, .int .i64 0, .int .i64 0, .int .i64 0, .int .i64 0], .agg #[.bool false, .bool false, .bool false, .bool false, .bool false, .bool false, .bool false, .int .i64 0, .int .i64 0, .int .i64 0, .int .i64 0]] rfl (by kernel_rfl) (by kernel_rfl) (by kernel_rfl)
      (OpenSpec.preRow_of_cond 8 hx (by kernel_rfl) (fun k hk => by cases hk) (by kernel_rfl) (laid_in os _).met)) ?_
  intro W base args ds gs before hval hW _ _ _ hL _ _
  exact freshnessStrict_calls H enc W base args ds gs before hval hW
theorem freshnessStrict_said : Rows.FreshnessStrictSaid :=
  OpenClaim.holds_of_cond 13 Tryd.f13 rfl rfl rfl rfl rfl rfl rfl ⟨rfl, rfl, rfl, rfl, rfl⟩ rfl rfl rfl rfl rfl (by kernel_rfl) Tryd.func13 (by kernel_rfl)
    (of_decide_eq_true (by kernel_rfl)) (by unfold Func.isWrapper; first | (rw [if_pos (by decide +kernel)]; kernel_rfl) | (rw [if_neg (by decide +kernel)]; exact ⟨rfl, rfl⟩))
    (fun os started H enc _ F => by rw [OpenClaim.pre_eq_preRow]; exact freshnessStrict_lifted os started H enc F)
theorem freshnessStrict_plain (f : FuncId) (fn : Func) (hf : Tryd.pinned.checked.prog.funcNamed Rows.freshnessStrictRow.func = some f) (hfn : Tryd.pinned.checked.prog.funcs[f]? = some fn) :
    false = Tryd.pinned.checked.prog.looks [] ∧ ∀ (j : Nat) t, fn.params[j]? = some t → Tryd.pinned.checked.prog.wantsStandIn t = false := by
  obtain rfl : f = 13 := Option.some.inj ((show Tryd.prog.funcNamed Rows.freshnessStrictRow.func = some 13 by kernel_rfl).symm.trans hf) |>.symm
  obtain rfl : fn = Tryd.f13 := (Option.some.inj (Tryd.func13.symm.trans hfn)).symm
  refine ⟨by kernel_rfl, fun j t ht => ?_⟩
  rw [Tryd.params13] at ht
  have hm := Array.mem_of_getElem? ht
  have hall : (#[3, 3, 32, 32] : Array Nat).all (fun t => !Tryd.prog.wantsStandIn t) = true := by kernel_rfl
  have := Array.all_eq_true_iff_forall_mem.1 hall t hm
  show Tryd.prog.wantsStandIn t = false
  simpa using this
theorem freshnessStrict_card : Rows.FreshnessStrictCardSaid :=
  Claim7.holds_tied_plain_at .later [] _ _ _ _ freshnessStrict_said (fun _ h => by cases h) (by kernel_rfl) (fun _ h => by cases h) freshnessStrict_row_tie rfl ⟨rfl, rfl⟩ (by kernel_rfl) rfl freshnessStrict_plain (by kernel_rfl)
#print axioms freshnessStrict_card
end Go.Proofs.YtdijehmmnpofjaaDoor
