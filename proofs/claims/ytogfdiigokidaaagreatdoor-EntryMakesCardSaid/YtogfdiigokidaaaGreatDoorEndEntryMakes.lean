/- The law EntryMakes returns true at every input and leaves each argument as it was; condition: the listed package-level variables start as the program's text lays them (tied). -/
import Derived.Test.YtogfdiigokidaaaGreatDoorCards
import Derived.Test.YtogfdiigokidaaaGreatDoorTie
import Derived.Test.YtogfdiigokidaaaGreatDoorGenJ13
import Derived.Test.YtogfdiigokidaaaGreatDoorMakeR
import Derived.Test.YtogfdiigokidaaaGreatDoorEng16
import Derived.ProofKit
import Derived.OpenShut
import Derived.Deep.DeepHandedRow
import Derived.Lib.LaidIn
namespace Go.Proofs.YtogfdiigokidaaaGreatDoor
open Go.ChangeShapes Go.WideShapes Go.ChangeAt Go.RowKit Go.Eng Go.Eng.Pure
set_option linter.unusedSimpArgs false
theorem own : ownKnob Tryz.prog.godebug = none := by kernel_rfl
theorem laidOut : laidOutB Tryz.prog = true := by kernel_rfl
theorem len2 {l : List Value} (h : l.length = 2) : ∃ u0 u1, l = [u0, u1] :=
  match l, h with
  | [u0, u1], _ => ⟨u0, u1, rfl⟩
theorem len5 {l : List Value} (h : l.length = 5) : ∃ u0 u1 u2 u3 u4, l = [u0, u1, u2, u3, u4] :=
  match l, h with
  | [u0, u1, u2, u3, u4], _ => ⟨u0, u1, u2, u3, u4, rfl⟩
theorem rd9 : Rd Tryz.prog 9 Str := Rd.str Tryz.underlying9
theorem rd3 : Rd Tryz.prog 3 Int := Rd.int Tryz.underlying3
theorem rd53 : Rd Tryz.prog 53 GField := by
  intro X enc W fuel cs x h
  obtain ⟨hl, hf⟩ := Rd.field Tryz.underlying53 h
  obtain ⟨n0, y0, h0⟩ := hf 0 _ rfl
  obtain ⟨a0, h0⟩ := rd9 X enc W n0 _ y0 h0
  have c0 : Tryz.prog.cellsOf 9 = 1 := by kernel_rfl
  obtain ⟨n1, y1, h1⟩ := hf 1 _ rfl
  obtain ⟨a1, h1⟩ := rd9 X enc W n1 _ y1 h1
  have c1 : Tryz.prog.cellsOf 9 = 1 := by kernel_rfl
  have cc : Tryz.prog.cellsOf 53 = 2 := by kernel_rfl
  rw [cc] at hl
  clear h hf
  obtain ⟨u0, u1, rfl⟩ := len2 hl
  have e0 : (([u0, u1] : List Value).drop 0).take (Tryz.prog.cellsOf 9) = [(str a0)] := h0
  rw [c0] at e0
  have e1 : (([u0, u1] : List Value).drop 1).take (Tryz.prog.cellsOf 9) = [(str a1)] := h1
  rw [c1] at e1
  simp only [List.drop_zero, List.drop_succ_cons, List.take_succ_cons, List.take_zero, List.cons.injEq, and_true] at e0
  subst e0
  simp only [List.drop_zero, List.drop_succ_cons, List.take_succ_cons, List.take_zero, List.cons.injEq, and_true] at e1
  subst e1
  exact ⟨⟨a0, a1⟩, rfl⟩
theorem rd24 : Rd Tryz.prog 24 (List GField) := fun X enc W fuel cs x h => by
  obtain ⟨v, a, h1, h2⟩ := Rd.list (α := GField) (by kernel_rfl) Tryz.underlying24 rd53 X enc W fuel cs x h
  exact ⟨a, v, h1, h2⟩
theorem rd40 : Rd Tryz.prog 40 GRequest := by
  intro X enc W fuel cs x h
  obtain ⟨hl, hf⟩ := Rd.field Tryz.underlying40 h
  obtain ⟨n0, y0, h0⟩ := hf 0 _ rfl
  obtain ⟨a0, h0⟩ := rd9 X enc W n0 _ y0 h0
  have c0 : Tryz.prog.cellsOf 9 = 1 := by kernel_rfl
  obtain ⟨n1, y1, h1⟩ := hf 1 _ rfl
  obtain ⟨a1, h1⟩ := rd9 X enc W n1 _ y1 h1
  have c1 : Tryz.prog.cellsOf 9 = 1 := by kernel_rfl
  obtain ⟨n2, y2, h2⟩ := hf 2 _ rfl
  obtain ⟨a2, h2⟩ := rd3 X enc W n2 _ y2 h2
  have c2 : Tryz.prog.cellsOf 3 = 1 := by kernel_rfl
  obtain ⟨n3, y3, h3⟩ := hf 3 _ rfl
  obtain ⟨a3, w3, h3, R3⟩ := rd24 X enc W n3 _ y3 h3
  have c3 : Tryz.prog.cellsOf 24 = 1 := by kernel_rfl
  obtain ⟨n4, y4, h4⟩ := hf 4 _ rfl
  obtain ⟨a4, h4⟩ := rd9 X enc W n4 _ y4 h4
  have c4 : Tryz.prog.cellsOf 9 = 1 := by kernel_rfl
  have cc : Tryz.prog.cellsOf 40 = 5 := by kernel_rfl
  rw [cc] at hl
  clear h hf
  obtain ⟨u0, u1, u2, u3, u4, rfl⟩ := len5 hl
  have e0 : (([u0, u1, u2, u3, u4] : List Value).drop 0).take (Tryz.prog.cellsOf 9) = [(str a0)] := h0
  rw [c0] at e0
  have e1 : (([u0, u1, u2, u3, u4] : List Value).drop 1).take (Tryz.prog.cellsOf 9) = [(str a1)] := h1
  rw [c1] at e1
  have e2 : (([u0, u1, u2, u3, u4] : List Value).drop 2).take (Tryz.prog.cellsOf 3) = [(int a2)] := h2
  rw [c2] at e2
  have e3 : (([u0, u1, u2, u3, u4] : List Value).drop 3).take (Tryz.prog.cellsOf 24) = [w3] := h3
  rw [c3] at e3
  have e4 : (([u0, u1, u2, u3, u4] : List Value).drop 4).take (Tryz.prog.cellsOf 9) = [(str a4)] := h4
  rw [c4] at e4
  simp only [List.drop_zero, List.drop_succ_cons, List.take_succ_cons, List.take_zero, List.cons.injEq, and_true] at e0
  subst e0
  simp only [List.drop_zero, List.drop_succ_cons, List.take_succ_cons, List.take_zero, List.cons.injEq, and_true] at e1
  subst e1
  simp only [List.drop_zero, List.drop_succ_cons, List.take_succ_cons, List.take_zero, List.cons.injEq, and_true] at e2
  subst e2
  simp only [List.drop_zero, List.drop_succ_cons, List.take_succ_cons, List.take_zero, List.cons.injEq, and_true] at e3
  subst e3
  simp only [List.drop_zero, List.drop_succ_cons, List.take_succ_cons, List.take_zero, List.cons.injEq, and_true] at e4
  subst e4
  exact ⟨⟨a0, a1, a2, a3, a4⟩, _, rfl, R3⟩
theorem rd30 : Rd Tryz.prog 30 GResponse := by
  intro X enc W fuel cs x h
  obtain ⟨hl, hf⟩ := Rd.field Tryz.underlying30 h
  obtain ⟨n0, y0, h0⟩ := hf 0 _ rfl
  obtain ⟨a0, h0⟩ := rd3 X enc W n0 _ y0 h0
  have c0 : Tryz.prog.cellsOf 3 = 1 := by kernel_rfl
  obtain ⟨n1, y1, h1⟩ := hf 1 _ rfl
  obtain ⟨a1, h1⟩ := rd3 X enc W n1 _ y1 h1
  have c1 : Tryz.prog.cellsOf 3 = 1 := by kernel_rfl
  obtain ⟨n2, y2, h2⟩ := hf 2 _ rfl
  obtain ⟨a2, h2⟩ := rd9 X enc W n2 _ y2 h2
  have c2 : Tryz.prog.cellsOf 9 = 1 := by kernel_rfl
  obtain ⟨n3, y3, h3⟩ := hf 3 _ rfl
  obtain ⟨a3, w3, h3, R3⟩ := rd24 X enc W n3 _ y3 h3
  have c3 : Tryz.prog.cellsOf 24 = 1 := by kernel_rfl
  obtain ⟨n4, y4, h4⟩ := hf 4 _ rfl
  obtain ⟨a4, h4⟩ := rd9 X enc W n4 _ y4 h4
  have c4 : Tryz.prog.cellsOf 9 = 1 := by kernel_rfl
  have cc : Tryz.prog.cellsOf 30 = 5 := by kernel_rfl
  rw [cc] at hl
  clear h hf
  obtain ⟨u0, u1, u2, u3, u4, rfl⟩ := len5 hl
  have e0 : (([u0, u1, u2, u3, u4] : List Value).drop 0).take (Tryz.prog.cellsOf 3) = [(int a0)] := h0
  rw [c0] at e0
  have e1 : (([u0, u1, u2, u3, u4] : List Value).drop 1).take (Tryz.prog.cellsOf 3) = [(int a1)] := h1
  rw [c1] at e1
  have e2 : (([u0, u1, u2, u3, u4] : List Value).drop 2).take (Tryz.prog.cellsOf 9) = [(str a2)] := h2
  rw [c2] at e2
  have e3 : (([u0, u1, u2, u3, u4] : List Value).drop 3).take (Tryz.prog.cellsOf 24) = [w3] := h3
  rw [c3] at e3
  have e4 : (([u0, u1, u2, u3, u4] : List Value).drop 4).take (Tryz.prog.cellsOf 9) = [(str a4)] := h4
  rw [c4] at e4
  simp only [List.drop_zero, List.drop_succ_cons, List.take_succ_cons, List.take_zero, List.cons.injEq, and_true] at e0
  subst e0
  simp only [List.drop_zero, List.drop_succ_cons, List.take_succ_cons, List.take_zero, List.cons.injEq, and_true] at e1
  subst e1
  simp only [List.drop_zero, List.drop_succ_cons, List.take_succ_cons, List.take_zero, List.cons.injEq, and_true] at e2
  subst e2
  simp only [List.drop_zero, List.drop_succ_cons, List.take_succ_cons, List.take_zero, List.cons.injEq, and_true] at e3
  subst e3
  simp only [List.drop_zero, List.drop_succ_cons, List.take_succ_cons, List.take_zero, List.cons.injEq, and_true] at e4
  subst e4
  exact ⟨⟨a0, a1, a2, a3, a4⟩, _, rfl, R3⟩
theorem rd2 : Rd Tryz.prog 2 Int := Rd.int Tryz.underlying2
/-- A world for the witness: the settled one, the listed variables holding what their initialisers lay. -/
noncomputable def laidWorld (os : Os) : World :=
  let w0 := World.holding Tryz.prog os ⟨#[], #[], []⟩
  let put (h : Array Obj) (g : Nat) (cs : Array Value) : Array Obj := h.modify g fun
    | .cells _ t frozen => .cells cs t frozen
    | o => o
  let h1 := put w0.heap 3 ((Pinned.utf8FirstZ.map fun (z : Nat) => Value.int .u8 (z : Int)).toArray)
  let h2 := put h1 4 #[.int .u8 128, .int .u8 191, .int .u8 160, .int .u8 191, .int .u8 128, .int .u8 159, .int .u8 144, .int .u8 191, .int .u8 128, .int .u8 143, .int .u8 0, .int .u8 0, .int .u8 0, .int .u8 0, .int .u8 0, .int .u8 0, .int .u8 0, .int .u8 0, .int .u8 0, .int .u8 0, .int .u8 0, .int .u8 0, .int .u8 0, .int .u8 0, .int .u8 0, .int .u8 0, .int .u8 0, .int .u8 0, .int .u8 0, .int .u8 0, .int .u8 0, .int .u8 0]
  let h3 := put h2 5 #[.int .u64 1, .int .u64 10, .int .u64 100, .int .u64 1000, .int .u64 10000, .int .u64 100000, .int .u64 1000000, .int .u64 10000000, .int .u64 100000000, .int .u64 1000000000, .int .u64 10000000000, .int .u64 100000000000, .int .u64 1000000000000, .int .u64 10000000000000, .int .u64 100000000000000, .int .u64 1000000000000000, .int .u64 10000000000000000, .int .u64 100000000000000000, .int .u64 1000000000000000000, .int .u64 10000000000000000000]
  let h4 := put h3 6 #[.int .u8 0, .int .u8 1, .int .u8 28, .int .u8 2, .int .u8 29, .int .u8 14, .int .u8 24, .int .u8 3, .int .u8 30, .int .u8 22, .int .u8 20, .int .u8 15, .int .u8 25, .int .u8 17, .int .u8 4, .int .u8 8, .int .u8 31, .int .u8 27, .int .u8 13, .int .u8 23, .int .u8 21, .int .u8 19, .int .u8 16, .int .u8 7, .int .u8 26, .int .u8 12, .int .u8 18, .int .u8 6, .int .u8 11, .int .u8 5, .int .u8 10, .int .u8 9]
  let h5 := put h4 7 #[.int .u8 0, .int .u8 1, .int .u8 56, .int .u8 2, .int .u8 57, .int .u8 49, .int .u8 28, .int .u8 3, .int .u8 61, .int .u8 58, .int .u8 42, .int .u8 50, .int .u8 38, .int .u8 29, .int .u8 17, .int .u8 4, .int .u8 62, .int .u8 47, .int .u8 59, .int .u8 36, .int .u8 45, .int .u8 43, .int .u8 51, .int .u8 22, .int .u8 53, .int .u8 39, .int .u8 33, .int .u8 30, .int .u8 24, .int .u8 18, .int .u8 12, .int .u8 5, .int .u8 63, .int .u8 55, .int .u8 48, .int .u8 27, .int .u8 60, .int .u8 41, .int .u8 37, .int .u8 16, .int .u8 46, .int .u8 35, .int .u8 44, .int .u8 21, .int .u8 52, .int .u8 32, .int .u8 23, .int .u8 11, .int .u8 54, .int .u8 26, .int .u8 40, .int .u8 15, .int .u8 34, .int .u8 20, .int .u8 31, .int .u8 10, .int .u8 25, .int .u8 14, .int .u8 19, .int .u8 9, .int .u8 13, .int .u8 8, .int .u8 7, .int .u8 6]
  { w0 with heap := h5 }
theorem laid_in (os : Os) (args : Array Value) : LaidIn Tryz.prog ((laidWorld os).forCall (fun _ _ => 0) ⟨#[], args, []⟩).memory Rows.entryMakesRow.laid [6, 7, 5, 4, 3] :=
  LaidIn.of_run [6, 7, 5, 4, 3] 8 (by kernel_rfl) (by kernel_rfl) (by kernel_rfl) (by kernel_rfl)
theorem gl_of {W : World} (hL : laidMetH Tryz.prog Rows.entryMakesRow.laid W) : Tryz.Gl W := by
  have h : laidMet Tryz.prog Rows.entryMakesRow.laid W := hL
  exact ⟨tabIs_of_mem (g := 5) (t := 240) (e := 188) (n := 20) (List.mem_of_getElem? (i := 2) (by kernel_rfl : (Rows.entryMakesRow.laid)[2]? = some ("internal/strconv.uint64pow10", Lib.tabData .u64 Lib.pow10Tab))) (by kernel_rfl) (by kernel_rfl) Tryz.underlying240 Tryz.underlying188 (by kernel_rfl) (by kernel_rfl) h⟩

set_option maxRecDepth 100000 in
theorem entryMakes_calls (H : Type) (enc : TypeId × Value → H) (W : World) (base : Nat) (args : Array Value) (ds gs : List (DataW H)) (before : List MemPlace)
    (hval : ∀ (j : Nat) t v, Tryz.f5.params[j]? = some t → args[j]? = some v → Value.okWide Tryz.prog W .any base t v)
    (hW : DataW.Whole enc Tryz.prog Tryz.f5.params.toList Rows.entryMakesSpec.vars false W args.toList ds gs before) (hL : laidMetH Tryz.prog Rows.entryMakesRow.laid W) :
    Calls Tryz.prog 5 args W fun e W' => ∃ v, e = .returned v ∧ Rows.entryMakesSpec.post enc Tryz.prog Tryz.f5 false true false false W args v W' := by
  have hW' := hW
  obtain ⟨p, q, hA0, hV, rfl, hfz, hnd⟩ := hW
  have hA : DataW.TrodAll enc Tryz.prog W 0 (fun _ => true) true Tryz.f5.params.toList args.toList ds p := hA0
  rw [Tryz.params5] at hA hval
  clear hA0
  obtain ⟨v0, vs0, d0, ds0, p0, q0, hargs0, rfl, rfl, h0, hA⟩ := trodAll_cons hA
  obtain ⟨v1, vs1, d1, ds1, p1, q1, hargs1, rfl, rfl, h1, hA⟩ := trodAll_cons hA
  obtain ⟨v2, vs2, d2, ds2, p2, q2, hargs2, rfl, rfl, h2, hA⟩ := trodAll_cons hA
  obtain ⟨v3, vs3, d3, ds3, p3, q3, hargs3, rfl, rfl, h3, hA⟩ := trodAll_cons hA
  obtain ⟨hargsN, rfl, rfl⟩ := trodAll_nil hA
  obtain rfl : args = #[v0, v1, v2, v3] := by cases args; simp_all
  obtain ⟨rfl, rfl⟩ := trodVars_none hV
  obtain ⟨cs0, x0, rfl, e0⟩ := arg_struct Tryz.underlying40 rd40 (hval 0 40 v0 rfl rfl) h0
  have e0 : ∃ u0_3 : Value, cs0 = [(str x0.fMethod), (str x0.fTarget), (int x0.fMinor), u0_3, (str x0.fBody)] ∧ Sl (α := GField) (Hp.of W) u0_3 x0.fFields := e0
  obtain ⟨u0_3, rfl, S0_3⟩ := e0
  obtain ⟨cs1, x1, rfl, e1⟩ := arg_struct Tryz.underlying30 rd30 (hval 1 30 v1 rfl rfl) h1
  have e1 : ∃ u1_3 : Value, cs1 = [(int x1.fMinor), (int x1.fStatus), (str x1.fReason), u1_3, (str x1.fBody)] ∧ Sl (α := GField) (Hp.of W) u1_3 x1.fFields := e1
  obtain ⟨u1_3, rfl, S1_3⟩ := e1
  obtain ⟨x2, rfl, hwf2⟩ := arg_int Tryz.underlying2 (hval 2 2 v2 rfl rfl) h2
  obtain ⟨x3, rfl, hwf3⟩ := arg_int Tryz.underlying2 (hval 3 2 v3 rfl rfl) h3
  exact law_calls rfl laidOut (by kernel_rfl) rfl hW' ⟨rfl, rfl, rfl⟩ (by kernel_rfl) Tryz.underlying4
    ((law26_EntryMakes_ok (Holds.of W) (gl_of hL) x0 x1 x2 x3 S0_3 S1_3 (EntryMakes_true x0 x1 x2 x3)).mono fun _ _ h => h)
theorem entryMakes_reads (os : Os) {H : Type} (enc : TypeId × Value → H) : ∃ ds places, DataW.whole enc Tryz.prog ((laidWorld os).forCall (fun _ _ => 0) ⟨#[], #[.agg #[.string "".toUTF8, .string "".toUTF8, .int .i64 0, .slice none 0 0, .string "".toUTF8], .agg #[.int .i64 0, .int .i64 0, .string "".toUTF8, .slice none 0 0, .string "".toUTF8], .int .i64 0, .int .i64 0], []⟩).memory Tryz.f5.params.toList Rows.entryMakesSpec.vars false (#[.agg #[.string "".toUTF8, .string "".toUTF8, .int .i64 0, .slice none 0 0, .string "".toUTF8], .agg #[.int .i64 0, .int .i64 0, .string "".toUTF8, .slice none 0 0, .string "".toUTF8], .int .i64 0, .int .i64 0] : Array Value).toList 8 = some (ds, [], places) :=
  reads_of (by kernel_rfl)
set_option maxRecDepth 100000 in
theorem entryMakes_lifted (os : Os) (started : os.Started) (H : Type) (enc : TypeId × Value → H) (F : Stop.Interp) :
    ReturnsInHanded {} Tryz.checked os 5 .any ((OpenSpec.ofChange Rows.entryMakesSpec).preRow enc Tryz.prog Tryz.f5 Rows.entryMakesRow.domain false Rows.entryMakesRow.laid) (((OpenSpec.ofChange Rows.entryMakesSpec).at F).post enc Tryz.prog Tryz.f5 false true false false) := by
  obtain ⟨ds, places, hx⟩ := entryMakes_reads os enc
  refine returnsInHanded_of_row (C := Tryz.checked) (s := OpenSpec.ofChange Rows.entryMakesSpec) own started (by kernel_rfl) Tryz.func5
    (witness_row_at (enc := enc) (C := Tryz.checked) false (laidWorld os) #[.agg #[.string "".toUTF8, .string "".toUTF8, .int .i64 0, .slice none 0 0, .string "".toUTF8], .agg #[.int .i64 0, .int .i64 0, .string "".toUTF8, .slice none 0 0, .string "".toUTF8], .int .i64 0, .int .i64 0] rfl (by kernel_rfl) (by kernel_rfl) (by kernel_rfl)
      (OpenSpec.preRow_of_cond 8 hx (by kernel_rfl) (fun k hk => by cases hk) (by kernel_rfl) (laid_in os _).met)) ?_
  intro W base args ds gs before hval hW _ _ _ hL _ _
  exact entryMakes_calls H enc W base args ds gs before hval hW hL
theorem entryMakes_said : Rows.EntryMakesSaid :=
  OpenClaim.holds_of_cond 5 Tryz.f5 rfl rfl rfl rfl rfl rfl rfl ⟨rfl, rfl, rfl, rfl, rfl⟩ rfl rfl rfl rfl rfl (by kernel_rfl) Tryz.func5 (by kernel_rfl)
    (of_decide_eq_true (by kernel_rfl)) (by unfold Func.isWrapper; first | (rw [if_pos (by decide +kernel)]; kernel_rfl) | (rw [if_neg (by decide +kernel)]; exact ⟨rfl, rfl⟩))
    (fun os started H enc _ F => by rw [OpenClaim.pre_eq_preRow]; exact entryMakes_lifted os started H enc F)
theorem entryMakes_plain (f : FuncId) (fn : Func) (hf : Tryz.pinned.checked.prog.funcNamed Rows.entryMakesRow.func = some f) (hfn : Tryz.pinned.checked.prog.funcs[f]? = some fn) :
    true = Tryz.pinned.checked.prog.looks [] ∧ ∀ (j : Nat) t, fn.params[j]? = some t → Tryz.pinned.checked.prog.wantsStandIn t = false := by
  obtain rfl : f = 5 := Option.some.inj ((show Tryz.prog.funcNamed Rows.entryMakesRow.func = some 5 by kernel_rfl).symm.trans hf) |>.symm
  obtain rfl : fn = Tryz.f5 := (Option.some.inj (Tryz.func5.symm.trans hfn)).symm
  refine ⟨by kernel_rfl, fun j t ht => ?_⟩
  rw [Tryz.params5] at ht
  have hm := Array.mem_of_getElem? ht
  have hall : (#[40, 30, 2, 2] : Array Nat).all (fun t => !Tryz.prog.wantsStandIn t) = true := by kernel_rfl
  have := Array.all_eq_true_iff_forall_mem.1 hall t hm
  show Tryz.prog.wantsStandIn t = false
  simpa using this
theorem entryMakes_card : Rows.EntryMakesCardSaid :=
  Claim7.holds_tied_plain_at .later [] _ _ _ _ entryMakes_said (fun _ h => by cases h) (by kernel_rfl) (fun _ h => by cases h) entryMakes_row_tie rfl ⟨rfl, rfl⟩ (by kernel_rfl) rfl entryMakes_plain (by kernel_rfl)
#print axioms entryMakes_card
end Go.Proofs.YtogfdiigokidaaaGreatDoor
