/- The law EtagLines returns true at every input and leaves each argument as it was; condition: the listed package-level variables start as the program's text lays them (tied). -/
import Derived.Test.YtggmjoffcdnplaaDoorCards
import Derived.Test.YtggmjoffcdnplaaDoorTie
import Derived.Test.YtggmjoffcdnplaaDoorGenB5
import Derived.Test.YtggmjoffcdnplaaDoorEtagLaw
import Derived.Test.YtggmjoffcdnplaaDoorEng12
import Derived.ProofKit
import Derived.OpenShut
import Derived.Deep.DeepHandedRow
import Derived.Lib.LaidIn
namespace Go.Proofs.YtggmjoffcdnplaaDoor
open Go.ChangeShapes Go.WideShapes Go.ChangeAt Go.RowKit Go.Eng Go.Eng.Pure
theorem own : ownKnob Tryd.prog.godebug = none := by kernel_rfl
theorem laidOut : laidOutB Tryd.prog = true := by kernel_rfl
theorem rd9 : Rd Tryd.prog 9 Str := Rd.str Tryd.underlying9
theorem rd31 : Rd Tryd.prog 31 (List Str) := fun X enc W fuel cs x h => by
  obtain ⟨v, a, h1, h2⟩ := Rd.list (α := Str) (by kernel_rfl) Tryd.underlying31 rd9 X enc W fuel cs x h
  exact ⟨a, v, h1, h2⟩
theorem rd3 : Rd Tryd.prog 3 Int := Rd.int Tryd.underlying3
/-- A world for the witness: the settled one, the listed variables holding what their initialisers lay. -/
noncomputable def laidWorld (os : Os) : World :=
  let w0 := World.holding Tryd.prog os ⟨#[], #[], []⟩
  let put (h : Array Obj) (g : Nat) (cs : Array Value) : Array Obj := h.modify g fun
    | .cells _ t frozen => .cells cs t frozen
    | o => o
  let h1 := put w0.heap 1 ((Pinned.utf8FirstZ.map fun (z : Nat) => Value.int .u8 (z : Int)).toArray)
  let h2 := put h1 2 #[.int .u8 128, .int .u8 191, .int .u8 160, .int .u8 191, .int .u8 128, .int .u8 159, .int .u8 144, .int .u8 191, .int .u8 128, .int .u8 143, .int .u8 0, .int .u8 0, .int .u8 0, .int .u8 0, .int .u8 0, .int .u8 0, .int .u8 0, .int .u8 0, .int .u8 0, .int .u8 0, .int .u8 0, .int .u8 0, .int .u8 0, .int .u8 0, .int .u8 0, .int .u8 0, .int .u8 0, .int .u8 0, .int .u8 0, .int .u8 0, .int .u8 0, .int .u8 0]
  { w0 with heap := h2 }
theorem laid_in (os : Os) (args : Array Value) : LaidIn Tryd.prog ((laidWorld os).forCall (fun _ _ => 0) ⟨#[], args, []⟩).memory Rows.etagLinesRow.laid [2, 1] :=
  LaidIn.of_run [2, 1] 8 (by kernel_rfl) (by kernel_rfl) (by kernel_rfl) (by kernel_rfl)

theorem etagLines_calls (H : Type) (enc : TypeId × Value → H) (W : World) (base : Nat) (args : Array Value) (ds gs : List (DataW H)) (before : List MemPlace)
    (hval : ∀ (j : Nat) t v, Tryd.f10.params[j]? = some t → args[j]? = some v → Value.okWide Tryd.prog W .any base t v)
    (hW : DataW.Whole enc Tryd.prog Tryd.f10.params.toList Rows.etagLinesSpec.vars false W args.toList ds gs before) :
    Calls Tryd.prog 10 args W fun e W' => ∃ v, e = .returned v ∧ Rows.etagLinesSpec.post enc Tryd.prog Tryd.f10 false true false false W args v W' := by
  have hW' := hW
  obtain ⟨p, q, hA0, hV, rfl, hfz, hnd⟩ := hW
  have hA : DataW.TrodAll enc Tryd.prog W 0 (fun _ => true) true Tryd.f10.params.toList args.toList ds p := hA0
  rw [Tryd.params10] at hA hval
  clear hA0
  obtain ⟨v0, vs0, d0, ds0, p0, q0, hargs0, rfl, rfl, h0, hA⟩ := trodAll_cons hA
  obtain ⟨v1, vs1, d1, ds1, p1, q1, hargs1, rfl, rfl, h1, hA⟩ := trodAll_cons hA
  obtain ⟨hargsN, rfl, rfl⟩ := trodAll_nil hA
  obtain rfl : args = #[v0, v1] := by cases args; simp_all
  obtain ⟨rfl, rfl⟩ := trodVars_none hV
  obtain ⟨x0, R0⟩ := arg_slice (α := Str) Tryd.underlying31 (by kernel_rfl) rd9 (hval 0 31 v0 rfl rfl) h0
  obtain ⟨x1, rfl, hwf1⟩ := arg_int Tryd.underlying3 (hval 1 3 v1 rfl rfl) h1
  exact law_calls rfl laidOut (by kernel_rfl) rfl hW' ⟨rfl, rfl, rfl⟩ (by kernel_rfl) Tryd.underlying4
    ((law21_EtagLines_ok (Holds.of W) x0 x1 R0 (EtagLines_true x0 x1)).mono fun _ _ h => h)
theorem etagLines_reads (os : Os) {H : Type} (enc : TypeId × Value → H) : ∃ ds places, DataW.whole enc Tryd.prog ((laidWorld os).forCall (fun _ _ => 0) ⟨#[], #[.slice none 0 0, .int .i64 0], []⟩).memory Tryd.f10.params.toList Rows.etagLinesSpec.vars false (#[.slice none 0 0, .int .i64 0] : Array Value).toList 8 = some (ds, [], places) :=
  reads_of (by kernel_rfl)
set_option maxRecDepth 100000 in
theorem etagLines_lifted (os : Os) (started : os.Started) (H : Type) (enc : TypeId × Value → H) (F : Stop.Interp) :
    ReturnsInHanded {} Tryd.checked os 10 .any ((OpenSpec.ofChange Rows.etagLinesSpec).preRow enc Tryd.prog Tryd.f10 Rows.etagLinesRow.domain false Rows.etagLinesRow.laid) (((OpenSpec.ofChange Rows.etagLinesSpec).at F).post enc Tryd.prog Tryd.f10 false true false false) := by
  obtain ⟨ds, places, hx⟩ := etagLines_reads os enc
  refine returnsInHanded_of_row (C := Tryd.checked) (s := OpenSpec.ofChange Rows.etagLinesSpec) own started (by kernel_rfl) Tryd.func10
    (witness_row_at (enc := enc) (C := Tryd.checked) false (laidWorld os) #[.slice none 0 0, .int .i64 0] rfl (by kernel_rfl) (by kernel_rfl) (by kernel_rfl)
      (OpenSpec.preRow_of_cond 8 hx (by kernel_rfl) (fun k hk => by cases hk) (by kernel_rfl) (laid_in os _).met)) ?_
  intro W base args ds gs before hval hW _ _ _ hL _ _
  exact etagLines_calls H enc W base args ds gs before hval hW
theorem etagLines_said : Rows.EtagLinesSaid :=
  OpenClaim.holds_of_cond 10 Tryd.f10 rfl rfl rfl rfl rfl rfl rfl ⟨rfl, rfl, rfl, rfl, rfl⟩ rfl rfl rfl rfl rfl (by kernel_rfl) Tryd.func10 (by kernel_rfl)
    (of_decide_eq_true (by kernel_rfl)) (by unfold Func.isWrapper; first | (rw [if_pos (by decide +kernel)]; kernel_rfl) | (rw [if_neg (by decide +kernel)]; exact ⟨rfl, rfl⟩))
    (fun os started H enc _ F => by rw [OpenClaim.pre_eq_preRow]; exact etagLines_lifted os started H enc F)
theorem etagLines_plain (f : FuncId) (fn : Func) (hf : Tryd.pinned.checked.prog.funcNamed Rows.etagLinesRow.func = some f) (hfn : Tryd.pinned.checked.prog.funcs[f]? = some fn) :
    false = Tryd.pinned.checked.prog.looks [] ∧ ∀ (j : Nat) t, fn.params[j]? = some t → Tryd.pinned.checked.prog.wantsStandIn t = false := by
  obtain rfl : f = 10 := Option.some.inj ((show Tryd.prog.funcNamed Rows.etagLinesRow.func = some 10 by kernel_rfl).symm.trans hf) |>.symm
  obtain rfl : fn = Tryd.f10 := (Option.some.inj (Tryd.func10.symm.trans hfn)).symm
  refine ⟨by kernel_rfl, fun j t ht => ?_⟩
  rw [Tryd.params10] at ht
  have hm := Array.mem_of_getElem? ht
  have hall : (#[31, 3] : Array Nat).all (fun t => !Tryd.prog.wantsStandIn t) = true := by kernel_rfl
  have := Array.all_eq_true_iff_forall_mem.1 hall t hm
  show Tryd.prog.wantsStandIn t = false
  simpa using this
theorem etagLines_card : Rows.EtagLinesCardSaid :=
  Claim7.holds_tied_plain_at .later [] _ _ _ _ etagLines_said (fun _ h => by cases h) (by kernel_rfl) (fun _ h => by cases h) etagLines_row_tie rfl ⟨rfl, rfl⟩ (by kernel_rfl) rfl etagLines_plain (by kernel_rfl)
#print axioms etagLines_card
end Go.Proofs.YtggmjoffcdnplaaDoor
