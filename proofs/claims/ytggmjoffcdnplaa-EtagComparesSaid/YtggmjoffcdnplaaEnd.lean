/- The laws EtagCompares, EtagParses and EtagBack return true at every input and leave each argument as it was: no condition. -/
import Derived.Test.YtggmjoffcdnplaaRows
import Derived.Test.YtggmjoffcdnplaaGenA
import Derived.Test.YtggmjoffcdnplaaEtagP
import Derived.Test.YtggmjoffcdnplaaEng10
import Derived.ProofKit
namespace Go.Proofs.Ytggmjoffcdnplaa
open Go.ChangeShapes Go.WideShapes Go.ChangeAt Go.RowKit Go.Eng Go.Eng.Pure
theorem own : ownKnob Try.prog.godebug = none := by kernel_rfl
theorem laidOut : laidOutB Try.prog = true := by kernel_rfl
theorem rdETag : Rd Try.prog 23 GETag := by
  intro X enc W fuel cs x h
  obtain ⟨hl, hf⟩ := Rd.field Try.underlying23 h
  obtain ⟨n0, y0, h0⟩ := hf 0 _ rfl
  obtain ⟨n1, y1, h1⟩ := hf 1 _ rfl
  obtain ⟨a0, h0⟩ := Rd.bool Try.underlying4 X enc W n0 _ y0 h0
  obtain ⟨a1, h1⟩ := Rd.str Try.underlying9 X enc W n1 _ y1 h1
  have c0 : Try.prog.cellsOf 4 = 1 := by kernel_rfl
  have c1 : Try.prog.cellsOf 9 = 1 := by kernel_rfl
  have c2 : Try.prog.cellsOf 23 = 2 := by kernel_rfl
  rw [c2] at hl
  match cs, hl with
  | [u0, u1], _ =>
    have e0 : (([u0, u1] : List Value).drop 0).take (Try.prog.cellsOf 4) = [boo a0] := h0
    have e1 : (([u0, u1] : List Value).drop 1).take (Try.prog.cellsOf 9) = [str a1] := h1
    rw [c0] at e0; rw [c1] at e1
    simp at e0 e1
    subst e0; subst e1
    exact ⟨⟨a0, a1⟩, rfl⟩

theorem etagCompares_calls (H : Type) (enc : TypeId × Value → H) (W : World) (base : Nat) (args : Array Value) (ds gs : List (DataW H)) (before : List MemPlace)
    (hval : ∀ (j : Nat) t v, Try.f3.params[j]? = some t → args[j]? = some v → Value.okWide Try.prog W .any base t v)
    (hW : DataW.Whole enc Try.prog Try.f3.params.toList Rows.etagComparesSpec.vars false W args.toList ds gs before) :
    Calls Try.prog 3 args W fun e W' => ∃ v, e = .returned v ∧ Rows.etagComparesSpec.post enc Try.prog Try.f3 false true false false W args v W' := by
  have hW' := hW
  obtain ⟨p, q, hA0, hV, rfl, hfz, hnd⟩ := hW
  have hA : DataW.TrodAll enc Try.prog W 0 (fun _ => true) true Try.f3.params.toList args.toList ds p := hA0
  rw [Try.params3] at hA hval
  obtain ⟨v0, v1, d0, d1, p0, p1, rfl, rfl, rfl, h0, h1⟩ := trodAll_two hA
  obtain ⟨rfl, rfl⟩ := trodVars_none hV
  obtain ⟨cs0, x, rfl, e0⟩ := arg_struct Try.underlying23 rdETag (hval 0 23 v0 rfl rfl) h0
  have e0 : cs0 = [(boo x.fWeak), (str x.fTag)] := e0
  subst e0
  obtain ⟨cs1, y, rfl, e1⟩ := arg_struct Try.underlying23 rdETag (hval 1 23 v1 rfl rfl) h1
  have e1 : cs1 = [(boo y.fWeak), (str y.fTag)] := e1
  subst e1
  exact law_calls rfl laidOut (by kernel_rfl) rfl hW' ⟨rfl, rfl, rfl⟩ (by kernel_rfl) Try.underlying4
    ((law21_EtagCompares_ok (Holds.of W) x y (EtagCompares_true x y)).mono fun _ _ h => h)
set_option maxRecDepth 100000 in
theorem etagCompares_lifted (os : Os) (started : os.Started) (H : Type) (enc : TypeId × Value → H) :
    ReturnsInHanded {} Try.checked os 3 .any (Rows.etagComparesSpec.pre6 enc Try.prog Try.f3 Rows.etagComparesRow.domain false) (Rows.etagComparesSpec.post enc Try.prog Try.f3 false true false false) := by
  refine returnsInHanded_of_change (C := Try.checked) own started (by kernel_rfl) Try.func3
    (ChangeSpec.witness6 (enc := enc) (C := Try.checked) false ⟨#[], #[.agg #[.bool false, .string "".toUTF8], .agg #[.bool false, .string "".toUTF8]], []⟩ 8 (by kernel_rfl) (by kernel_rfl) (by kernel_rfl) (by kernel_rfl)) ?_
  intro W base args ds gs before hval hW _ _
  exact etagCompares_calls H enc W base args ds gs before hval hW
theorem etagCompares_holds : Rows.EtagComparesSaid :=
  OpenClaim.holds_of_wide 3 Try.f3 rfl rfl rfl rfl rfl rfl rfl ⟨rfl, rfl, rfl, rfl, rfl⟩ rfl rfl rfl rfl rfl (by kernel_rfl) Try.func3 (by kernel_rfl)
    (of_decide_eq_true (by kernel_rfl)) (by unfold Func.isWrapper; first | (rw [if_pos (by decide +kernel)]; kernel_rfl) | (rw [if_neg (by decide +kernel)]; exact ⟨rfl, rfl⟩))
    (fun os started H enc _ => etagCompares_lifted os started H enc)

theorem etagParses_calls (H : Type) (enc : TypeId × Value → H) (W : World) (base : Nat) (args : Array Value) (ds gs : List (DataW H)) (before : List MemPlace)
    (hval : ∀ (j : Nat) t v, Try.f4.params[j]? = some t → args[j]? = some v → Value.okWide Try.prog W .any base t v)
    (hW : DataW.Whole enc Try.prog Try.f4.params.toList Rows.etagParsesSpec.vars false W args.toList ds gs before) :
    Calls Try.prog 4 args W fun e W' => ∃ v, e = .returned v ∧ Rows.etagParsesSpec.post enc Try.prog Try.f4 false true false false W args v W' := by
  have hW' := hW
  obtain ⟨p, q, hA0, hV, rfl, hfz, hnd⟩ := hW
  have hA : DataW.TrodAll enc Try.prog W 0 (fun _ => true) true Try.f4.params.toList args.toList ds p := hA0
  rw [Try.params4] at hA hval
  obtain ⟨v0, v1, d0, d1, p0, p1, rfl, rfl, rfl, h0, h1⟩ := trodAll_two hA
  obtain ⟨rfl, rfl⟩ := trodVars_none hV
  obtain ⟨s, rfl⟩ := arg_str Try.underlying9 (hval 0 9 v0 rfl rfl) h0
  obtain ⟨cs1, e, rfl, e1⟩ := arg_struct Try.underlying23 rdETag (hval 1 23 v1 rfl rfl) h1
  have e1 : cs1 = [(boo e.fWeak), (str e.fTag)] := e1
  subst e1
  exact law_calls rfl laidOut (by kernel_rfl) rfl hW' ⟨rfl, rfl, rfl⟩ (by kernel_rfl) Try.underlying4
    ((law21_EtagParses_ok (Holds.of W) s e (EtagParses_true s e)).mono fun _ _ h => h)
set_option maxRecDepth 100000 in
theorem etagParses_lifted (os : Os) (started : os.Started) (H : Type) (enc : TypeId × Value → H) :
    ReturnsInHanded {} Try.checked os 4 .any (Rows.etagParsesSpec.pre6 enc Try.prog Try.f4 Rows.etagParsesRow.domain false) (Rows.etagParsesSpec.post enc Try.prog Try.f4 false true false false) := by
  refine returnsInHanded_of_change (C := Try.checked) own started (by kernel_rfl) Try.func4
    (ChangeSpec.witness6 (enc := enc) (C := Try.checked) false ⟨#[], #[.string "".toUTF8, .agg #[.bool false, .string "".toUTF8]], []⟩ 8 (by kernel_rfl) (by kernel_rfl) (by kernel_rfl) (by kernel_rfl)) ?_
  intro W base args ds gs before hval hW _ _
  exact etagParses_calls H enc W base args ds gs before hval hW
theorem etagParses_holds : Rows.EtagParsesSaid :=
  OpenClaim.holds_of_wide 4 Try.f4 rfl rfl rfl rfl rfl rfl rfl ⟨rfl, rfl, rfl, rfl, rfl⟩ rfl rfl rfl rfl rfl (by kernel_rfl) Try.func4 (by kernel_rfl)
    (of_decide_eq_true (by kernel_rfl)) (by unfold Func.isWrapper; first | (rw [if_pos (by decide +kernel)]; kernel_rfl) | (rw [if_neg (by decide +kernel)]; exact ⟨rfl, rfl⟩))
    (fun os started H enc _ => etagParses_lifted os started H enc)

theorem etagBack_calls (H : Type) (enc : TypeId × Value → H) (W : World) (base : Nat) (args : Array Value) (ds gs : List (DataW H)) (before : List MemPlace)
    (hval : ∀ (j : Nat) t v, Try.f5.params[j]? = some t → args[j]? = some v → Value.okWide Try.prog W .any base t v)
    (hW : DataW.Whole enc Try.prog Try.f5.params.toList Rows.etagBackSpec.vars false W args.toList ds gs before) :
    Calls Try.prog 5 args W fun e W' => ∃ v, e = .returned v ∧ Rows.etagBackSpec.post enc Try.prog Try.f5 false true false false W args v W' := by
  have hW' := hW
  obtain ⟨p, q, hA0, hV, rfl, hfz, hnd⟩ := hW
  have hA : DataW.TrodAll enc Try.prog W 0 (fun _ => true) true Try.f5.params.toList args.toList ds p := hA0
  rw [Try.params5] at hA hval
  obtain ⟨v0, v1, d0, d1, p0, p1, rfl, rfl, rfl, h0, h1⟩ := trodAll_two hA
  obtain ⟨rfl, rfl⟩ := trodVars_none hV
  obtain ⟨s, rfl⟩ := arg_str Try.underlying9 (hval 0 9 v0 rfl rfl) h0
  obtain ⟨cs1, e, rfl, e1⟩ := arg_struct Try.underlying23 rdETag (hval 1 23 v1 rfl rfl) h1
  have e1 : cs1 = [(boo e.fWeak), (str e.fTag)] := e1
  subst e1
  exact law_calls rfl laidOut (by kernel_rfl) rfl hW' ⟨rfl, rfl, rfl⟩ (by kernel_rfl) Try.underlying4
    ((law21_EtagBack_ok (Holds.of W) s e (EtagBack_true s e)).mono fun _ _ h => h)
set_option maxRecDepth 100000 in
theorem etagBack_lifted (os : Os) (started : os.Started) (H : Type) (enc : TypeId × Value → H) :
    ReturnsInHanded {} Try.checked os 5 .any (Rows.etagBackSpec.pre6 enc Try.prog Try.f5 Rows.etagBackRow.domain false) (Rows.etagBackSpec.post enc Try.prog Try.f5 false true false false) := by
  refine returnsInHanded_of_change (C := Try.checked) own started (by kernel_rfl) Try.func5
    (ChangeSpec.witness6 (enc := enc) (C := Try.checked) false ⟨#[], #[.string "".toUTF8, .agg #[.bool false, .string "".toUTF8]], []⟩ 8 (by kernel_rfl) (by kernel_rfl) (by kernel_rfl) (by kernel_rfl)) ?_
  intro W base args ds gs before hval hW _ _
  exact etagBack_calls H enc W base args ds gs before hval hW
theorem etagBack_holds : Rows.EtagBackSaid :=
  OpenClaim.holds_of_wide 5 Try.f5 rfl rfl rfl rfl rfl rfl rfl ⟨rfl, rfl, rfl, rfl, rfl⟩ rfl rfl rfl rfl rfl (by kernel_rfl) Try.func5 (by kernel_rfl)
    (of_decide_eq_true (by kernel_rfl)) (by unfold Func.isWrapper; first | (rw [if_pos (by decide +kernel)]; kernel_rfl) | (rw [if_neg (by decide +kernel)]; exact ⟨rfl, rfl⟩))
    (fun os started H enc _ => etagBack_lifted os started H enc)
#print axioms etagCompares_holds
#print axioms etagParses_holds
#print axioms etagBack_holds
end Go.Proofs.Ytggmjoffcdnplaa
