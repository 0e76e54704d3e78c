/- A part of the proof of laws of the seat: written by program over the translation. -/
import Derived.Test.YtmeemcjmhbgbdaaGreatDoorPure1
namespace Go.Eng.Pure
open Go Go.Eng
set_option linter.unusedVariables false
/-- variantproxy/vary.Names -/
noncomputable def vary_Names_L0 (r1 : (List Str)) : ((List Str) × Int) → Option (((List Str) × Int) ⊕ ((List Str) ⊕ ((List Str) × Bool)))
  | (out_9, y_15) =>
    (bif decide (y_15 < (r1.length : Int)) then
      (xnth r1 y_15).bind fun x28 =>
      (ascii_Token x28).bind fun r31 =>
      (bif ((!r31) || (x28 == [42])) then
        some (.inr (.inr (([] : List Str), false)))
      else
        (ascii_Lower x28).bind fun r39 =>
        (xapp out_9 ([r39] : List Str)).bind fun l49 =>
        some (.inl (l49, wr (y_15 + 1))))
    else
      some (.inr (.inl out_9)))
noncomputable def vary_Names (p_l : (List GField)) : Option ((List Str) × Bool) :=
  (list_All p_l [86, 97, 114, 121]).bind fun r1 =>
  (bif decide (64 ≤ (r1.length : Int)) then
    some (([] : List Str), false)
  else
    (whileO (vary_Names_L0 r1) (([] : List Str), 0)).bind fun r25 => match r25 with
    | .inr e => some e
    | .inl out_18 =>
      (slices_Sort_string out_18).bind fun l55 =>
      (slices_Compact_string l55).bind fun l61 =>
      some (l61, true))
/-- variantproxy/storable.Validator -/
noncomputable def storable_Validator (p_l : (List GField)) : Option Bool :=
  (etag_Of p_l).bind fun r1 =>
  (bif r1.2 then
    some true
  else
    (fieldline_First p_l [76, 97, 115, 116, 45, 77, 111, 100, 105, 102, 105, 101, 100]).bind fun r10 =>
    (date_Parse r10.1).bind fun r15 =>
    some r15.2)
/-- variantproxy/storable.Storable -/
noncomputable def storable_Storable (p_ppend : GRequest) (p_x1 : GResponse) : Option Bool :=
  (bif ((p_ppend.fMethod != [71, 69, 84]) || (p_x1.fStatus != 200)) then
    some false
  else
    (cachecontrol_Response p_x1.fFields).bind fun r8 =>
    (bif (r8.fNoStore || r8.fPrivate) then
      some true
    else
      (cachecontrol_Request p_ppend.fFields).bind fun r20 =>
      some (r20.fNoStore)).bind fun b25 =>
    (bif b25 then
      some false
    else
      (vary_Names p_x1.fFields).bind fun r30 =>
      (bif !r30.2 then
        some false
      else
        (fieldline_Has p_ppend.fFields [82, 97, 110, 103, 101]).bind fun r38 =>
        (bif r38 then
          some false
        else
          (fieldline_Has p_ppend.fFields [65, 117, 116, 104, 111, 114, 105, 122, 97, 116, 105, 111, 110]).bind fun r44 =>
          (bif (((r44 && (!r8.fMustRevalidate)) && (!r8.fPublic)) && (r8.fSMaxAge == (-1))) then
            some false
          else
            (freshness_Lifetime p_x1.fFields).bind fun r56 =>
            (bif decide (0 < r56) then
              some true
            else
              (storable_Validator p_x1.fFields).bind fun r63 =>
              some (r63)).bind fun b68 =>
            some b68)))))
/-- variantproxy/storable.Unsafe -/
noncomputable def storable_Unsafe (p_method : Str) : Option Bool :=
  some ((((p_method != [71, 69, 84]) && (p_method != [72, 69, 65, 68])) && (p_method != [79, 80, 84, 73, 79, 78, 83])) && (p_method != [84, 82, 65, 67, 69]))
/-- variantproxy/variantproxylaw24.awake -/
noncomputable def law24_awake : Option Bool :=
  (storable_Storable (⟨[71, 69, 84], [], 0, ([] : List GField), []⟩ : GRequest) (⟨0, 200, [], ([(⟨[67, 97, 99, 104, 101, 45, 67, 111, 110, 116, 114, 111, 108], [109, 97, 120, 45, 97, 103, 101, 61, 49]⟩ : GField)] : List GField), []⟩ : GResponse)).bind fun r12 =>
  (bif r12 then
    (storable_Storable (⟨[71, 69, 84], [], 0, ([] : List GField), []⟩ : GRequest) (⟨0, 200, [], ([] : List GField), []⟩ : GResponse)).bind fun r19 =>
    some (!r19)
  else
    some false).bind fun b24 =>
  (bif b24 then
    (storable_Unsafe [80, 79, 83, 84]).bind fun r30 =>
    some (r30)
  else
    some false).bind fun b35 =>
  some b35
/-- variantproxy/variantproxyref19.Validator -/
noncomputable def ref19_Validator (p_l : (List GField)) : Option Bool :=
  (ref19_ETagOf p_l).bind fun r1 =>
  (ref19_firstDate p_l [76, 97, 115, 116, 45, 77, 111, 100, 105, 102, 105, 101, 100]).bind fun r9 =>
  some (r1.2 || r9.2)
/-- variantproxy/variantproxyref19.Unsafe -/
noncomputable def ref19_Unsafe (p_method : Str) : Option Bool :=
  some ((((p_method != [71, 69, 84]) && (p_method != [72, 69, 65, 68])) && (p_method != [79, 80, 84, 73, 79, 78, 83])) && (p_method != [84, 82, 65, 67, 69]))
/-- variantproxy/variantproxylaw24.StorableParts -/
noncomputable def law24_StorableParts (p_l : (List GField)) (p_method : Str) : Option Bool :=
  (keep_Fields p_l).bind fun r1 =>
  (bif ((!r1) || (decide (100 < (p_method.length : Int)))) then
    some true
  else
    (storable_Validator p_l).bind fun r9 =>
    (ref19_Validator p_l).bind fun r14 =>
    (bif r9 == r14 then
      (storable_Unsafe p_method).bind fun r21 =>
      (ref19_Unsafe p_method).bind fun r26 =>
      some (r21 == r26)
    else
      some false).bind fun b31 =>
    (bif b31 then
      (law24_awake).bind fun r37 =>
      some (r37)
    else
      some false).bind fun b42 =>
    some b42)
end Go.Eng.Pure
