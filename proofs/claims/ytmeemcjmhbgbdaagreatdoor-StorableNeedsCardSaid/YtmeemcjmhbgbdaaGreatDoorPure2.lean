/- A part of the proof of laws of the seat: written by program over the translation. -/
import Derived.Test.YtmeemcjmhbgbdaaGreatDoorPure1
namespace Go.Eng.Pure
open Go Go.Eng
set_option linter.unusedVariables false
/-- variantproxy/vary.Names -/
noncomputable def vary_Names_L0 (r1 : (List Str)) : ((List Str) × Int) → Option (((List Str) × Int) ⊕ ((List Str) ⊕ ((List Str) × Bool)))
  | (out_9, y_15) =>
    (bif decide (y_15 < (r1.length : Int)) then
      (xnth r1 y_15).bind fun x28 =>
      (ascii_Token x28).bind fun r31 =>
      (bif ((!r31) || (x28 == [42])) then
        some (.inr (.inr (([] : List Str), false)))
      else
        (ascii_Lower x28).bind fun r39 =>
        (xapp out_9 ([r39] : List Str)).bind fun l49 =>
        some (.inl (l49, wr (y_15 + 1))))
    else
      some (.inr (.inl out_9)))
noncomputable def vary_Names (p_l : (List GField)) : Option ((List Str) × Bool) :=
  (list_All p_l [86, 97, 114, 121]).bind fun r1 =>
  (bif decide (64 ≤ (r1.length : Int)) then
    some (([] : List Str), false)
  else
    (whileO (vary_Names_L0 r1) (([] : List Str), 0)).bind fun r25 => match r25 with
    | .inr e => some e
    | .inl out_18 =>
      (slices_Sort_string out_18).bind fun l55 =>
      (slices_Compact_string l55).bind fun l61 =>
      some (l61, true))
/-- variantproxy/variantproxykeep.Request -/
noncomputable def keep_Request (p_q : GRequest) : Option Bool :=
  (bif ((decide ((p_q.fMethod.length : Int) ≤ 100)) && (decide ((p_q.fTarget.length : Int) ≤ 2100))) then
    (keep_Fields p_q.fFields).bind fun r7 =>
    some (r7)
  else
    some false).bind fun b12 =>
  some (b12 && (decide ((p_q.fBody.length : Int) ≤ 2000)))
/-- variantproxy/variantproxykeep.Response -/
noncomputable def keep_Response (p_r : GResponse) : Option Bool :=
  (bif decide ((p_r.fReason.length : Int) ≤ 2100) then
    (keep_Fields p_r.fFields).bind fun r5 =>
    some (r5)
  else
    some false).bind fun b10 =>
  some (b10 && (decide ((p_r.fBody.length : Int) ≤ 2000)))
/-- variantproxy/storable.Validator -/
noncomputable def storable_Validator (p_l : (List GField)) : Option Bool :=
  (etag_Of p_l).bind fun r1 =>
  (bif r1.2 then
    some true
  else
    (fieldline_First p_l [76, 97, 115, 116, 45, 77, 111, 100, 105, 102, 105, 101, 100]).bind fun r10 =>
    (date_Parse r10.1).bind fun r15 =>
    some r15.2)
/-- variantproxy/storable.Storable -/
noncomputable def storable_Storable (p_ppend : GRequest) (p_x1 : GResponse) : Option Bool :=
  (bif ((p_ppend.fMethod != [71, 69, 84]) || (p_x1.fStatus != 200)) then
    some false
  else
    (cachecontrol_Response p_x1.fFields).bind fun r8 =>
    (bif (r8.fNoStore || r8.fPrivate) then
      some true
    else
      (cachecontrol_Request p_ppend.fFields).bind fun r20 =>
      some (r20.fNoStore)).bind fun b25 =>
    (bif b25 then
      some false
    else
      (vary_Names p_x1.fFields).bind fun r30 =>
      (bif !r30.2 then
        some false
      else
        (fieldline_Has p_ppend.fFields [82, 97, 110, 103, 101]).bind fun r38 =>
        (bif r38 then
          some false
        else
          (fieldline_Has p_ppend.fFields [65, 117, 116, 104, 111, 114, 105, 122, 97, 116, 105, 111, 110]).bind fun r44 =>
          (bif (((r44 && (!r8.fMustRevalidate)) && (!r8.fPublic)) && (r8.fSMaxAge == (-1))) then
            some false
          else
            (freshness_Lifetime p_x1.fFields).bind fun r56 =>
            (bif decide (0 < r56) then
              some true
            else
              (storable_Validator p_x1.fFields).bind fun r63 =>
              some (r63)).bind fun b68 =>
            some b68)))))
/-- variantproxy/storable.Unsafe -/
noncomputable def storable_Unsafe (p_method : Str) : Option Bool :=
  some ((((p_method != [71, 69, 84]) && (p_method != [72, 69, 65, 68])) && (p_method != [79, 80, 84, 73, 79, 78, 83])) && (p_method != [84, 82, 65, 67, 69]))
/-- variantproxy/variantproxylaw24.awake -/
noncomputable def law24_awake : Option Bool :=
  (storable_Storable (⟨[71, 69, 84], [], 0, ([] : List GField), []⟩ : GRequest) (⟨0, 200, [], ([(⟨[67, 97, 99, 104, 101, 45, 67, 111, 110, 116, 114, 111, 108], [109, 97, 120, 45, 97, 103, 101, 61, 49]⟩ : GField)] : List GField), []⟩ : GResponse)).bind fun r12 =>
  (bif r12 then
    (storable_Storable (⟨[71, 69, 84], [], 0, ([] : List GField), []⟩ : GRequest) (⟨0, 200, [], ([] : List GField), []⟩ : GResponse)).bind fun r19 =>
    some (!r19)
  else
    some false).bind fun b24 =>
  (bif b24 then
    (storable_Unsafe [80, 79, 83, 84]).bind fun r30 =>
    some (r30)
  else
    some false).bind fun b35 =>
  some b35
/-- variantproxy/variantproxylaw24.StorableNeeds -/
noncomputable def law24_StorableNeeds (p_q : GRequest) (p_r : GResponse) : Option Bool :=
  (keep_Request p_q).bind fun r5 =>
  (bif !r5 then
    some true
  else
    (keep_Response p_r).bind fun r12 =>
    some (!r12)).bind fun b17 =>
  (bif b17 then
    some true
  else
    (storable_Storable p_q p_r).bind fun r22 =>
    (bif !r22 then
      (law24_awake).bind fun r28 =>
      some r28
    else
      (bif ((p_q.fMethod == [71, 69, 84]) && (p_r.fStatus == 200)) then
        (ref19_Lifetime p_r.fFields).bind fun r37 =>
        (bif decide (0 < r37) then
          some true
        else
          (storable_Validator p_r.fFields).bind fun r44 =>
          some (r44)).bind fun b49 =>
        some (b49)
      else
        some false).bind fun b53 =>
      (bif b53 then
        (storable_Unsafe p_q.fMethod).bind fun r59 =>
        some (!r59)
      else
        some false).bind fun b64 =>
      (bif b64 then
        (law24_awake).bind fun r70 =>
        some (r70)
      else
        some false).bind fun b75 =>
      some b75))
end Go.Eng.Pure
