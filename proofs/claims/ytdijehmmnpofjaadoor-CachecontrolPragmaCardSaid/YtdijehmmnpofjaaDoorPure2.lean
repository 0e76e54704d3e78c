/- A part of the proof of laws of the seat: written by program over the translation. -/
import Derived.Test.YtdijehmmnpofjaaDoorPure1
namespace Go.Eng.Pure
open Go Go.Eng
set_option linter.unusedVariables false
/-- slices.Equal[[]variantproxy/api.Field,variantproxy/api.Field] -/
noncomputable def slices_Equal_api_Field_api_Field_L0 (p_s1 : (List GField)) (p_s2 : (List GField)) (y_6 : Int) : Option (Int ⊕ (Unit ⊕ Bool)) :=
    (bif decide (y_6 < (p_s1.length : Int)) then
      (xnth p_s1 y_6).bind fun x18 =>
      (xnth p_s2 y_6).bind fun x21 =>
      (bif (!((x18.fName == x21.fName) && ((x18.fValue == x21.fValue) && true))) then
        some (.inr (.inr false))
      else
        some (.inl (wr (y_6 + 1))))
    else
      some (.inr (.inl ())))
noncomputable def slices_Equal_api_Field_api_Field (p_s1 : (List GField)) (p_s2 : (List GField)) : Option Bool :=
  (bif (p_s1.length : Int) != (p_s2.length : Int) then
    some false
  else
    (whileO (slices_Equal_api_Field_api_Field_L0 p_s1 p_s2) 0).bind fun r12 => match r12 with
    | .inr e => some e
    | .inl _ =>
      some true)
/-- variantproxy/variantproxyref26.SameKeys -/
noncomputable def ref26_SameKeys_L0 (p_a : (List (List Str))) (p_b : (List (List Str))) (i_5 : Int) : Option (Int ⊕ (Unit ⊕ Bool)) :=
    (bif decide (i_5 < (p_a.length : Int)) then
      (xnth p_a i_5).bind fun x17 =>
      (xnth p_b i_5).bind fun x22 =>
      (ref10_SameStrings x17 x22).bind fun r27 =>
      (bif !r27 then
        some (.inr (.inr false))
      else
        some (.inl (wr (i_5 + 1))))
    else
      some (.inr (.inl ())))
noncomputable def ref26_SameKeys (p_a : (List (List Str))) (p_b : (List (List Str))) : Option Bool :=
  (bif (p_a.length : Int) != (p_b.length : Int) then
    some false
  else
    (whileO (ref26_SameKeys_L0 p_a p_b) 0).bind fun r11 => match r11 with
    | .inr e => some e
    | .inl _ =>
      some true)
/-- variantproxy/variantproxyref26.SameFields -/
noncomputable def ref26_SameFields_L0 (p_a : (List GField)) (p_b : (List GField)) (i_5 : Int) : Option (Int ⊕ (Unit ⊕ Bool)) :=
    (bif decide (i_5 < (p_a.length : Int)) then
      (xnth p_a i_5).bind fun x17 =>
      (xnth p_b i_5).bind fun x20 =>
      (bif (!((x17.fName == x20.fName) && ((x17.fValue == x20.fValue) && true))) then
        some (.inr (.inr false))
      else
        some (.inl (wr (i_5 + 1))))
    else
      some (.inr (.inl ())))
noncomputable def ref26_SameFields (p_a : (List GField)) (p_b : (List GField)) : Option Bool :=
  (bif (p_a.length : Int) != (p_b.length : Int) then
    some false
  else
    (whileO (ref26_SameFields_L0 p_a p_b) 0).bind fun r11 => match r11 with
    | .inr e => some e
    | .inl _ =>
      some true)
/-- variantproxy/variantproxyref26.Equal -/
noncomputable def ref26_Equal (p_a : GEntry) (p_b : GEntry) : Option Bool :=
  (ref26_SameKeys p_a.fKeys p_b.fKeys).bind fun r5 =>
  (bif r5 then
    (ref10_SameStrings p_a.fVary p_b.fVary).bind fun r12 =>
    some (r12)
  else
    some false).bind fun b17 =>
  (bif b17 then
    (ref10_SameStrings p_a.fSnapshot p_b.fSnapshot).bind fun r23 =>
    some (r23)
  else
    some false).bind fun b28 =>
  (bif (b28 && (p_a.fReason == p_b.fReason)) then
    (ref26_SameFields p_a.fFields p_b.fFields).bind fun r36 =>
    some (r36)
  else
    some false).bind fun b41 =>
  some (((b41 && (p_a.fBody == p_b.fBody)) && (p_a.fRequested == p_b.fRequested)) && (p_a.fReceived == p_b.fReceived))
end Go.Eng.Pure
