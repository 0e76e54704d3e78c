/- A part of the proof of laws of the seat: written by program over the translation. -/
import Derived.Test.YtogfdiigokidaaaDoorPure1
namespace Go.Eng.Pure
open Go Go.Eng
set_option linter.unusedVariables false
/-- slices.Equal[[]variantproxy/api.Field,variantproxy/api.Field] -/
noncomputable def slices_Equal_api_Field_api_Field_L0 (p_s1 : (List GField)) (p_s2 : (List GField)) (y_6 : Int) : Option (Int ⊕ (Unit ⊕ Bool)) :=
    (bif decide (y_6 < (p_s1.length : Int)) then
      (xnth p_s1 y_6).bind fun x18 =>
      (xnth p_s2 y_6).bind fun x21 =>
      (bif (!((x18.fName == x21.fName) && ((x18.fValue == x21.fValue) && true))) then
        some (.inr (.inr false))
      else
        some (.inl (wr (y_6 + 1))))
    else
      some (.inr (.inl ())))
noncomputable def slices_Equal_api_Field_api_Field (p_s1 : (List GField)) (p_s2 : (List GField)) : Option Bool :=
  (bif (p_s1.length : Int) != (p_s2.length : Int) then
    some false
  else
    (whileO (slices_Equal_api_Field_api_Field_L0 p_s1 p_s2) 0).bind fun r12 => match r12 with
    | .inr e => some e
    | .inl _ =>
      some true)
/-- variantproxy/variantproxyref26.SameKeys -/
noncomputable def ref26_SameKeys_L0 (p_a : (List (List Str))) (p_b : (List (List Str))) (i_5 : Int) : Option (Int ⊕ (Unit ⊕ Bool)) :=
    (bif decide (i_5 < (p_a.length : Int)) then
      (xnth p_a i_5).bind fun x17 =>
      (xnth p_b i_5).bind fun x22 =>
      (ref10_SameStrings x17 x22).bind fun r27 =>
      (bif !r27 then
        some (.inr (.inr false))
      else
        some (.inl (wr (i_5 + 1))))
    else
      some (.inr (.inl ())))
noncomputable def ref26_SameKeys (p_a : (List (List Str))) (p_b : (List (List Str))) : Option Bool :=
  (bif (p_a.length : Int) != (p_b.length : Int) then
    some false
  else
    (whileO (ref26_SameKeys_L0 p_a p_b) 0).bind fun r11 => match r11 with
    | .inr e => some e
    | .inl _ =>
      some true)
/-- variantproxy/variantproxyref26.SameFields -/
noncomputable def ref26_SameFields_L0 (p_a : (List GField)) (p_b : (List GField)) (i_5 : Int) : Option (Int ⊕ (Unit ⊕ Bool)) :=
    (bif decide (i_5 < (p_a.length : Int)) then
      (xnth p_a i_5).bind fun x17 =>
      (xnth p_b i_5).bind fun x20 =>
      (bif (!((x17.fName == x20.fName) && ((x17.fValue == x20.fValue) && true))) then
        some (.inr (.inr false))
      else
        some (.inl (wr (i_5 + 1))))
    else
      some (.inr (.inl ())))
noncomputable def ref26_SameFields (p_a : (List GField)) (p_b : (List GField)) : Option Bool :=
  (bif (p_a.length : Int) != (p_b.length : Int) then
    some false
  else
    (whileO (ref26_SameFields_L0 p_a p_b) 0).bind fun r11 => match r11 with
    | .inr e => some e
    | .inl _ =>
      some true)
/-- variantproxy/variantproxyref26.Equal -/
noncomputable def ref26_Equal (p_a : GEntry) (p_b : GEntry) : Option Bool :=
  (ref26_SameKeys p_a.fKeys p_b.fKeys).bind fun r5 =>
  (bif r5 then
    (ref10_SameStrings p_a.fVary p_b.fVary).bind fun r12 =>
    some (r12)
  else
    some false).bind fun b17 =>
  (bif b17 then
    (ref10_SameStrings p_a.fSnapshot p_b.fSnapshot).bind fun r23 =>
    some (r23)
  else
    some false).bind fun b28 =>
  (bif (b28 && (p_a.fReason == p_b.fReason)) then
    (ref26_SameFields p_a.fFields p_b.fFields).bind fun r36 =>
    some (r36)
  else
    some false).bind fun b41 =>
  some (((b41 && (p_a.fBody == p_b.fBody)) && (p_a.fRequested == p_b.fRequested)) && (p_a.fReceived == p_b.fReceived))
/-- slices.EqualFunc[[][]string,[][]string,[]string,[]string] -/
noncomputable def slices_EqualFunc_string_string_string_string_L0 (p_s1 : (List (List Str))) (p_s2 : (List (List Str))) (p_eq : ((List Str) → (List Str) → Option Bool)) (y_7 : Int) : Option (Int ⊕ (Unit ⊕ Bool)) :=
    (bif decide (y_7 < (p_s1.length : Int)) then
      (xnth p_s1 y_7).bind fun x16 =>
      (xnth p_s2 y_7).bind fun x21 =>
      (p_eq x16 x21).bind fun r26 =>
      (bif !r26 then
        some (.inr (.inr false))
      else
        some (.inl (wr (y_7 + 1))))
    else
      some (.inr (.inl ())))
noncomputable def slices_EqualFunc_string_string_string_string (p_s1 : (List (List Str))) (p_s2 : (List (List Str))) (p_eq : ((List Str) → (List Str) → Option Bool)) : Option Bool :=
  (bif (p_s1.length : Int) != (p_s2.length : Int) then
    some false
  else
    (whileO (slices_EqualFunc_string_string_string_string_L0 p_s1 p_s2 p_eq) 0).bind fun r13 => match r13 with
    | .inr e => some e
    | .inl _ =>
      some true)
/-- variantproxy/entry.Equal -/
noncomputable def entry_Equal (p_a : GEntry) (p_b : GEntry) : Option Bool :=
  (slices_EqualFunc_string_string_string_string p_a.fKeys p_b.fKeys entry_Equal_1).bind fun r5 =>
  (bif r5 then
    (slices_Equal_string_string p_a.fVary p_b.fVary).bind fun r12 =>
    some (r12)
  else
    some false).bind fun b17 =>
  (bif b17 then
    (slices_Equal_string_string p_a.fSnapshot p_b.fSnapshot).bind fun r23 =>
    some (r23)
  else
    some false).bind fun b28 =>
  (bif b28 then
    (slices_Equal_api_Field_api_Field p_a.fFields p_b.fFields).bind fun r34 =>
    some (r34)
  else
    some false).bind fun b39 =>
  some ((((b39 && (p_a.fReason == p_b.fReason)) && (p_a.fBody == p_b.fBody)) && (p_a.fRequested == p_b.fRequested)) && (p_a.fReceived == p_b.fReceived))
/-- variantproxy/variantproxyref26.OwnEntry -/
noncomputable def ref26_OwnEntry_L0 (p_e : GEntry) : (Int × (List (List Str)) × (List Str) × (List Str) × Str × (List GField) × Str × Int × Int) → Option ((Int × (List (List Str)) × (List Str) × (List Str) × Str × (List GField) × Str × Int × Int) ⊕ ((List (List Str)) × (List Str) × (List Str) × Str × (List GField) × Str × Int × Int))
  | (i_16, m18, m21, m24, m27, m28, m31, m32, m33) =>
    (bif decide (i_16 < (p_e.fKeys.length : Int)) then
      (xnth p_e.fKeys i_16).bind fun x60 =>
      (xapp ([] : List Str) x60).bind fun l65 =>
      (xapp m18 ([l65] : List (List Str))).bind fun l76 =>
      some (.inl (wr (i_16 + 1), l76, m21, m24, m27, m28, m31, m32, m33))
    else
      some (.inr (m18, m21, m24, m27, m28, m31, m32, m33)))
noncomputable def ref26_OwnEntry (p_e : GEntry) : Option GEntry :=
  (whileO (ref26_OwnEntry_L0 p_e) (0, ([] : List (List Str)), p_e.fVary, p_e.fSnapshot, p_e.fReason, p_e.fFields, p_e.fBody, p_e.fRequested, p_e.fReceived)).bind fun r57 => match r57 with
  | (m38, m41, m44, m47, m48, m51, m52, m53) =>
    (xapp ([] : List Str) p_e.fVary).bind fun l83 =>
    (xapp ([] : List Str) p_e.fSnapshot).bind fun l90 =>
    (xapp ([] : List GField) p_e.fFields).bind fun l97 =>
    some (⟨m38, l83, l90, m47, l97, m51, m52, m53⟩ : GEntry)
/-- variantproxy/fieldline.Remove$1 -/
noncomputable def fieldline_Remove_1 (p_f : GField) (c_x0 : (GField → Option Bool)) : Option Bool :=
  (c_x0 p_f).bind fun r3 =>
  some (!r3)
/-- variantproxy/fieldline.Remove -/
noncomputable def fieldline_Remove (p_l : (List GField)) (p_name : Str) : Option (List GField) :=
  (fieldline_named p_name).bind fun r1 =>
  (fieldline_filter p_l (fun x0 => fieldline_Remove_1 x0 r1)).bind fun r13 =>
  some r13
/-- variantproxy/ascii.Decimal -/
noncomputable def ascii_Decimal (p_n : Int) : Option Str :=
  (strconv_Itoa p_n).bind fun r1 =>
  some r1
/-- variantproxy/hop.Via -/
noncomputable def hop_Via (p_l : (List GField)) (p_minor : Int) (p_name : Str) : Option (List GField) :=
  (xapp ([] : List GField) p_l).bind fun l1 =>
  (ascii_Decimal p_minor).bind fun r7 =>
  (xcat [49, 46] r7).bind fun s12 =>
  (xcat s12 [32]).bind fun s13 =>
  (xcat s13 p_name).bind fun s14 =>
  (xapp l1 ([(⟨[86, 105, 97], s14⟩ : GField)] : List GField)).bind fun l20 =>
  some l20
/-- variantproxy/entry.respond -/
noncomputable def entry_respond (p_e : GEntry) (p_age : Int) (p_name : Str) : Option GResponse :=
  (fieldline_Remove p_e.fFields [65, 103, 101]).bind fun r5 =>
  (ascii_Decimal p_age).bind fun r13 =>
  (xapp r5 ([(⟨[65, 103, 101], r13⟩ : GField)] : List GField)).bind fun l23 =>
  (hop_Via l23 1 p_name).bind fun r29 =>
  some (⟨1, 200, p_e.fReason, r29, p_e.fBody⟩ : GResponse)
/-- variantproxy/entry.Response -/
noncomputable def entry_Response (p_e : GEntry) (p_now : Int) (p_name : Str) : Option GResponse :=
  (entry_Age p_e p_now).bind fun r8 =>
  (entry_respond p_e r8 p_name).bind fun r13 =>
  some r13
/-- variantproxy/variantproxylaw26.awake -/
noncomputable def law26_awake : Option Bool :=
  (entry_Response (⟨([] : List (List Str)), ([] : List Str), ([] : List Str), [79, 75], ([(⟨[97, 103, 101], [50]⟩ : GField)] : List GField), [120], 0, 0⟩ : GEntry) 5 [112]).bind fun r9 =>
  (entry_Size (⟨([] : List (List Str)), ([] : List Str), ([] : List Str), [79, 75], ([] : List GField), [], 0, 0⟩ : GEntry)).bind fun r19 =>
  (bif ((((r19 == 102) && (r9.fStatus == 200)) && (r9.fBody == [120])) && ((r9.fFields.length : Int) == 2)) then
    (xnth r9.fFields 0).bind fun x32 =>
    some (x32.fValue == [55])
  else
    some false).bind fun b36 =>
  (bif b36 then
    (xnth r9.fFields 1).bind fun x39 =>
    some (x39.fValue == [49, 46, 49, 32, 112])
  else
    some false).bind fun b43 =>
  some b43
/-- variantproxy/variantproxylaw26.EntrySizes -/
noncomputable def law26_EntrySizes (p_e : GEntry) (p_f : GEntry) (p_now : Int) : Option Bool :=
  (keep_Entry p_e).bind fun r5 =>
  (bif !r5 then
    some true
  else
    (keep_Entry p_f).bind fun r12 =>
    some (!r12)).bind fun b17 =>
  (bif b17 then
    some true
  else
    (entry_Size p_e).bind fun r22 =>
    (ref26_Size p_e).bind fun r27 =>
    (bif r22 == r27 then
      (entry_Age p_e p_now).bind fun r34 =>
      (ref26_Age p_e p_now).bind fun r39 =>
      some (r34 == r39)
    else
      some false).bind fun b44 =>
    (bif b44 then
      (entry_Equal p_e p_f).bind fun r60 =>
      (ref26_Equal p_e p_f).bind fun r65 =>
      some (r60 == r65)
    else
      some false).bind fun b70 =>
    (bif b70 then
      (ref26_OwnEntry p_e).bind fun r86 =>
      (entry_Equal p_e r86).bind fun r99 =>
      some (r99)
    else
      some false).bind fun b104 =>
    (bif b104 then
      (law26_awake).bind fun r128 =>
      some (r128)
    else
      some false).bind fun b133 =>
    some b133)
end Go.Eng.Pure
