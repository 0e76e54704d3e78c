/- A part of the proof of laws of the seat: written by program over the translation. -/
import Derived.Test.YtogfdiigokidaaaGreatDoorPure1
namespace Go.Eng.Pure
open Go Go.Eng
set_option linter.unusedVariables false
noncomputable def ref26_SameKeys_L0 (p_a : (List (List Str))) (p_b : (List (List Str))) (i_5 : Int) : Option (Int ⊕ (Unit ⊕ Bool)) :=
  (bif decide (i_5 < (p_a.length : Int)) then
   (xnth p_a i_5).bind fun x17 =>
   (xnth p_b i_5).bind fun x22 =>
   (ref10_SameStrings x17 x22).bind fun r27 =>
   (bif !r27 then
    some (.inr (.inr false))
   else
    some (.inl (wr (i_5 + 1))))
  else
   some (.inr (.inl ())))
noncomputable def ref26_SameKeys (p_a : (List (List Str))) (p_b : (List (List Str))) : Option Bool :=
 (bif (p_a.length : Int) != (p_b.length : Int) then
  some false
 else
  (whileO (ref26_SameKeys_L0 p_a p_b) 0).bind fun r11 => match r11 with
  | .inr e => some e
  | .inl _ =>
   some true)
noncomputable def ref26_SameFields_L0 (p_a : (List GField)) (p_b : (List GField)) (i_5 : Int) : Option (Int ⊕ (Unit ⊕ Bool)) :=
  (bif decide (i_5 < (p_a.length : Int)) then
   (xnth p_a i_5).bind fun x17 =>
   (xnth p_b i_5).bind fun x20 =>
   (bif (!((x17.fName == x20.fName) && ((x17.fValue == x20.fValue) && true))) then
    some (.inr (.inr false))
   else
    some (.inl (wr (i_5 + 1))))
  else
   some (.inr (.inl ())))
noncomputable def ref26_SameFields (p_a : (List GField)) (p_b : (List GField)) : Option Bool :=
 (bif (p_a.length : Int) != (p_b.length : Int) then
  some false
 else
  (whileO (ref26_SameFields_L0 p_a p_b) 0).bind fun r11 => match r11 with
  | .inr e => some e
  | .inl _ =>
   some true)
noncomputable def ref26_Equal (p_a : GEntry) (p_b : GEntry) : Option Bool :=
 (ref26_SameKeys p_a.fKeys p_b.fKeys).bind fun r5 =>
 (bif r5 then
  (ref10_SameStrings p_a.fVary p_b.fVary).bind fun r12 =>
  some (r12)
 else
  some false).bind fun b17 =>
 (bif b17 then
  (ref10_SameStrings p_a.fSnapshot p_b.fSnapshot).bind fun r23 =>
  some (r23)
 else
  some false).bind fun b28 =>
 (bif (b28 && (p_a.fReason == p_b.fReason)) then
  (ref26_SameFields p_a.fFields p_b.fFields).bind fun r36 =>
  some (r36)
 else
  some false).bind fun b41 =>
 some (((b41 && (p_a.fBody == p_b.fBody)) && (p_a.fRequested == p_b.fRequested)) && (p_a.fReceived == p_b.fReceived))
noncomputable def vary_Names_L0 (r1 : (List Str)) : ((List Str) × Int) → Option (((List Str) × Int) ⊕ ((List Str) ⊕ ((List Str) × Bool)))
 | (out_9, y_15) =>
  (bif decide (y_15 < (r1.length : Int)) then
   (xnth r1 y_15).bind fun x28 =>
   (ascii_Token x28).bind fun r31 =>
   (bif ((!r31) || (x28 == [42])) then
    some (.inr (.inr (([] : List Str), false)))
   else
    (ascii_Lower x28).bind fun r39 =>
    (xapp out_9 ([r39] : List Str)).bind fun l49 =>
    some (.inl (l49, wr (y_15 + 1))))
  else
   some (.inr (.inl out_9)))
noncomputable def vary_Names (p_l : (List GField)) : Option ((List Str) × Bool) :=
 (list_All p_l [86, 97, 114, 121]).bind fun r1 =>
 (bif decide (64 ≤ (r1.length : Int)) then
  some (([] : List Str), false)
 else
  (whileO (vary_Names_L0 r1) (([] : List Str), 0)).bind fun r25 => match r25 with
  | .inr e => some e
  | .inl out_18 =>
   (slices_Sort_string out_18).bind fun l55 =>
   (slices_Compact_string l55).bind fun l61 =>
   some (l61, true))
noncomputable def ref19_VaryNames_L0 (y_10 : (List Str)) (r45 : Str) (y_55 : Int) : Option (Int ⊕ Int) :=
  (bif decide (y_55 < (y_10.length : Int)) then
   (xnth y_10 y_55).bind fun x71 =>
   some (Op.bytesLess x71 r45)
  else
   some false).bind fun b74 =>
  (bif b74 then
   some (.inl (wr (y_55 + 1)))
  else
   some (.inr y_55))
noncomputable def ref19_VaryNames_L1 (r1 : (List Str)) : ((List Str) × Int) → Option (((List Str) × Int) ⊕ ((List Str) ⊕ ((List Str) × Bool)))
 | (y_10, y_14) =>
  (bif decide (y_14 < (r1.length : Int)) then
   (xnth r1 y_14).bind fun x27 =>
   (ref01_Token x27).bind fun r30 =>
   (bif !r30 then
    some true
   else
    (xnth r1 y_14).bind fun x37 =>
    some (x37 == [42])).bind fun b40 =>
   (bif b40 then
    some (.inr (.inr (([] : List Str), false)))
   else
    (xnth r1 y_14).bind fun x42 =>
    (ref01_Lower x42).bind fun r45 =>
    (whileO (ref19_VaryNames_L0 y_10 r45) 0).bind fun y_62 =>
    (bif decide (y_62 < (y_10.length : Int)) then
     (xnth y_10 y_62).bind fun x78 =>
     some (x78 == r45)
    else
     some false).bind fun b81 =>
    (bif b81 then
     some (.inl (y_10, wr (y_14 + 1)))
    else
     (xsub y_10 0 y_62).bind fun l83 =>
     (xapp ([] : List Str) l83).bind fun l86 =>
     (xsub y_10 y_62 y_10.length).bind fun l92 =>
     (xapp l86 ([r45] : List Str)).bind fun l100 =>
     (xapp l100 l92).bind fun l106 =>
     some (.inl (l106, wr (y_14 + 1)))))
  else
   some (.inr (.inl y_10)))
noncomputable def ref19_VaryNames (p_ppend : (List GField)) : Option ((List Str) × Bool) :=
 (ref01_All p_ppend [86, 97, 114, 121]).bind fun r1 =>
 (bif decide (64 ≤ (r1.length : Int)) then
  some (([] : List Str), false)
 else
  (whileO (ref19_VaryNames_L1 r1) (([] : List Str), 0)).bind fun r24 => match r24 with
  | .inr e => some e
  | .inl y_17 =>
   some (y_17, true))
noncomputable def keep_Request (p_q : GRequest) : Option Bool :=
 (bif ((decide ((p_q.fMethod.length : Int) ≤ 100)) && (decide ((p_q.fTarget.length : Int) ≤ 2100))) then
  (keep_Fields p_q.fFields).bind fun r7 =>
  some (r7)
 else
  some false).bind fun b12 =>
 some (b12 && (decide ((p_q.fBody.length : Int) ≤ 2000)))
noncomputable def keep_Response (p_r : GResponse) : Option Bool :=
 (bif decide ((p_r.fReason.length : Int) ≤ 2100) then
  (keep_Fields p_r.fFields).bind fun r5 =>
  some (r5)
 else
  some false).bind fun b10 =>
 some (b10 && (decide ((p_r.fBody.length : Int) ≤ 2000)))
noncomputable def fieldline_Remove_1 (p_f : GField) (c_x0 : (GField → Option Bool)) : Option Bool :=
 (c_x0 p_f).bind fun r3 =>
 some (!r3)
noncomputable def fieldline_Remove (p_l : (List GField)) (p_name : Str) : Option (List GField) :=
 (fieldline_named p_name).bind fun r1 =>
 (fieldline_filter p_l (fun x0 => fieldline_Remove_1 x0 r1)).bind fun r13 =>
 some r13
noncomputable def ascii_Decimal (p_n : Int) : Option Str :=
 (strconv_Itoa p_n).bind fun r1 =>
 some r1
noncomputable def hop_Via (p_l : (List GField)) (p_minor : Int) (p_name : Str) : Option (List GField) :=
 (xapp ([] : List GField) p_l).bind fun l1 =>
 (ascii_Decimal p_minor).bind fun r7 =>
 (xcat [49, 46] r7).bind fun s12 =>
 (xcat s12 [32]).bind fun s13 =>
 (xcat s13 p_name).bind fun s14 =>
 (xapp l1 ([(⟨[86, 105, 97], s14⟩ : GField)] : List GField)).bind fun l20 =>
 some l20
noncomputable def entry_respond (p_e : GEntry) (p_age : Int) (p_name : Str) : Option GResponse :=
 (fieldline_Remove p_e.fFields [65, 103, 101]).bind fun r5 =>
 (ascii_Decimal p_age).bind fun r13 =>
 (xapp r5 ([(⟨[65, 103, 101], r13⟩ : GField)] : List GField)).bind fun l23 =>
 (hop_Via l23 1 p_name).bind fun r29 =>
 some (⟨1, 200, p_e.fReason, r29, p_e.fBody⟩ : GResponse)
noncomputable def entry_Response (p_e : GEntry) (p_now : Int) (p_name : Str) : Option GResponse :=
 (entry_Age p_e p_now).bind fun r8 =>
 (entry_respond p_e r8 p_name).bind fun r13 =>
 some r13
noncomputable def law26_awake : Option Bool :=
 (entry_Response (⟨([] : List (List Str)), ([] : List Str), ([] : List Str), [79, 75], ([(⟨[97, 103, 101], [50]⟩ : GField)] : List GField), [120], 0, 0⟩ : GEntry) 5 [112]).bind fun r9 =>
 (entry_Size (⟨([] : List (List Str)), ([] : List Str), ([] : List Str), [79, 75], ([] : List GField), [], 0, 0⟩ : GEntry)).bind fun r19 =>
 (bif ((((r19 == 102) && (r9.fStatus == 200)) && (r9.fBody == [120])) && ((r9.fFields.length : Int) == 2)) then
  (xnth r9.fFields 0).bind fun x32 =>
  some (x32.fValue == [55])
 else
  some false).bind fun b36 =>
 (bif b36 then
  (xnth r9.fFields 1).bind fun x39 =>
  some (x39.fValue == [49, 46, 49, 32, 112])
 else
  some false).bind fun b43 =>
 some b43
noncomputable def stringslite_Cut (p_s : Str) (p_sep : Str) : Option (Str × Str × Bool) :=
 (stringslite_Index p_s p_sep).bind fun r1 =>
 (bif decide (0 ≤ r1) then
  (xsub p_s 0 r1).bind fun s10 =>
  (xsub p_s (wr (r1 + (p_sep.length : Int))) p_s.length).bind fun s11 =>
  some (s10, s11, true)
 else
  some (p_s, [], false))
noncomputable def strings_Cut (p_s : Str) (p_sep : Str) : Option (Str × Str × Bool) :=
 (stringslite_Cut p_s p_sep).bind fun r1 =>
 some (r1.1, r1.2.1, r1.2.2)
noncomputable def variants_domainOf (p_axis : Str) : Option Gvariants_domain :=
 (accept_Kind p_axis).bind fun r1 =>
 ((bif r1 == 1 then
  some (.inr (.media : Gvariants_domain))
 else
  (bif r1 == 2 then
   some (.inr (.tags : Gvariants_domain))
  else
   ((bif r1 == 3 then
    some (r1 == 3)
   else
    some (r1 == 4))).bind fun (y_13 : Bool) =>
   (bif y_13 then
    some (.inr (.words r1 : Gvariants_domain))
   else
    some (.inl ()))))).bind fun (j8 : (Unit ⊕ Gvariants_domain)) => match j8 with
 | .inr e => some e
 | .inl _ =>
  some (.texts : Gvariants_domain)
noncomputable def param_cut_L0 (p_s : Str) : ((List Str) × Bool × Int × Int) → Option (((List Str) × Bool × Int × Int) ⊕ ((List Str) × Int))
 | (out_3, quoted_7, from_9, i_11) =>
  (bif decide (i_11 < (p_s.length : Int)) then
   (bif quoted_7 then
    (xnth p_s i_11).bind fun c29 =>
    some (c29 == 92)
   else
    some false).bind fun b30 =>
   (bif b30 then
    some (.inl (out_3, quoted_7, from_9, wr ((wr (i_11 + 1)) + 1)))
   else
    (xnth p_s i_11).bind fun c32 =>
    (bif c32 == 34 then
     some (.inl (out_3, !quoted_7, from_9, wr (i_11 + 1)))
    else
     (xnth p_s i_11).bind fun c34 =>
     (bif ((c34 == 59) && (!quoted_7)) then
      (xsub p_s from_9 i_11).bind fun s38 =>
      (xapp out_3 ([s38] : List Str)).bind fun l44 =>
      some (.inl (l44, quoted_7, wr (i_11 + 1), wr (i_11 + 1)))
     else
      some (.inl (out_3, quoted_7, from_9, wr (i_11 + 1))))))
  else
   some (.inr (out_3, from_9)))
noncomputable def param_cut (p_s : Str) : Option (List Str) :=
 (whileO (param_cut_L0 p_s) (([] : List Str), false, 0, 0)).bind fun r24 => match r24 with
 | (out_15, from_19) =>
  (xsub p_s from_19 p_s.length).bind fun s50 =>
  (xapp out_15 ([s50] : List Str)).bind fun l56 =>
  some l56
noncomputable def param_one (p_s : Str) : Option (Str × Str × Bool) :=
 (strings_Cut p_s [61]).bind fun r1 =>
 (bif !r1.2.2 then
  some true
 else
  (ascii_Token r1.1).bind fun r8 =>
  some (!r8)).bind fun b13 =>
 (bif b13 then
  some ([], [], false)
 else
  (ascii_Token r1.2.1).bind fun r18 =>
  ((bif !r18 then
   (ascii_Unquote r1.2.1).bind fun r32 =>
   some (r32.1, r32.2)
  else
   some (r1.2.1, r1.2.2))).bind fun (j30 : (Str × Bool)) =>
  match j30 with
  | (value_25, ok_27) =>
   (ascii_Lower r1.1).bind fun r37 =>
   some (r37, value_25, ok_27))
noncomputable def param_Parse_L0 (l16 : (List Str)) : ((List GParam) × Int) → Option (((List GParam) × Int) ⊕ ((List GParam) ⊕ (Str × (List GParam) × Bool)))
 | (l_21, y_27) =>
  (bif decide (y_27 < (l16.length : Int)) then
   (xnth l16 y_27).bind fun x41 =>
   (ascii_Trim x41).bind fun r44 =>
   (bif r44 == [] then
    some (.inl (l_21, wr (y_27 + 1)))
   else
    (param_one r44).bind fun r50 =>
    (bif !r50.2.2 then
     some (.inr (.inr ([], ([] : List GParam), false)))
    else
     (xapp l_21 ([(⟨r50.1, r50.2.1⟩ : GParam)] : List GParam)).bind fun l61 =>
     some (.inl (l61, wr (y_27 + 1)))))
  else
   some (.inr (.inl l_21)))
noncomputable def param_Parse (p_s : Str) : Option (Str × (List GParam) × Bool) :=
 (param_cut p_s).bind fun r1 =>
 (xnth r1 0).bind fun x7 =>
 (ascii_Trim x7).bind fun r10 =>
 (bif r10 == [] then
  some ([], ([] : List GParam), false)
 else
  (xsub r1 1 r1.length).bind fun l16 =>
  (whileO (param_Parse_L0 l16) (([] : List GParam), 0)).bind fun r38 => match r38 with
  | .inr e => some e
  | .inl l_31 =>
   some (r10, l_31, true))
noncomputable def mediatype_ParseRange (p_s : Str) : Option (GMediaType × Bool) :=
 (param_Parse p_s).bind fun r3 =>
 (bif !r3.2.2 then
  some ((⟨[], [], ([] : List GParam)⟩ : GMediaType), false)
 else
  (strings_Cut r3.1 [47]).bind fun r12 =>
  (ascii_Token r12.1).bind fun r17 =>
  (bif !r17 then
   some true
  else
   (ascii_Token r12.2.1).bind fun r24 =>
   some (!r24)).bind fun b29 =>
  (bif (b29 || ((r12.1 == [42]) && (r12.2.1 != [42]))) then
   some ((⟨[], [], ([] : List GParam)⟩ : GMediaType), false)
  else
   (ascii_Lower r12.1).bind fun r39 =>
   (ascii_Lower r12.2.1).bind fun r44 =>
   some ((⟨r39, r44, r3.2.1⟩ : GMediaType), true)))
noncomputable def mediatype_Parse (p_s : Str) : Option (GMediaType × Bool) :=
 (mediatype_ParseRange p_s).bind fun r3 =>
 (bif (((!r3.2) || (r3.1.fType == [42])) || (r3.1.fSub == [42])) then
  some ((⟨[], [], ([] : List GParam)⟩ : GMediaType), false)
 else
  some (r3.1, true))
noncomputable def variants_media_form_1 (p_x : GParam) (c_x0 : GParam) : Option Bool :=
 some (p_x.fName == c_x0.fName)
noncomputable def slices_IndexFunc_api_Param_api_Param_L0 (p_s : (List GParam)) (p_f : (GParam → Option Bool)) (y_5 : Int) : Option (Int ⊕ (Unit ⊕ Int)) :=
  (bif decide (y_5 < (p_s.length : Int)) then
   (xnth p_s y_5).bind fun x14 =>
   (p_f x14).bind fun r17 =>
   (bif r17 then
    some (.inr (.inr y_5))
   else
    some (.inl (wr (y_5 + 1))))
  else
   some (.inr (.inl ())))
noncomputable def slices_IndexFunc_api_Param_api_Param (p_s : (List GParam)) (p_f : (GParam → Option Bool)) : Option Int :=
 (whileO (slices_IndexFunc_api_Param_api_Param_L0 p_s p_f) 0).bind fun r11 => match r11 with
 | .inr e => some e
 | .inl _ =>
  some (-1)
noncomputable def slices_ContainsFunc_api_Param_api_Param (p_s : (List GParam)) (p_f : (GParam → Option Bool)) : Option Bool :=
 (slices_IndexFunc_api_Param_api_Param p_s p_f).bind fun r1 =>
 some (decide (0 ≤ r1))
noncomputable def variants_media_form_L0 (r3 : (GMediaType × Bool)) : (Bool × Int) → Option ((Bool × Int) ⊕ Bool)
 | (ok_16, y_20) =>
  (bif decide (y_20 < (r3.1.fParams.length : Int)) then
   (xnth r3.1.fParams y_20).bind fun x32 =>
   (bif (ok_16 && (x32.fName != [113])) then
    (xsub r3.1.fParams 0 y_20).bind fun l46 =>
    (slices_ContainsFunc_api_Param_api_Param l46 (fun x0 => variants_media_form_1 x0 x32)).bind fun r49 =>
    some (!r49)
   else
    some false).bind fun b54 =>
   some (.inl (b54, wr (y_20 + 1)))
  else
   some (.inr ok_16))
noncomputable def variants_media_form (p_x0 : Unit) (p_s : Str) : Option (Str × Bool) :=
 (mediatype_Parse p_s).bind fun r3 =>
 (whileO (variants_media_form_L0 r3) (r3.2, 0)).bind fun ok_24 =>
 (ascii_Lower p_s).bind fun r58 =>
 some (r58, ok_24)
noncomputable def strings_Index (p_s : Str) (p_substr : Str) : Option Int :=
 (stringslite_Index p_s p_substr).bind fun r1 =>
 some r1
noncomputable def strings_Count_L0 (p_substr : Str) : (Str × Int) → Option ((Str × Int) ⊕ Int)
 | (s_5, n_8) =>
  (strings_Index s_5 p_substr).bind fun r15 =>
  (bif r15 == (-1) then
   some (.inr n_8)
  else
   (xsub s_5 (wr (r15 + (p_substr.length : Int))) s_5.length).bind fun s21 =>
   some (.inl (s21, wr (n_8 + 1))))
noncomputable def strings_Count (p_s : Str) (p_substr : Str) : Option Int :=
 (bif (p_substr.length : Int) == 0 then
  none
 else
  (bif (p_substr.length : Int) == 1 then
   (xnth p_substr 0).bind fun c3 =>
   some (p_s.count c3 : Nat)
  else
   (whileO (strings_Count_L0 p_substr) (p_s, 0)).bind fun r13 => some r13))
noncomputable def strings_genSplit_L0 (p_ppend : Str) (p_x1 : Str) (p_x2 : Int) (y_7 : Int) : (Str × Int × (List Str)) → Option ((Str × Int × (List Str)) ⊕ (Str × Int × (List Str)))
 | (ppend_25, y_31, m33) =>
  (bif decide (y_31 < (wr ((if (wr ((p_ppend.length : Int) + 1)) < y_7 then (wr ((p_ppend.length : Int) + 1)) else y_7) - 1))) then
   (strings_Index ppend_25 p_x1).bind fun r53 =>
   (bif decide (r53 < 0) then
    some (.inr (ppend_25, y_31, m33))
   else
    (xsub ppend_25 0 (wr (r53 + p_x2))).bind fun s59 =>
    (xnth m33 y_31).bind fun x60 =>
    (xput m33 y_31 s59).bind fun l61 =>
    (xsub ppend_25 (wr (r53 + (p_x1.length : Int))) ppend_25.length).bind fun s66 =>
    some (.inl (s66, wr (y_31 + 1), l61)))
  else
   some (.inr (ppend_25, y_31, m33)))
noncomputable def strings_genSplit (p_ppend : Str) (p_x1 : Str) (p_x2 : Int) (p_x3 : Int) : Option (List Str) :=
 (bif p_x3 == 0 then
  some ([] : List Str)
 else
  (bif p_x1 == [] then
   none
  else
   ((bif decide (p_x3 < 0) then
    (strings_Count p_ppend p_x1).bind fun r12 =>
    some (wr (r12 + 1))
   else
    some p_x3)).bind fun (y_7 : Int) =>
   (xmake (if (wr ((p_ppend.length : Int) + 1)) < y_7 then (wr ((p_ppend.length : Int) + 1)) else y_7) ([] : Str)).bind fun l17 =>
   (whileO (strings_genSplit_L0 p_ppend p_x1 p_x2 y_7) (p_ppend, 0, l17)).bind fun r50 => match r50 with
   | (ppend_38, y_41, m43) =>
    (xnth m43 y_41).bind fun x67 =>
    (xput m43 y_41 ppend_38).bind fun l68 =>
    (xsub l68 0 (wr (y_41 + 1))).bind fun l78 =>
    some l78))
noncomputable def strings_Split (p_s : Str) (p_sep : Str) : Option (List Str) :=
 (strings_genSplit p_s p_sep 0 (-1)).bind fun r1 =>
 some r1
noncomputable def language_subtag_L0 (p_digits : Bool) (r1 : Str) (y_14 : Int) : Option (Int ⊕ (Unit ⊕ Bool)) :=
  (bif decide (y_14 < (r1.length : Int)) then
   (xnth r1 y_14).bind fun c24 =>
   (xnth r1 y_14).bind fun c26 =>
   (bif (((decide (c26 < 97)) || (decide (122 < c26))) && (((!p_digits) || (decide (c26 < 48))) || (decide (57 < c26)))) then
    some (.inr (.inr false))
   else
    some (.inl (wr (y_14 + 1))))
  else
   some (.inr (.inl ())))
noncomputable def language_subtag (p_s : Str) (p_digits : Bool) : Option Bool :=
 (ascii_Lower p_s).bind fun r1 =>
 (whileO (language_subtag_L0 p_digits r1) 0).bind fun r21 => match r21 with
 | .inr e => some e
 | .inl _ =>
  some ((p_s != []) && (decide ((p_s.length : Int) ≤ 8)))
noncomputable def language_Tag_L0 (r1 : (List Str)) (y_10 : Int) : Option (Int ⊕ (Unit ⊕ Bool)) :=
  (bif decide (y_10 < (r1.length : Int)) then
   (xnth r1 y_10).bind fun x19 =>
   (language_subtag x19 (decide (0 < y_10))).bind fun r22 =>
   (bif !r22 then
    some (.inr (.inr false))
   else
    some (.inl (wr (y_10 + 1))))
  else
   some (.inr (.inl ())))
noncomputable def language_Tag (p_s : Str) : Option Bool :=
 (strings_Split p_s [45]).bind fun r1 =>
 (whileO (language_Tag_L0 r1) 0).bind fun r16 => match r16 with
 | .inr e => some e
 | .inl _ =>
  some true
noncomputable def variants_tags_form (p_x0 : Unit) (p_s : Str) : Option (Str × Bool) :=
 (ascii_Lower p_s).bind fun r3 =>
 (language_Tag p_s).bind fun r8 =>
 some (r3, r8)
noncomputable def coding_Canonical (p_kind : Int) (p_s : Str) : Option Str :=
 (ascii_Lower p_s).bind fun r1 =>
 (bif p_kind != 4 then
  some r1
 else
  (((bif r1 == [103, 122, 105, 112] then
   some (r1 == [103, 122, 105, 112])
  else
   some (r1 == [120, 45, 103, 122, 105, 112]))).bind fun (y_14 : Bool) =>
  (bif y_14 then
   some (.inr [103, 122, 105, 112])
  else
   ((bif r1 == [99, 111, 109, 112, 114, 101, 115, 115] then
    some (r1 == [99, 111, 109, 112, 114, 101, 115, 115])
   else
    some (r1 == [120, 45, 99, 111, 109, 112, 114, 101, 115, 115]))).bind fun (y_22 : Bool) =>
   (bif y_22 then
    some (.inr [99, 111, 109, 112, 114, 101, 115, 115])
   else
    some (.inl ())))).bind fun (j10 : (Unit ⊕ Str)) => match j10 with
  | .inr e => some e
  | .inl _ =>
   some r1)
noncomputable def variants_words_form (p_kind : Int) (p_s : Str) : Option (Str × Bool) :=
 (coding_Canonical p_kind p_s).bind fun r1 =>
 (ascii_Token p_s).bind fun r6 =>
 some (r1, (r6 && (p_s != [42])))
noncomputable def variants_texts_form (p_x0 : Unit) (p_s : Str) : Option (Str × Bool) :=
 (bif ((decide (1 ≤ (p_s.length : Int))) && (decide ((p_s.length : Int) ≤ 100))) then
  (ascii_Text p_s).bind fun r7 =>
  some (r7)
 else
  some false).bind fun b12 =>
 (bif b12 then
  (ascii_Trim p_s).bind fun r18 =>
  some (r18 == p_s)
 else
  some false).bind fun b23 =>
 some (p_s, b23)
noncomputable def variants_domain_form (x : Gvariants_domain) (p0 : Str) : Option (Str × Bool) :=
 match x with
 | .media => variants_media_form () p0
 | .tags => variants_tags_form () p0
 | .words n => variants_words_form n p0
 | .texts => variants_texts_form () p0
noncomputable def variants_Same (p_axis : Str) (p_a : Str) (p_b : Str) : Option Bool :=
 (variants_domainOf p_axis).bind fun r1 =>
 (variants_domain_form r1 p_a).bind fun r6 =>
 (variants_domain_form r1 p_b).bind fun r11 =>
 some (r6.1 == r11.1)
noncomputable def variants_valid_L0 (p_a : GAxis) (r6 : Gvariants_domain) : (Int × (List (Str × Bool))) → Option ((Int × (List (Str × Bool))) ⊕ (Unit ⊕ Bool))
 | (y_18, m20) =>
  (bif decide (y_18 < (p_a.fValues.length : Int)) then
   (xnth p_a.fValues y_18).bind fun x28 =>
   (variants_domain_form r6 x28).bind fun r31 =>
   (bif !r31.2 then
    some true
   else
    (some (mget m20 r31.1 false)).bind fun g38 =>
    some (g38.1)).bind fun b39 =>
   (bif b39 then
    some (.inr (.inr false))
   else
    some (.inl (wr (y_18 + 1), (mset m20 r31.1 true))))
  else
   some (.inr (.inl ())))
noncomputable def variants_valid (p_a : GAxis) : Option Bool :=
 (bif ((decide ((p_a.fValues.length : Int) < 1)) || (decide (16 < (p_a.fValues.length : Int)))) then
  some false
 else
  (variants_domainOf p_a.fName).bind fun r6 =>
  (whileO (variants_valid_L0 p_a r6) (0, ([] : List (Str × Bool)))).bind fun r25 => match r25 with
  | .inr e => some e
  | .inl _ =>
   some true)
noncomputable def variants_Valid_L0 (x17 : GAxis) (l50 : (List GAxis)) (y_61 : Int) : Option (Int ⊕ (Unit ⊕ (Int ⊕ (Unit ⊕ Bool)))) :=
  (bif decide (y_61 < (l50.length : Int)) then
   (xnth l50 y_61).bind fun x74 =>
   (bif x17.fName == x74.fName then
    some (.inr (.inr (.inr (.inr false))))
   else
    some (.inl (wr (y_61 + 1))))
  else
   some (.inr (.inl ())))
noncomputable def variants_Valid_L1 (p_l : (List GAxis)) (y_8 : Int) : Option (Int ⊕ (Unit ⊕ Bool)) :=
  (bif decide (y_8 < (p_l.length : Int)) then
   (xnth p_l y_8).bind fun x17 =>
   (ascii_Token x17.fName).bind fun r28 =>
   (bif !r28 then
    some true
   else
    (ascii_Lower x17.fName).bind fun r35 =>
    some (r35 != x17.fName)).bind fun b40 =>
   (bif b40 then
    some true
   else
    (variants_valid x17).bind fun r43 =>
    some (!r43)).bind fun b48 =>
   (bif b48 then
    some (.inr (.inr false))
   else
    (xsub p_l 0 y_8).bind fun l50 =>
    (whileO (variants_Valid_L0 x17 l50) 0).bind fun r71 => match r71 with
    | .inr e => some e
    | .inl _ =>
     some (.inl (wr (y_8 + 1))))
  else
   some (.inr (.inl ())))
noncomputable def variants_Valid (p_l : (List GAxis)) : Option Bool :=
 (bif ((decide ((p_l.length : Int) < 1)) || (decide (4 < (p_l.length : Int)))) then
  some false
 else
  (whileO (variants_Valid_L1 p_l) 0).bind fun r14 => match r14 with
  | .inr e => some e
  | .inl _ =>
   some true)
noncomputable def variantkey_resolve_1 (p_v : Str) (c_x0 : GAxis) (c_x1 : (List Str)) (c_x2 : Int) : Option Bool :=
 (xnth c_x1 c_x2).bind fun x5 =>
 (variants_Same c_x0.fName p_v x5).bind fun r8 =>
 some r8
noncomputable def variantkey_resolve_L0 (p_axes : (List GAxis)) (p_key : (List Str)) : (Int × (List Str)) → Option ((Int × (List Str)) ⊕ ((List Str) ⊕ ((List Str) × Bool)))
 | (y_20, m22) =>
  (bif decide (y_20 < (p_axes.length : Int)) then
   (xnth p_axes y_20).bind fun x38 =>
   (slices_IndexFunc_string_string x38.fValues (fun x0 => variantkey_resolve_1 x0 x38 p_key y_20)).bind fun r57 =>
   (bif decide (r57 < 0) then
    some (.inr (.inr (([] : List Str), false)))
   else
    (xnth x38.fValues r57).bind fun x67 =>
    (xnth m22 y_20).bind fun x70 =>
    (xput m22 y_20 x67).bind fun l71 =>
    some (.inl (wr (y_20 + 1), l71)))
  else
   some (.inr (.inl m22)))
noncomputable def variantkey_resolve (p_axes : (List GAxis)) (p_key : (List Str)) : Option ((List Str) × Bool) :=
 (bif (p_key.length : Int) != (p_axes.length : Int) then
  some (([] : List Str), false)
 else
  (xmake (p_key.length : Int) ([] : Str)).bind fun l4 =>
  (whileO (variantkey_resolve_L0 p_axes p_key) (0, l4)).bind fun r35 => match r35 with
  | .inr e => some e
  | .inl m28 =>
   some (m28, true))
noncomputable def strings_TrimLeft (p_s : Str) (p_cutset : Str) : Option Str :=
 (bif ((p_s == []) || (p_cutset == [])) then
  some p_s
 else
  (bif (p_cutset.length : Int) == 1 then
   (xnth p_cutset 0).bind fun c6 =>
   some (decide (c6 < 128))
  else
   some false).bind fun b7 =>
  (bif b7 then
   (xnth p_cutset 0).bind fun c9 =>
   (strings_trimLeftByte p_s c9).bind fun r10 =>
   some r10
  else
   (strings_makeASCIISet p_cutset).bind fun r15 =>
   (strings_trimLeftASCII p_s p_cutset).bind fun r27 =>
   some r27))
noncomputable def group_quoted_L0 (p_s : Str) (i_3 : Int) : Option (Int ⊕ (Unit ⊕ Int)) :=
  (bif decide (i_3 < (p_s.length : Int)) then
   (xnth p_s i_3).bind fun c12 =>
   (bif c12 == 92 then
    some (.inl (wr ((wr (i_3 + 1)) + 1)))
   else
    (bif c12 == 34 then
     some (.inr (.inr (wr (i_3 + 1))))
    else
     some (.inl (wr (i_3 + 1)))))
  else
   some (.inr (.inl ())))
noncomputable def group_quoted (p_s : Str) : Option Int :=
 (whileO (group_quoted_L0 p_s) 1).bind fun r9 => match r9 with
 | .inr e => some e
 | .inl _ =>
  some 0
noncomputable def variantkey_Parse_1 (p_k : (List Str)) (c_x0 : (List Str)) : Option Bool :=
 (slices_Equal_string_string p_k c_x0).bind fun r1 =>
 some r1
noncomputable def slices_IndexFunc_LL_string_string_L0 (p_s : (List (List Str))) (p_f : ((List Str) → Option Bool)) (y_5 : Int) : Option (Int ⊕ (Unit ⊕ Int)) :=
  (bif decide (y_5 < (p_s.length : Int)) then
   (xnth p_s y_5).bind fun x14 =>
   (p_f x14).bind fun r19 =>
   (bif r19 then
    some (.inr (.inr y_5))
   else
    some (.inl (wr (y_5 + 1))))
  else
   some (.inr (.inl ())))
noncomputable def slices_IndexFunc_LL_string_string (p_s : (List (List Str))) (p_f : ((List Str) → Option Bool)) : Option Int :=
 (whileO (slices_IndexFunc_LL_string_string_L0 p_s p_f) 0).bind fun r11 => match r11 with
 | .inr e => some e
 | .inl _ =>
  some (-1)
noncomputable def slices_ContainsFunc_LL_string_string (p_s : (List (List Str))) (p_f : ((List Str) → Option Bool)) : Option Bool :=
 (slices_IndexFunc_LL_string_string p_s p_f).bind fun r1 =>
 some (decide (0 ≤ r1))
noncomputable def ref19_among_L0 (p_name : Str) (p_l : (List Str)) (i_4 : Int) : Option (Int ⊕ (Unit ⊕ Bool)) :=
  (bif decide (i_4 < (p_l.length : Int)) then
   (xnth p_l i_4).bind fun x13 =>
   (ref01_Fold p_name x13).bind fun r16 =>
   (bif r16 then
    some (.inr (.inr true))
   else
    some (.inl (wr (i_4 + 1))))
  else
   some (.inr (.inl ())))
noncomputable def ref19_among (p_name : Str) (p_l : (List Str)) : Option Bool :=
 (whileO (ref19_among_L0 p_name p_l) 0).bind fun r10 => match r10 with
 | .inr e => some e
 | .inl _ =>
  some false
noncomputable def ref19_Strip_L0 (p_l : (List GField)) (r11 : (List Str)) : ((List GField) × Int) → Option (((List GField) × Int) ⊕ (List GField))
 | (out_22, i_26) =>
  (bif decide (i_26 < (p_l.length : Int)) then
   (xnth p_l i_26).bind fun x39 =>
   (ref19_among x39.fName ([[67, 111, 110, 110, 101, 99, 116, 105, 111, 110], [75, 101, 101, 112, 45, 65, 108, 105, 118, 101], [80, 114, 111, 120, 121, 45, 67, 111, 110, 110, 101, 99, 116, 105, 111, 110], [80, 114, 111, 120, 121, 45, 65, 117, 116, 104, 101, 110, 116, 105, 99, 97, 116, 101], [80, 114, 111, 120, 121, 45, 65, 117, 116, 104, 111, 114, 105, 122, 97, 116, 105, 111, 110], [84, 69], [84, 114, 97, 105, 108, 101, 114], [84, 114, 97, 110, 115, 102, 101, 114, 45, 69, 110, 99, 111, 100, 105, 110, 103], [67, 111, 110, 116, 101, 110, 116, 45, 76, 101, 110, 103, 116, 104], [85, 112, 103, 114, 97, 100, 101]] : List Str)).bind fun r43 =>
   (bif r43 then
    some true
   else
    (xnth p_l i_26).bind fun x50 =>
    (ref19_among x50.fName r11).bind fun r54 =>
    (bif r54 then
     (xnth p_l i_26).bind fun x61 =>
     (ref19_among x61.fName ([[72, 111, 115, 116], [67, 97, 99, 104, 101, 45, 67, 111, 110, 116, 114, 111, 108], [86, 97, 114, 121], [86, 97, 114, 105, 97, 110, 116, 115], [86, 97, 114, 105, 97, 110, 116, 45, 75, 101, 121], [86, 105, 97]] : List Str)).bind fun r65 =>
     some (!r65)
    else
     some false).bind fun b70 =>
    some (b70)).bind fun b74 =>
   (bif b74 then
    some (.inl (out_22, wr (i_26 + 1)))
   else
    (xnth p_l i_26).bind fun x79 =>
    (xapp out_22 ([x79] : List GField)).bind fun l87 =>
    some (.inl (l87, wr (i_26 + 1))))
  else
   some (.inr out_22))
noncomputable def ref19_Strip (p_l : (List GField)) : Option (List GField) :=
 (ref01_All p_l [67, 111, 110, 110, 101, 99, 116, 105, 111, 110]).bind fun r11 =>
 (whileO (ref19_Strip_L0 p_l r11) (([] : List GField), 0)).bind fun out_29 =>
 some out_29
noncomputable def ref10_plain (p_c : UInt8) : Option Bool :=
 some ((((((p_c != 32) && (p_c != 9)) && (p_c != 40)) && (p_c != 41)) && (p_c != 44)) && (p_c != 34))
noncomputable def ref10_values_L0 (s10 : Str) (y_47 : Int) : Option (Int ⊕ Int) :=
  (bif decide (y_47 < (s10.length : Int)) then
   (xnth s10 y_47).bind fun c63 =>
   some (c63 != 34)
  else
   some false).bind fun b64 =>
  (bif b64 then
   (xnth s10 y_47).bind fun c66 =>
   (bif c66 == 92 then
    some (.inl (wr ((wr (y_47 + 1)) + 1)))
   else
    some (.inl (wr (y_47 + 1))))
  else
   some (.inr y_47))
noncomputable def ref10_values_L1 (s10 : Str) (y_90 : Int) : Option (Int ⊕ Int) :=
  (bif decide (y_90 < (s10.length : Int)) then
   (xnth s10 y_90).bind fun c106 =>
   (ref10_plain c106).bind fun r107 =>
   some (r107)
  else
   some false).bind fun b112 =>
  (bif b112 then
   some (.inl (wr (y_90 + 1)))
  else
   some (.inr y_90))
noncomputable def ref10_values_L2 (s10 : Str) : ((List Str) × Int) → Option (((List Str) × Int) ⊕ ((List Str) ⊕ ((List Str) × Bool)))
 | (y_13, y_17) =>
  (bif decide (y_17 < (s10.length : Int)) then
   (xnth s10 y_17).bind fun c30 =>
   (bif c30 == 32 then
    some (.inl (y_13, wr (y_17 + 1)))
   else
    (xnth s10 y_17).bind fun c32 =>
    ((bif c32 == 34 then
     (whileO (ref10_values_L0 s10) (wr (y_17 + 1))).bind fun y_53 =>
     (bif decide ((s10.length : Int) ≤ y_53) then
      some (.inr (.inr (.inr (([] : List Str), false))))
     else
      (xsub s10 y_17 (wr (y_53 + 1))).bind fun s69 =>
      (ref01_Unquote s69).bind fun r70 =>
      (bif !r70.2 then
       some (.inr (.inr (.inr (([] : List Str), false))))
      else
       (xapp y_13 ([r70.1] : List Str)).bind fun l81 =>
       some (.inl (l81, wr (y_53 + 1)))))
    else
     (whileO (ref10_values_L1 s10) y_17).bind fun y_96 =>
     (bif y_96 == y_17 then
      some (.inr (.inr (.inr (([] : List Str), false))))
     else
      (xsub s10 y_17 y_96).bind fun s118 =>
      (xapp y_13 ([s118] : List Str)).bind fun l124 =>
      some (.inl (l124, y_96))))).bind fun (j42 : (((List Str) × Int) ⊕ (((List Str) × Int) ⊕ ((List Str) ⊕ ((List Str) × Bool))))) => match j42 with
    | .inr e => some e
    | .inl (y_35, y_39) =>
     (bif decide (y_39 < (s10.length : Int)) then
      (xnth s10 y_39).bind fun c132 =>
      some (c132 != 32)
     else
      some false).bind fun b133 =>
     (bif b133 then
      some (.inr (.inr (([] : List Str), false)))
     else
      some (.inl (y_35, y_39))))
  else
   some (.inr (.inl y_13)))
noncomputable def ref10_values (p_ppend : Str) : Option ((List Str) × Bool) :=
 (bif decide ((p_ppend.length : Int) < 2) then
  some true
 else
  (xnth p_ppend 0).bind fun c3 =>
  some (c3 != 40)).bind fun b4 =>
 (bif b4 then
  some true
 else
  (xnth p_ppend (wr ((p_ppend.length : Int) - 1))).bind fun c7 =>
  some (c7 != 41)).bind fun b8 =>
 (bif b8 then
  some (([] : List Str), false)
 else
  (xsub p_ppend 1 (wr ((p_ppend.length : Int) - 1))).bind fun s10 =>
  (whileO (ref10_values_L2 s10) (([] : List Str), 0)).bind fun r27 => match r27 with
  | .inr e => some e
  | .inl y_20 =>
   some (y_20, true))
noncomputable def ref01_ParseParams_L0 (r1 : (List Str)) : ((List GParam) × Int) → Option (((List GParam) × Int) ⊕ ((List GParam) ⊕ (Str × (List GParam) × Bool)))
 | (y_19, y_23) =>
  (bif decide (y_23 < (r1.length : Int)) then
   (xnth r1 y_23).bind fun x37 =>
   (ref01_Trim x37).bind fun r40 =>
   (bif r40 == [] then
    some (.inl (y_19, wr (y_23 + 1)))
   else
    (ref01_Index r40 61 0).bind fun r46 =>
    (bif decide (r46 < 0) then
     some true
    else
     (xsub r40 0 r46).bind fun s53 =>
     (ref01_Token s53).bind fun r54 =>
     some (!r54)).bind fun b59 =>
    (bif b59 then
     some (.inr (.inr ([], ([] : List GParam), false)))
    else
     (xsub r40 (wr (r46 + 1)) r40.length).bind fun s64 =>
     (ref01_Token s64).bind fun r65 =>
     ((bif !r65 then
      (ref01_Unquote s64).bind fun r82 =>
      (bif !r82.2 then
       some (.inr (.inr (.inr ([], ([] : List GParam), false))))
      else
       some (.inl r82.1))
     else
      some (.inl s64))).bind fun (j80 : (Str ⊕ (((List GParam) × Int) ⊕ ((List GParam) ⊕ (Str × (List GParam) × Bool))))) => match j80 with
     | .inr e => some e
     | .inl y_77 =>
      (xsub r40 0 r46).bind fun s88 =>
      (ref01_Lower s88).bind fun r89 =>
      (xapp y_19 ([(⟨r89, y_77⟩ : GParam)] : List GParam)).bind fun l99 =>
      some (.inl (l99, wr (y_23 + 1)))))
  else
   some (.inr (.inl y_19)))
noncomputable def ref01_ParseParams (p_ppend : Str) : Option (Str × (List GParam) × Bool) :=
 (ref01_Cut p_ppend 59).bind fun r1 =>
 (xnth r1 0).bind fun x7 =>
 (ref01_Trim x7).bind fun r10 =>
 (bif r10 == [] then
  some ([], ([] : List GParam), false)
 else
  (whileO (ref01_ParseParams_L0 r1) (([] : List GParam), 1)).bind fun r34 => match r34 with
  | .inr e => some e
  | .inl y_27 =>
   some (r10, y_27, true))
noncomputable def ref10_ParseRange (p_s : Str) : Option (GMediaType × Bool) :=
 (ref01_ParseParams p_s).bind fun r3 =>
 (bif !r3.2.2 then
  some ((⟨[], [], ([] : List GParam)⟩ : GMediaType), false)
 else
  (ref01_Index r3.1 47 0).bind fun r12 =>
  (bif decide (r12 < 0) then
   some true
  else
   (xsub r3.1 0 r12).bind fun s19 =>
   (ref01_Token s19).bind fun r20 =>
   some (!r20)).bind fun b25 =>
  (bif b25 then
   some true
  else
   (xsub r3.1 (wr (r12 + 1)) r3.1.length).bind fun s31 =>
   (ref01_Token s31).bind fun r32 =>
   some (!r32)).bind fun b37 =>
  (bif b37 then
   some true
  else
   (xsub r3.1 0 r12).bind fun s43 =>
   (bif s43 == [42] then
    (xsub r3.1 (wr (r12 + 1)) r3.1.length).bind fun s46 =>
    some (s46 != [42])
   else
    some false).bind fun b47 =>
   some (b47)).bind fun b48 =>
  (bif b48 then
   some ((⟨[], [], ([] : List GParam)⟩ : GMediaType), false)
  else
   (xsub r3.1 0 r12).bind fun s54 =>
   (ref01_Lower s54).bind fun r55 =>
   (xsub r3.1 (wr (r12 + 1)) r3.1.length).bind fun s60 =>
   (ref01_Lower s60).bind fun r61 =>
   some ((⟨r55, r61, r3.2.1⟩ : GMediaType), true)))
noncomputable def ref10_ParseType (p_s : Str) : Option (GMediaType × Bool) :=
 (ref10_ParseRange p_s).bind fun r3 =>
 (bif (((!r3.2) || (r3.1.fType == [42])) || (r3.1.fSub == [42])) then
  some ((⟨[], [], ([] : List GParam)⟩ : GMediaType), false)
 else
  some (r3.1, true))
noncomputable def ref10_subtags_L0 : (Str × (List Str)) → Option ((Str × (List Str)) ⊕ (List Str))
 | (s_2, out_4) =>
  (ref01_Index s_2 45 0).bind fun r13 =>
  (bif decide (r13 < 0) then
   (xapp out_4 ([s_2] : List Str)).bind fun l24 =>
   some (.inr l24)
  else
   (xsub s_2 0 r13).bind fun s30 =>
   (xsub s_2 (wr (r13 + 1)) s_2.length).bind fun s31 =>
   (xapp out_4 ([s30] : List Str)).bind fun l37 =>
   some (.inl (s31, l37)))
noncomputable def ref10_subtags (p_s : Str) : Option (List Str) :=
 (whileO (ref10_subtags_L0) (p_s, ([] : List Str))).bind fun r11 => some r11
noncomputable def ref10_Tag_L0 (r1 : (List Str)) (y_9 : Int) (y_31 : Int) : Option (Int ⊕ (Unit ⊕ (Int ⊕ (Unit ⊕ Bool)))) :=
  (xnth r1 y_9).bind fun x41 =>
  (bif decide (y_31 < (x41.length : Int)) then
   (xnth r1 y_9).bind fun x45 =>
   (xnth x45 y_31).bind fun c48 =>
   (bif (((decide (97 ≤ c48)) && (decide (c48 ≤ 122))) || ((decide (65 ≤ c48)) && (decide (c48 ≤ 90)))) then
    some true
   else
    (bif decide (0 < y_9) then
     (ref01_Digit c48).bind fun r59 =>
     some (r59)
    else
     some false).bind fun b64 =>
    some (b64)).bind fun b68 =>
   (bif !b68 then
    some (.inr (.inr (.inr (.inr false))))
   else
    some (.inl (wr (y_31 + 1))))
  else
   some (.inr (.inl ())))
noncomputable def ref10_Tag_L1 (r1 : (List Str)) (y_9 : Int) : Option (Int ⊕ (Unit ⊕ Bool)) :=
  (bif decide (y_9 < (r1.length : Int)) then
   (xnth r1 y_9).bind fun x18 =>
   (bif decide ((x18.length : Int) < 1) then
    some true
   else
    (xnth r1 y_9).bind fun x23 =>
    some (decide (8 < (x23.length : Int)))).bind fun b26 =>
   (bif b26 then
    some (.inr (.inr false))
   else
    (whileO (ref10_Tag_L0 r1 y_9) 0).bind fun r39 => match r39 with
    | .inr e => some e
    | .inl _ =>
     some (.inl (wr (y_9 + 1))))
  else
   some (.inr (.inl ())))
noncomputable def ref10_Tag (p_ppend : Str) : Option Bool :=
 (ref10_subtags p_ppend).bind fun r1 =>
 (whileO (ref10_Tag_L1 r1) 0).bind fun r15 => match r15 with
 | .inr e => some e
 | .inl _ =>
  some true
noncomputable def ref10_Value_L0 (r11 : (GMediaType × Bool)) (y_25 : Int) : (Bool × Int) → Option ((Bool × Int) ⊕ Bool)
 | (y_38, y_41) =>
  (bif decide (y_41 < y_25) then
   (bif y_38 then
    (xnth r11.1.fParams y_25).bind fun x59 =>
    (xnth r11.1.fParams y_41).bind fun x63 =>
    some (x59.fName != x63.fName)
   else
    some false).bind fun b67 =>
   some (.inl (b67, wr (y_41 + 1)))
  else
   some (.inr y_38))
noncomputable def ref10_Value_L1 (r11 : (GMediaType × Bool)) : (Bool × Int) → Option ((Bool × Int) ⊕ Bool)
 | (y_23, y_25) =>
  (bif decide (y_25 < (r11.1.fParams.length : Int)) then
   (whileO (ref10_Value_L0 r11 y_25) (y_23, 0)).bind fun y_45 =>
   (bif y_45 then
    (xnth r11.1.fParams y_25).bind fun x70 =>
    some (x70.fName != [113])
   else
    some false).bind fun b74 =>
   some (.inl (b74, wr (y_25 + 1)))
  else
   some (.inr y_23))
noncomputable def ref10_Value (p_ppend : Str) (p_x1 : Str) : Option Bool :=
 (ref10_Kind p_ppend).bind fun r1 =>
 ((bif r1 == 1 then
  (ref10_ParseType p_x1).bind fun r11 =>
  (whileO (ref10_Value_L1 r11) (r11.2, 0)).bind fun y_28 =>
  some (.inr y_28)
 else
  (bif r1 == 2 then
   (ref10_Tag p_x1).bind fun r76 =>
   some (.inr r76)
  else
   ((bif r1 == 3 then
    some (r1 == 3)
   else
    some (r1 == 4))).bind fun (y_83 : Bool) =>
   (bif y_83 then
    (ref01_Token p_x1).bind fun r89 =>
    some (.inr (r89 && (p_x1 != [42])))
   else
    some (.inl ()))))).bind fun (j9 : (Unit ⊕ Bool)) => match j9 with
 | .inr e => some e
 | .inl _ =>
  (bif ((decide (1 ≤ (p_x1.length : Int))) && (decide ((p_x1.length : Int) ≤ 100))) then
   (ref01_Text p_x1).bind fun r100 =>
   some (r100)
  else
   some false).bind fun b105 =>
  (bif b105 then
   (ref01_Trim p_x1).bind fun r111 =>
   some (r111 == p_x1)
  else
   some false).bind fun b116 =>
  some b116
noncomputable def ref10_Canonical (p_kind : Int) (p_s : Str) : Option Str :=
 (ref01_Lower p_s).bind fun r1 =>
 (bif ((p_kind == 4) && (r1 == [120, 45, 103, 122, 105, 112])) then
  some [103, 122, 105, 112]
 else
  (bif ((p_kind == 4) && (r1 == [120, 45, 99, 111, 109, 112, 114, 101, 115, 115])) then
   some [99, 111, 109, 112, 114, 101, 115, 115]
  else
   some r1))
noncomputable def ref10_Same (p_axis : Str) (p_a : Str) (p_b : Str) : Option Bool :=
 (ref10_Kind p_axis).bind fun r1 =>
 (((bif r1 == 1 then
  some (r1 == 1)
 else
  some (r1 == 2))).bind fun (y_16 : Bool) =>
 (bif y_16 then
  (ref01_Fold p_a p_b).bind fun r22 =>
  some (.inr r22)
 else
  ((bif r1 == 3 then
   some (r1 == 3)
  else
   some (r1 == 4))).bind fun (y_31 : Bool) =>
  (bif y_31 then
   (ref10_Canonical r1 p_a).bind fun r37 =>
   (ref10_Canonical r1 p_b).bind fun r42 =>
   some (.inr (r37 == r42))
  else
   some (.inl ())))).bind fun (j10 : (Unit ⊕ Bool)) => match j10 with
 | .inr e => some e
 | .inl _ =>
  some (p_a == p_b)
noncomputable def ref10_validAxis_L0 (p_x : GAxis) (i_26 : Int) (k_50 : Int) : Option (Int ⊕ (Unit ⊕ (Int ⊕ (Unit ⊕ Bool)))) :=
  (bif decide (k_50 < i_26) then
   (xnth p_x.fValues i_26).bind fun x64 =>
   (xnth p_x.fValues k_50).bind fun x67 =>
   (ref10_Same p_x.fName x64 x67).bind fun r70 =>
   (bif r70 then
    some (.inr (.inr (.inr (.inr false))))
   else
    some (.inl (wr (k_50 + 1))))
  else
   some (.inr (.inl ())))
noncomputable def ref10_validAxis_L1 (p_x : GAxis) (i_26 : Int) : Option (Int ⊕ (Unit ⊕ Bool)) :=
  (bif decide (i_26 < (p_x.fValues.length : Int)) then
   (xnth p_x.fValues i_26).bind fun x38 =>
   (ref10_Value p_x.fName x38).bind fun r41 =>
   (bif !r41 then
    some (.inr (.inr false))
   else
    (whileO (ref10_validAxis_L0 p_x i_26) 0).bind fun r58 => match r58 with
    | .inr e => some e
    | .inl _ =>
     some (.inl (wr (i_26 + 1))))
  else
   some (.inr (.inl ())))
noncomputable def ref10_validAxis (p_x : GAxis) : Option Bool :=
 (ref01_Token p_x.fName).bind fun r6 =>
 (bif !r6 then
  some true
 else
  (ref01_Lower p_x.fName).bind fun r13 =>
  some (r13 != p_x.fName)).bind fun b18 =>
 (bif ((b18 || (decide ((p_x.fValues.length : Int) < 1))) || (decide (16 < (p_x.fValues.length : Int)))) then
  some false
 else
  (whileO (ref10_validAxis_L1 p_x) 0).bind fun r32 => match r32 with
  | .inr e => some e
  | .inl _ =>
   some true)
noncomputable def ref10_Valid_L0 (p_l : (List GAxis)) (i_6 : Int) (k_29 : Int) : Option (Int ⊕ (Unit ⊕ (Int ⊕ (Unit ⊕ Bool)))) :=
  (bif decide (k_29 < i_6) then
   (xnth p_l i_6).bind fun x43 =>
   (xnth p_l k_29).bind fun x49 =>
   (bif x43.fName == x49.fName then
    some (.inr (.inr (.inr (.inr false))))
   else
    some (.inl (wr (k_29 + 1))))
  else
   some (.inr (.inl ())))
noncomputable def ref10_Valid_L1 (p_l : (List GAxis)) (i_6 : Int) : Option (Int ⊕ (Unit ⊕ Bool)) :=
  (bif decide (i_6 < (p_l.length : Int)) then
   (xnth p_l i_6).bind fun x15 =>
   (ref10_validAxis x15).bind fun r20 =>
   (bif !r20 then
    some (.inr (.inr false))
   else
    (whileO (ref10_Valid_L0 p_l i_6) 0).bind fun r37 => match r37 with
    | .inr e => some e
    | .inl _ =>
     some (.inl (wr (i_6 + 1))))
  else
   some (.inr (.inl ())))
noncomputable def ref10_Valid (p_l : (List GAxis)) : Option Bool :=
 (bif ((decide ((p_l.length : Int) < 1)) || (decide (4 < (p_l.length : Int)))) then
  some false
 else
  (whileO (ref10_Valid_L1 p_l) 0).bind fun r12 => match r12 with
  | .inr e => some e
  | .inl _ =>
   some true)
noncomputable def ref10_ParseVariants_L0 (r7 : (List Str)) : ((List GAxis) × Int) → Option (((List GAxis) × Int) ⊕ ((List GAxis) ⊕ ((List GAxis) × Int)))
 | (y_15, y_19) =>
  (bif decide (y_19 < (r7.length : Int)) then
   (xnth r7 y_19).bind fun x32 =>
   (ref01_Index x32 61 0).bind fun r35 =>
   (bif decide (r35 < 0) then
    some true
   else
    (xnth r7 y_19).bind fun x42 =>
    (xsub x42 0 r35).bind fun s45 =>
    (ref01_Token s45).bind fun r46 =>
    some (!r46)).bind fun b51 =>
   (bif b51 then
    some (.inr (.inr (([] : List GAxis), 1)))
   else
    (xnth r7 y_19).bind fun x56 =>
    (xsub x56 (wr (r35 + 1)) x56.length).bind fun s59 =>
    (ref10_values s59).bind fun r60 =>
    (bif !r60.2 then
     some (.inr (.inr (([] : List GAxis), 1)))
    else
     (xnth r7 y_19).bind fun x68 =>
     (xsub x68 0 r35).bind fun s71 =>
     (ref01_Lower s71).bind fun r72 =>
     (xapp y_15 ([(⟨r72, r60.1⟩ : GAxis)] : List GAxis)).bind fun l82 =>
     some (.inl (l82, wr (y_19 + 1)))))
  else
   some (.inr (.inl y_15)))
noncomputable def ref10_ParseVariants (p_ppend : (List GField)) : Option ((List GAxis) × Int) :=
 (ref01_Has p_ppend [86, 97, 114, 105, 97, 110, 116, 115]).bind fun r1 =>
 (bif !r1 then
  some (([] : List GAxis), 12)
 else
  (ref01_All p_ppend [86, 97, 114, 105, 97, 110, 116, 115]).bind fun r7 =>
  (whileO (ref10_ParseVariants_L0 r7) (([] : List GAxis), 0)).bind fun r29 => match r29 with
  | .inr e => some e
  | .inl y_22 =>
   (ref10_Valid y_22).bind fun r88 =>
   (bif !r88 then
    some (([] : List GAxis), 11)
   else
    some (y_22, 0)))
noncomputable def ref10_ParseKeys_L0 (r7 : (List Str)) : ((List (List Str)) × Int) → Option (((List (List Str)) × Int) ⊕ ((List (List Str)) ⊕ ((List (List Str)) × Int)))
 | (y_17, y_21) =>
  (bif decide (y_21 < (r7.length : Int)) then
   (xnth r7 y_21).bind fun x35 =>
   (ref10_values x35).bind fun r38 =>
   (bif !r38.2 then
    some (.inr (.inr (([] : List (List Str)), 1)))
   else
    (xapp y_17 ([r38.1] : List (List Str))).bind fun l51 =>
    some (.inl (l51, wr (y_21 + 1))))
  else
   some (.inr (.inl y_17)))
noncomputable def ref10_ParseKeys_L1 (p_x1 : (List GAxis)) (y_25 : (List (List Str))) (y_64 : Int) (y_92 : Int) : (Int × Int) → Option ((Int × Int) ⊕ Int)
 | (y_116, y_118) =>
  (xnth p_x1 y_92).bind fun x134 =>
  (bif decide (y_118 < (x134.fValues.length : Int)) then
   (xnth p_x1 y_92).bind fun x144 =>
   (xnth y_25 y_64).bind fun x150 =>
   (xnth x150 y_92).bind fun x155 =>
   (xnth p_x1 y_92).bind fun x158 =>
   (xnth x158.fValues y_118).bind fun x164 =>
   (ref10_Same x144.fName x155 x164).bind fun r167 =>
   (bif r167 then
    some (.inl (y_118, wr (y_118 + 1)))
   else
    some (.inl (y_116, wr (y_118 + 1))))
  else
   some (.inr y_116))
noncomputable def ref10_ParseKeys_L2 (p_x1 : (List GAxis)) (y_25 : (List (List Str))) (y_64 : Int) : ((List Str) × Int) → Option (((List Str) × Int) ⊕ ((List Str) ⊕ (((List (List Str)) × Int) ⊕ ((List (List Str)) ⊕ ((List (List Str)) × Int)))))
 | (y_88, y_92) =>
  (bif decide (y_92 < (p_x1.length : Int)) then
   (whileO (ref10_ParseKeys_L1 p_x1 y_25 y_64 y_92) ((-1), 0)).bind fun y_127 =>
   (bif decide (y_127 < 0) then
    some (.inr (.inr (.inr (.inr (([] : List (List Str)), 11)))))
   else
    (xnth p_x1 y_92).bind fun x174 =>
    (xnth x174.fValues y_127).bind fun x180 =>
    (xapp y_88 ([x180] : List Str)).bind fun l188 =>
    some (.inl (l188, wr (y_92 + 1))))
  else
   some (.inr (.inl y_88)))
noncomputable def ref10_ParseKeys_L3 (y_60 : (List (List Str))) (y_99 : (List Str)) : (Bool × Int) → Option ((Bool × Int) ⊕ Bool)
 | (y_200, y_202) =>
  (bif decide (y_202 < (y_60.length : Int)) then
   (bif y_200 then
    some true
   else
    (xnth y_60 y_202).bind fun x220 =>
    (ref10_SameStrings x220 y_99).bind fun r225 =>
    some (r225)).bind fun b230 =>
   some (.inl (b230, wr (y_202 + 1)))
  else
   some (.inr y_200))
noncomputable def ref10_ParseKeys_L4 (p_x1 : (List GAxis)) (y_25 : (List (List Str))) : ((List (List Str)) × Int) → Option (((List (List Str)) × Int) ⊕ ((List (List Str)) ⊕ ((List (List Str)) × Int)))
 | (y_60, y_64) =>
  (bif decide (y_64 < (y_25.length : Int)) then
   (xnth y_25 y_64).bind fun x77 =>
   (bif (x77.length : Int) != (p_x1.length : Int) then
    some (.inr (.inr (([] : List (List Str)), 11)))
   else
    (whileO (ref10_ParseKeys_L2 p_x1 y_25 y_64) (([] : List Str), 0)).bind fun r106 => match r106 with
    | .inr e => some e
    | .inl y_99 =>
     (whileO (ref10_ParseKeys_L3 y_60 y_99) (false, 0)).bind fun y_210 =>
     (bif !y_210 then
      (xapp y_60 ([y_99] : List (List Str))).bind fun l240 =>
      some (.inl (l240, wr (y_64 + 1)))
     else
      some (.inl (y_60, wr (y_64 + 1)))))
  else
   some (.inr (.inl y_60)))
noncomputable def ref10_ParseKeys (p_ppend : (List GField)) (p_x1 : (List GAxis)) : Option ((List (List Str)) × Int) :=
 (ref10_Valid p_x1).bind fun r1 =>
 (bif !r1 then
  some (([] : List (List Str)), 10)
 else
  (ref01_All p_ppend [86, 97, 114, 105, 97, 110, 116, 45, 75, 101, 121]).bind fun r7 =>
  (bif (r7.length : Int) == 0 then
   some (([] : List (List Str)), 12)
  else
   (whileO (ref10_ParseKeys_L0 r7) (([] : List (List Str)), 0)).bind fun r32 => match r32 with
   | .inr e => some e
   | .inl y_25 =>
    (whileO (ref10_ParseKeys_L4 p_x1 y_25) (([] : List (List Str)), 0)).bind fun r74 => match r74 with
    | .inr e => some e
    | .inl y_67 =>
     some (y_67, 0)))
noncomputable def ref26_Make (p_q : GRequest) (p_r : GResponse) (p_requested : Int) (p_received : Int) : Option (GEntry × (List GAxis)) :=
 (ref19_Strip p_r.fFields).bind fun r7 =>
 (ref10_ParseVariants p_r.fFields).bind fun r42 =>
 (ref10_ParseKeys p_r.fFields r42.1).bind fun r49 =>
 (bif ((r42.2 == 0) && (r49.2 == 0)) then
  some ((⟨r49.1, ([] : List Str), ([] : List Str), p_r.fReason, r7, p_r.fBody, p_requested, p_received⟩ : GEntry), r42.1)
 else
  (ref19_VaryNames p_r.fFields).bind fun r61 =>
  (ref19_Snapshot r61.1 p_q.fFields).bind fun r69 =>
  some ((⟨([] : List (List Str)), r61.1, r69, p_r.fReason, r7, p_r.fBody, p_requested, p_received⟩ : GEntry), ([] : List GAxis)))
noncomputable def ref10_Equal_L0 (p_a : (List GAxis)) (p_b : (List GAxis)) (i_5 : Int) : Option (Int ⊕ (Unit ⊕ Bool)) :=
  (bif decide (i_5 < (p_a.length : Int)) then
   (xnth p_a i_5).bind fun x17 =>
   (xnth p_b i_5).bind fun x23 =>
   (bif x17.fName != x23.fName then
    some true
   else
    (xnth p_a i_5).bind fun x31 =>
    (xnth p_b i_5).bind fun x37 =>
    (ref10_SameStrings x31.fValues x37.fValues).bind fun r43 =>
    some (!r43)).bind fun b48 =>
   (bif b48 then
    some (.inr (.inr false))
   else
    some (.inl (wr (i_5 + 1))))
  else
   some (.inr (.inl ())))
noncomputable def ref10_Equal (p_a : (List GAxis)) (p_b : (List GAxis)) : Option Bool :=
 (bif (p_a.length : Int) != (p_b.length : Int) then
  some false
 else
  (whileO (ref10_Equal_L0 p_a p_b) 0).bind fun r11 => match r11 with
  | .inr e => some e
  | .inl _ =>
   some true)
noncomputable def group_bare (p_s : Str) : Option Int :=
 (strings_IndexAny p_s [32, 9, 40, 41, 44, 34]).bind fun r1 =>
 (bif decide (0 ≤ r1) then
  some r1
 else
  some (p_s.length : Int))
noncomputable def group_Read_L0 : (Str × (List Str)) → Option ((Str × (List Str)) ⊕ ((List Str) × Bool))
 | (ppend_12, y_14) =>
  (strings_TrimLeft ppend_12 [32]).bind fun r23 =>
  (bif r23 == [] then
   some (.inr (y_14, true))
  else
   (group_bare r23).bind fun r29 =>
   (xnth r23 0).bind fun c34 =>
   ((bif c34 == 34 then
    (group_quoted r23).bind fun r43 =>
    some r43
   else
    some r29)).bind fun (y_38 : Int) =>
   (bif y_38 == 0 then
    some true
   else
    (bif decide (y_38 < (r23.length : Int)) then
     (xnth r23 y_38).bind fun c52 =>
     some (c52 != 32)
    else
     some false).bind fun b53 =>
    some (b53)).bind fun b54 =>
   (bif b54 then
    some (.inr (([] : List Str), false))
   else
    (xsub r23 0 y_38).bind fun s56 =>
    (xnth r23 0).bind fun c57 =>
    ((bif c57 == 34 then
     (ascii_Unquote s56).bind fun r67 =>
     (bif !r67.2 then
      some (.inr (.inr (([] : List Str), false)))
     else
      some (.inl r67.1))
    else
     some (.inl s56))).bind fun (j65 : (Str ⊕ ((Str × (List Str)) ⊕ ((List Str) × Bool)))) => match j65 with
    | .inr e => some e
    | .inl y_62 =>
     (xapp y_14 ([y_62] : List Str)).bind fun l78 =>
     (xsub r23 y_38 r23.length).bind fun s84 =>
     some (.inl (s84, l78))))
noncomputable def group_Read (p_ppend : Str) : Option ((List Str) × Bool) :=
 (bif decide ((p_ppend.length : Int) < 2) then
  some true
 else
  (xnth p_ppend 0).bind fun c3 =>
  some (c3 != 40)).bind fun b4 =>
 (bif b4 then
  some true
 else
  (xnth p_ppend (wr ((p_ppend.length : Int) - 1))).bind fun c7 =>
  some (c7 != 41)).bind fun b8 =>
 (bif b8 then
  some (([] : List Str), false)
 else
  (xsub p_ppend 1 (wr ((p_ppend.length : Int) - 1))).bind fun s10 =>
  (whileO (group_Read_L0) (s10, ([] : List Str))).bind fun r21 => some r21)
noncomputable def variants_Parse_L0 (r7 : (List Str)) : ((List GAxis) × Int) → Option (((List GAxis) × Int) ⊕ ((List GAxis) ⊕ ((List GAxis) × Int)))
 | (out_14, y_20) =>
  (bif decide (y_20 < (r7.length : Int)) then
   (xnth r7 y_20).bind fun x33 =>
   (strings_Cut x33 [61]).bind fun r36 =>
   (group_Read r36.2.1).bind fun r41 =>
   (bif !r41.2 then
    some true
   else
    (ascii_Token r36.1).bind fun r50 =>
    some (!r50)).bind fun b55 =>
   (bif b55 then
    some (.inr (.inr (([] : List GAxis), 1)))
   else
    (ascii_Lower r36.1).bind fun r60 =>
    (xapp out_14 ([(⟨r60, r41.1⟩ : GAxis)] : List GAxis)).bind fun l70 =>
    some (.inl (l70, wr (y_20 + 1))))
  else
   some (.inr (.inl out_14)))
noncomputable def variants_Parse (p_l : (List GField)) : Option ((List GAxis) × Int) :=
 (fieldline_Has p_l [86, 97, 114, 105, 97, 110, 116, 115]).bind fun r1 =>
 (bif !r1 then
  some (([] : List GAxis), 12)
 else
  (list_All p_l [86, 97, 114, 105, 97, 110, 116, 115]).bind fun r7 =>
  (whileO (variants_Parse_L0 r7) (([] : List GAxis), 0)).bind fun r30 => match r30 with
  | .inr e => some e
  | .inl out_23 =>
   (variants_Valid out_23).bind fun r76 =>
   (bif !r76 then
    some (([] : List GAxis), 11)
   else
    some (out_23, 0)))
noncomputable def variantkey_Parse_L0 (r7 : (List Str)) : ((List (List Str)) × Int) → Option (((List (List Str)) × Int) ⊕ ((List (List Str)) ⊕ ((List (List Str)) × Int)))
 | (y_16, y_22) =>
  (bif decide (y_22 < (r7.length : Int)) then
   (xnth r7 y_22).bind fun x36 =>
   (group_Read x36).bind fun r39 =>
   (bif !r39.2 then
    some (.inr (.inr (([] : List (List Str)), 1)))
   else
    (xapp y_16 ([r39.1] : List (List Str))).bind fun l52 =>
    some (.inl (l52, wr (y_22 + 1))))
  else
   some (.inr (.inl y_16)))
noncomputable def variantkey_Parse_L1 (p_x1 : (List GAxis)) (y_26 : (List (List Str))) : ((List (List Str)) × Int) → Option (((List (List Str)) × Int) ⊕ ((List (List Str)) ⊕ ((List (List Str)) × Int)))
 | (y_60, y_66) =>
  (bif decide (y_66 < (y_26.length : Int)) then
   (xnth y_26 y_66).bind fun x79 =>
   (variantkey_resolve p_x1 x79).bind fun r84 =>
   (bif !r84.2 then
    some (.inr (.inr (([] : List (List Str)), 11)))
   else
    (slices_ContainsFunc_LL_string_string y_60 (fun x0 => variantkey_Parse_1 x0 r84.1)).bind fun r99 =>
    (bif !r99 then
     (xapp y_60 ([r84.1] : List (List Str))).bind fun l110 =>
     some (.inl (l110, wr (y_66 + 1)))
    else
     some (.inl (y_60, wr (y_66 + 1)))))
  else
   some (.inr (.inl y_60)))
noncomputable def variantkey_Parse (p_ppend : (List GField)) (p_x1 : (List GAxis)) : Option ((List (List Str)) × Int) :=
 (variants_Valid p_x1).bind fun r1 =>
 (bif !r1 then
  some (([] : List (List Str)), 10)
 else
  (list_All p_ppend [86, 97, 114, 105, 97, 110, 116, 45, 75, 101, 121]).bind fun r7 =>
  (bif (r7.length : Int) == 0 then
   some (([] : List (List Str)), 12)
  else
   (whileO (variantkey_Parse_L0 r7) (([] : List (List Str)), 0)).bind fun r33 => match r33 with
   | .inr e => some e
   | .inl y_26 =>
    (whileO (variantkey_Parse_L1 p_x1 y_26) (([] : List (List Str)), 0)).bind fun r76 => match r76 with
    | .inr e => some e
    | .inl y_69 =>
     some (y_69, 0)))
noncomputable def hop_Strip_L0 (r6 : (List Str)) : (Int × (List (Str × Bool))) → Option ((Int × (List (Str × Bool))) ⊕ (List (Str × Bool)))
 | (y_17, m19) =>
  (bif decide (y_17 < (r6.length : Int)) then
   (xnth r6 y_17).bind fun x30 =>
   (ascii_Lower x30).bind fun r36 =>
   some (.inl (wr (y_17 + 1), (mset m19 r36 true)))
  else
   some (.inr m19))
noncomputable def hop_Strip_L1 (p_l : (List GField)) (m61 : (List (Str × Bool))) : ((List GField) × Int) → Option (((List GField) × Int) ⊕ (List GField))
 | (out_70, y_76) =>
  (bif decide (y_76 < (p_l.length : Int)) then
   (xnth p_l y_76).bind fun x89 =>
   (ascii_Lower x89.fName).bind fun r98 =>
   (some (mget m61 r98 false)).bind fun g103 =>
   (bif !g103.1 then
    (xapp out_70 ([x89] : List GField)).bind fun l110 =>
    some (.inl (l110, wr (y_76 + 1)))
   else
    some (.inl (out_70, wr (y_76 + 1))))
  else
   some (.inr out_70))
noncomputable def hop_Strip (p_l : (List GField)) : Option (List GField) :=
 (list_All p_l [67, 111, 110, 110, 101, 99, 116, 105, 111, 110]).bind fun r6 =>
 (whileO (hop_Strip_L0 r6) (0, ([] : List (Str × Bool)))).bind fun m23 =>
 (some ((pieces 32 [104, 111, 115, 116, 32, 99, 97, 99, 104, 101, 45, 99, 111, 110, 116, 114, 111, 108, 32, 118, 97, 114, 121, 32, 118, 97, 114, 105, 97, 110, 116, 115, 32, 118, 97, 114, 105, 97, 110, 116, 45, 107, 101, 121, 32, 118, 105, 97]).foldl (fun m k => mdel m k) m23)).bind fun m48 =>
 (some ((pieces 32 [99, 111, 110, 110, 101, 99, 116, 105, 111, 110, 32, 107, 101, 101, 112, 45, 97, 108, 105, 118, 101, 32, 112, 114, 111, 120, 121, 45, 99, 111, 110, 110, 101, 99, 116, 105, 111, 110, 32, 112, 114, 111, 120, 121, 45, 97, 117, 116, 104, 101, 110, 116, 105, 99, 97, 116, 101, 32, 112, 114, 111, 120, 121, 45, 97, 117, 116, 104, 111, 114, 105, 122, 97, 116, 105, 111, 110, 32, 116, 101, 32, 116, 114, 97, 105, 108, 101, 114, 32, 116, 114, 97, 110, 115, 102, 101, 114, 45, 101, 110, 99, 111, 100, 105, 110, 103, 32, 99, 111, 110, 116, 101, 110, 116, 45, 108, 101, 110, 103, 116, 104, 32, 117, 112, 103, 114, 97, 100, 101]).foldl (fun m k => mset m k true) m48)).bind fun m61 =>
 (whileO (hop_Strip_L1 p_l m61) (([] : List GField), 0)).bind fun out_79 =>
 some out_79
noncomputable def entry_Make (p_q : GRequest) (p_r : GResponse) (p_requested : Int) (p_received : Int) : Option (GEntry × (List GAxis)) :=
 (hop_Strip p_r.fFields).bind fun r7 =>
 (variants_Parse p_r.fFields).bind fun r42 =>
 (variantkey_Parse p_r.fFields r42.1).bind fun r49 =>
 (bif ((r42.2 == 0) && (r49.2 == 0)) then
  some ((⟨r49.1, ([] : List Str), ([] : List Str), p_r.fReason, r7, p_r.fBody, p_requested, p_received⟩ : GEntry), r42.1)
 else
  (vary_Names p_r.fFields).bind fun r61 =>
  (vary_Snapshot r61.1 p_q.fFields).bind fun r69 =>
  some ((⟨([] : List (List Str)), r61.1, r69, p_r.fReason, r7, p_r.fBody, p_requested, p_received⟩ : GEntry), ([] : List GAxis)))
noncomputable def law26_EntryMakes (p_q : GRequest) (p_r : GResponse) (p_requested : Int) (p_received : Int) : Option Bool :=
 (keep_Request p_q).bind fun r5 =>
 (bif !r5 then
  some true
 else
  (keep_Response p_r).bind fun r12 =>
  some (!r12)).bind fun b17 =>
 (bif b17 then
  some true
 else
  (entry_Make p_q p_r p_requested p_received).bind fun r22 =>
  (ref26_Make p_q p_r p_requested p_received).bind fun r40 =>
  (ref26_Equal r22.1 r40.1).bind fun r58 =>
  (bif r58 then
   (ref10_Equal r22.2 r40.2).bind fun r65 =>
   some (r65)
  else
   some false).bind fun b70 =>
  (bif b70 then
   (law26_awake).bind fun r76 =>
   some (r76)
  else
   some false).bind fun b81 =>
  some b81)
end Go.Eng.Pure
