/- A part of the proof of laws of the seat: written by program over the translation. -/
import Derived.Test.YtogfdiigokidaaaGreatDoorPure1
namespace Go.Eng.Pure
open Go Go.Eng
set_option linter.unusedVariables false
/-- variantproxy/variantproxyref26.SameFields -/
noncomputable def ref26_SameFields_L0 (p_a : (List GField)) (p_b : (List GField)) (i_5 : Int) : Option (Int ⊕ (Unit ⊕ Bool)) :=
    (bif decide (i_5 < (p_a.length : Int)) then
      (xnth p_a i_5).bind fun x17 =>
      (xnth p_b i_5).bind fun x20 =>
      (bif (!((x17.fName == x20.fName) && ((x17.fValue == x20.fValue) && true))) then
        some (.inr (.inr false))
      else
        some (.inl (wr (i_5 + 1))))
    else
      some (.inr (.inl ())))
noncomputable def ref26_SameFields (p_a : (List GField)) (p_b : (List GField)) : Option Bool :=
  (bif (p_a.length : Int) != (p_b.length : Int) then
    some false
  else
    (whileO (ref26_SameFields_L0 p_a p_b) 0).bind fun r11 => match r11 with
    | .inr e => some e
    | .inl _ =>
      some true)
/-- variantproxy/fieldline.Remove$1 -/
noncomputable def fieldline_Remove_1 (p_f : GField) (c_x0 : (GField → Option Bool)) : Option Bool :=
  (c_x0 p_f).bind fun r3 =>
  some (!r3)
/-- variantproxy/fieldline.Remove -/
noncomputable def fieldline_Remove (p_l : (List GField)) (p_name : Str) : Option (List GField) :=
  (fieldline_named p_name).bind fun r1 =>
  (fieldline_filter p_l (fun x0 => fieldline_Remove_1 x0 r1)).bind fun r13 =>
  some r13
/-- variantproxy/ascii.Decimal -/
noncomputable def ascii_Decimal (p_n : Int) : Option Str :=
  (strconv_Itoa p_n).bind fun r1 =>
  some r1
/-- variantproxy/hop.Via -/
noncomputable def hop_Via (p_l : (List GField)) (p_minor : Int) (p_name : Str) : Option (List GField) :=
  (xapp ([] : List GField) p_l).bind fun l1 =>
  (ascii_Decimal p_minor).bind fun r7 =>
  (xcat [49, 46] r7).bind fun s12 =>
  (xcat s12 [32]).bind fun s13 =>
  (xcat s13 p_name).bind fun s14 =>
  (xapp l1 ([(⟨[86, 105, 97], s14⟩ : GField)] : List GField)).bind fun l20 =>
  some l20
/-- variantproxy/entry.respond -/
noncomputable def entry_respond (p_e : GEntry) (p_age : Int) (p_name : Str) : Option GResponse :=
  (fieldline_Remove p_e.fFields [65, 103, 101]).bind fun r5 =>
  (ascii_Decimal p_age).bind fun r13 =>
  (xapp r5 ([(⟨[65, 103, 101], r13⟩ : GField)] : List GField)).bind fun l23 =>
  (hop_Via l23 1 p_name).bind fun r29 =>
  some (⟨1, 200, p_e.fReason, r29, p_e.fBody⟩ : GResponse)
/-- variantproxy/entry.Response -/
noncomputable def entry_Response (p_e : GEntry) (p_now : Int) (p_name : Str) : Option GResponse :=
  (entry_Age p_e p_now).bind fun r8 =>
  (entry_respond p_e r8 p_name).bind fun r13 =>
  some r13
/-- variantproxy/variantproxylaw26.awake -/
noncomputable def law26_awake : Option Bool :=
  (entry_Response (⟨([] : List (List Str)), ([] : List Str), ([] : List Str), [79, 75], ([(⟨[97, 103, 101], [50]⟩ : GField)] : List GField), [120], 0, 0⟩ : GEntry) 5 [112]).bind fun r9 =>
  (entry_Size (⟨([] : List (List Str)), ([] : List Str), ([] : List Str), [79, 75], ([] : List GField), [], 0, 0⟩ : GEntry)).bind fun r19 =>
  (bif ((((r19 == 102) && (r9.fStatus == 200)) && (r9.fBody == [120])) && ((r9.fFields.length : Int) == 2)) then
    (xnth r9.fFields 0).bind fun x32 =>
    some (x32.fValue == [55])
  else
    some false).bind fun b36 =>
  (bif b36 then
    (xnth r9.fFields 1).bind fun x39 =>
    some (x39.fValue == [49, 46, 49, 32, 112])
  else
    some false).bind fun b43 =>
  some b43
/-- variantproxy/variantproxyref19.Via -/
noncomputable def ref19_Via (p_l : (List GField)) (p_minor : Int) (p_name : Str) : Option (List GField) :=
  (xapp ([] : List GField) p_l).bind fun l1 =>
  (ref01_Decimal p_minor).bind fun r7 =>
  (xcat [49, 46] r7).bind fun s12 =>
  (xcat s12 [32]).bind fun s13 =>
  (xcat s13 p_name).bind fun s14 =>
  (xapp l1 ([(⟨[86, 105, 97], s14⟩ : GField)] : List GField)).bind fun l20 =>
  some l20
/-- variantproxy/variantproxyref26.response -/
noncomputable def ref26_response (p_e : GEntry) (p_age : Int) (p_name : Str) : Option GResponse :=
  (ref01_Remove p_e.fFields [65, 103, 101]).bind fun r5 =>
  (ref01_Decimal p_age).bind fun r13 =>
  (xapp r5 ([(⟨[65, 103, 101], r13⟩ : GField)] : List GField)).bind fun l23 =>
  (ref19_Via l23 1 p_name).bind fun r29 =>
  some (⟨1, 200, p_e.fReason, r29, p_e.fBody⟩ : GResponse)
/-- variantproxy/variantproxyref26.Response -/
noncomputable def ref26_Response (p_e : GEntry) (p_now : Int) (p_name : Str) : Option GResponse :=
  (ref26_Age p_e p_now).bind fun r8 =>
  (ref26_response p_e r8 p_name).bind fun r13 =>
  some r13
/-- variantproxy/variantproxykeep.SameResponse -/
noncomputable def keep_SameResponse (p_a : GResponse) (p_b : GResponse) : Option Bool :=
  (bif (((p_a.fMinor == p_b.fMinor) && (p_a.fStatus == p_b.fStatus)) && (p_a.fReason == p_b.fReason)) then
    (ref26_SameFields p_a.fFields p_b.fFields).bind fun r11 =>
    some (r11)
  else
    some false).bind fun b16 =>
  some (b16 && (p_a.fBody == p_b.fBody))
/-- internal/stringslite.Cut -/
noncomputable def stringslite_Cut (p_s : Str) (p_sep : Str) : Option (Str × Str × Bool) :=
  (stringslite_Index p_s p_sep).bind fun r1 =>
  (bif decide (0 ≤ r1) then
    (xsub p_s 0 r1).bind fun s10 =>
    (xsub p_s (wr (r1 + (p_sep.length : Int))) p_s.length).bind fun s11 =>
    some (s10, s11, true)
  else
    some (p_s, [], false))
/-- strings.Cut -/
noncomputable def strings_Cut (p_s : Str) (p_sep : Str) : Option (Str × Str × Bool) :=
  (stringslite_Cut p_s p_sep).bind fun r1 =>
  some (r1.1, r1.2.1, r1.2.2)
/-- variantproxy/startline.digit -/
noncomputable def startline_digit (p_c : UInt8) : Option Bool :=
  some ((decide (48 ≤ p_c)) && (decide (p_c ≤ 57)))
/-- variantproxy/startline.status -/
noncomputable def startline_status (p_s : Str) : Option (Int × Bool) :=
  (bif (p_s.length : Int) != 3 then
    some true
  else
    (xnth p_s 0).bind fun c3 =>
    some (decide (c3 < 49))).bind fun b4 =>
  (bif b4 then
    some true
  else
    (xnth p_s 0).bind fun c7 =>
    some (decide (53 < c7))).bind fun b8 =>
  (bif b8 then
    some true
  else
    (xnth p_s 1).bind fun c11 =>
    (startline_digit c11).bind fun r12 =>
    some (!r12)).bind fun b17 =>
  (bif b17 then
    some true
  else
    (xnth p_s 2).bind fun c23 =>
    (startline_digit c23).bind fun r24 =>
    some (!r24)).bind fun b29 =>
  (bif b29 then
    some (0, false)
  else
    (ascii_Number p_s).bind fun r34 =>
    some (r34.1, true))
/-- variantproxy/startline.version -/
noncomputable def startline_version (p_s : Str) : Option (Int × Unit) :=
  (bif (p_s.length : Int) != 8 then
    some true
  else
    (xsub p_s 0 5).bind fun s3 =>
    some (s3 != [72, 84, 84, 80, 47])).bind fun b4 =>
  (bif b4 then
    some true
  else
    (xnth p_s 5).bind fun c7 =>
    (startline_digit c7).bind fun r8 =>
    some (!r8)).bind fun b13 =>
  (bif b13 then
    some true
  else
    (xnth p_s 6).bind fun c19 =>
    some (c19 != 46)).bind fun b20 =>
  (bif b20 then
    some true
  else
    (xnth p_s 7).bind fun c23 =>
    (startline_digit c23).bind fun r24 =>
    some (!r24)).bind fun b29 =>
  (bif b29 then
    none
  else
    (xnth p_s 5).bind fun c37 =>
    (bif c37 != 49 then
      some true
    else
      (xnth p_s 7).bind fun c40 =>
      some (decide (49 < c40))).bind fun b41 =>
    (bif b41 then
      none
    else
      (xnth p_s 7).bind fun c46 =>
      some (((c46 - 48).toNat : Int), ())))
/-- variantproxy/startline.ParseStatus -/
noncomputable def startline_ParseStatus (p_line : Str) : Option (Int × Int × Str × Int) :=
  (bif decide (2000 < (p_line.length : Int)) then
    some (0, 0, [], 4)
  else
    (strings_Cut p_line [32]).bind fun r2 =>
    (strings_Cut r2.2.1 [32]).bind fun r7 =>
    (startline_status r7.1).bind fun r12 =>
    (bif ((!r7.2.2) || (!r12.2)) then
      some true
    else
      (ascii_Text r7.2.1).bind fun r21 =>
      some (!r21)).bind fun b26 =>
    (bif b26 then
      some (0, 0, [], 1)
    else
      (startline_version r2.1).bind fun r31 =>
      some (r31.1, r12.1, r7.2.1, 0)))
/-- variantproxy/startline.FormatStatus -/
noncomputable def startline_FormatStatus (p_minor : Int) (p_status : Int) (p_reason : Str) : Option Str :=
  (strconv_Itoa p_minor).bind fun r1 =>
  (xcat [72, 84, 84, 80, 47, 49, 46] r1).bind fun s6 =>
  (xcat s6 [32]).bind fun s7 =>
  (strconv_Itoa p_status).bind fun r8 =>
  (xcat s7 r8).bind fun s13 =>
  (xcat s13 [32]).bind fun s14 =>
  (xcat s14 p_reason).bind fun s15 =>
  (startline_ParseStatus s15).bind fun r16 =>
  (bif ((((r16.2.2.2 != 0) || (r16.1 != p_minor)) || (r16.2.1 != p_status)) || (r16.2.2.1 != p_reason)) then
    some []
  else
    some s15)
/-- variantproxy/message.Bodiless -/
noncomputable def message_Bodiless (p_status : Int) (p_method : Str) : Option Bool :=
  some (((((decide (100 ≤ p_status)) && (decide (p_status ≤ 199))) || (p_status == 204)) || (p_status == 304)) || (p_method == [72, 69, 65, 68]))
/-- variantproxy/fieldline.line -/
noncomputable def fieldline_line (p_f : GField) : Option Str :=
  (bif p_f.fValue == [] then
    (xcat p_f.fName [58]).bind fun s4 =>
    some s4
  else
    (xcat p_f.fName [58, 32]).bind fun s5 =>
    (xcat s5 p_f.fValue).bind fun s6 =>
    some s6)
/-- variantproxy/fieldline.Valid -/
noncomputable def fieldline_Valid (p_f : GField) : Option Bool :=
  (ascii_Token p_f.fName).bind fun r6 =>
  (bif r6 then
    (ascii_Text p_f.fValue).bind fun r13 =>
    some (r13)
  else
    some false).bind fun b18 =>
  (bif b18 then
    (ascii_Trim p_f.fValue).bind fun r21 =>
    some (r21 == p_f.fValue)
  else
    some false).bind fun b26 =>
  (bif b26 then
    (fieldline_line p_f).bind fun r29 =>
    some (decide ((r29.length : Int) ≤ 2000))
  else
    some false).bind fun b34 =>
  some b34
/-- variantproxy/fieldline.Format -/
noncomputable def fieldline_Format (p_f : GField) : Option Str :=
  (fieldline_Valid p_f).bind fun r3 =>
  (bif !r3 then
    some []
  else
    (fieldline_line p_f).bind fun r9 =>
    some r9)
/-- (*strings.Builder).copyCheck -/
noncomputable def strings_Builder_copyCheck__nil (s0_buf : (List UInt8)) : Option Unit :=
  some ()
/-- (*strings.Builder).copyCheck -/
noncomputable def strings_Builder_copyCheck__self (s0_buf : (List UInt8)) : Option Unit :=
  some ()
/-- (*strings.Builder).copyCheck -/
noncomputable def strings_Builder_copyCheck__Builder (s0_buf : List UInt8) : Option Unit :=
  some ()
/-- (*strings.Builder).WriteString -/
noncomputable def strings_Builder_WriteString__Builder (p_s : Str) (s0_buf : (List UInt8)) : Option (Int × Unit × (List UInt8)) :=
  (strings_Builder_copyCheck__Builder s0_buf).bind fun r1 =>
  (xapp s0_buf p_s).bind fun l11 =>
  some ((p_s.length : Int), (), l11)
/-- (*strings.Builder).Len -/
noncomputable def strings_Builder_Len__Builder (s0_buf : (List UInt8)) : Option Int :=
  some (s0_buf.length : Int)
/-- (*strings.Builder).String -/
noncomputable def strings_Builder_String__Builder (s0_buf : (List UInt8)) : Option Str :=
  some s0_buf
/-- variantproxy/message.format -/
noncomputable def message_format_L0 (p_fields : (List GField)) : (Int × Int × (List UInt8)) → Option ((Int × Int × (List UInt8)) ⊕ ((List UInt8) ⊕ Str))
  | (n_22, y_26, m30) =>
    (bif decide (y_26 < (p_fields.length : Int)) then
      (xnth p_fields y_26).bind fun x48 =>
      (ascii_Fold x48.fName [67, 111, 110, 116, 101, 110, 116, 45, 76, 101, 110, 103, 116, 104]).bind fun r54 =>
      (bif r54 then
        some true
      else
        (ascii_Fold x48.fName [84, 114, 97, 110, 115, 102, 101, 114, 45, 69, 110, 99, 111, 100, 105, 110, 103]).bind fun r61 =>
        some (r61)).bind fun b66 =>
      (bif b66 then
        some (.inl (n_22, wr (y_26 + 1), m30))
      else
        (fieldline_Format x48).bind fun r71 =>
        (bif ((r71 == []) || (decide (64 ≤ (wr (n_22 + 1))))) then
          some true
        else
          (strings_Builder_Len__Builder m30).bind fun r80 =>
          some (decide (16000 < r80))).bind fun b86 =>
        (bif b86 then
          some (.inr (.inr []))
        else
          (xcat r71 [13, 10]).bind fun s91 =>
          (strings_Builder_WriteString__Builder s91 m30).bind fun r92 =>
          some (.inl (wr (n_22 + 1), wr (y_26 + 1), r92.2.2))))
    else
      some (.inr (.inl m30)))
noncomputable def message_format (p_start : Str) (p_fields : (List GField)) (p_length : Int) (p_body : Str) : Option Str :=
  (bif p_start == [] then
    some []
  else
    (xcat p_start [13, 10]).bind fun s4 =>
    (strings_Builder_WriteString__Builder s4 ([] : List UInt8)).bind fun r8 =>
    (whileO (message_format_L0 p_fields) (0, 0, r8.2.2)).bind fun r45 => match r45 with
    | .inr e => some e
    | .inl m39 =>
      ((bif decide (0 ≤ p_length) then
        (ascii_Decimal p_length).bind fun r113 =>
        (xcat [67, 111, 110, 116, 101, 110, 116, 45, 76, 101, 110, 103, 116, 104, 58, 32] r113).bind fun s118 =>
        (xcat s118 [13, 10]).bind fun s119 =>
        (strings_Builder_WriteString__Builder s119 m39).bind fun r120 =>
        some r120.2.2
      else
        some m39)).bind fun (m107 : (List UInt8)) =>
      (strings_Builder_WriteString__Builder [13, 10] m107).bind fun r130 =>
      (strings_Builder_Len__Builder r130.2.2).bind fun r140 =>
      (bif decide (16000 < r140) then
        some []
      else
        (strings_Builder_String__Builder r130.2.2).bind fun r147 =>
        (xcat r147 p_body).bind fun s153 =>
        some s153))
/-- variantproxy/message.FormatResponse -/
noncomputable def message_FormatResponse (p_r : GResponse) (p_method : Str) : Option Str :=
  (bif decide (100000 < (p_r.fBody.length : Int)) then
    some []
  else
    (startline_FormatStatus p_r.fMinor p_r.fStatus p_r.fReason).bind fun r4 =>
    (message_Bodiless p_r.fStatus p_method).bind fun r9 =>
    (bif r9 then
      (message_format r4 p_r.fFields (-1) []).bind fun r15 =>
      some r15
    else
      (message_format r4 p_r.fFields (p_r.fBody.length : Int) p_r.fBody).bind fun r20 =>
      some r20))
/-- variantproxy/entry.Sendable -/
noncomputable def entry_Sendable (p_e : GEntry) (p_name : Str) : Option Bool :=
  (entry_respond p_e 2147483647 p_name).bind fun r3 =>
  (message_FormatResponse r3 [71, 69, 84]).bind fun r10 =>
  some (r10 != [])
/-- variantproxy/variantproxyref01.Bodiless -/
noncomputable def ref01_Bodiless (p_status : Int) (p_method : Str) : Option Bool :=
  some (((((decide (100 ≤ p_status)) && (decide (p_status ≤ 199))) || (p_status == 204)) || (p_status == 304)) || (p_method == [72, 69, 65, 68]))
/-- variantproxy/variantproxyref01.version -/
noncomputable def ref01_version (p_s : Str) : Option (Int × Int) :=
  (bif (p_s.length : Int) != 8 then
    some true
  else
    (xsub p_s 0 5).bind fun s3 =>
    some (s3 != [72, 84, 84, 80, 47])).bind fun b4 =>
  (bif b4 then
    some true
  else
    (xnth p_s 5).bind fun c7 =>
    (ref01_Digit c7).bind fun r8 =>
    some (!r8)).bind fun b13 =>
  (bif b13 then
    some true
  else
    (xnth p_s 6).bind fun c19 =>
    some (c19 != 46)).bind fun b20 =>
  (bif b20 then
    some true
  else
    (xnth p_s 7).bind fun c23 =>
    (ref01_Digit c23).bind fun r24 =>
    some (!r24)).bind fun b29 =>
  (bif b29 then
    some (0, 1)
  else
    (xnth p_s 5).bind fun c34 =>
    (bif c34 != 49 then
      some true
    else
      (xnth p_s 7).bind fun c37 =>
      some (decide (49 < c37))).bind fun b38 =>
    (bif b38 then
      some (0, 3)
    else
      (xnth p_s 7).bind fun c40 =>
      some (((c40 - 48).toNat : Int), 0)))
/-- variantproxy/variantproxyref01.ParseStatusLine -/
noncomputable def ref01_ParseStatusLine (p_ppend : Str) : Option (Int × Int × Str × Int) :=
  (bif decide (2000 < (p_ppend.length : Int)) then
    some (0, 0, [], 4)
  else
    (bif decide ((p_ppend.length : Int) < 13) then
      some true
    else
      (xnth p_ppend 8).bind fun c4 =>
      some (c4 != 32)).bind fun b5 =>
    (bif b5 then
      some true
    else
      (xnth p_ppend 9).bind fun c8 =>
      some (decide (c8 < 49))).bind fun b9 =>
    (bif b9 then
      some true
    else
      (xnth p_ppend 9).bind fun c12 =>
      some (decide (53 < c12))).bind fun b13 =>
    (bif b13 then
      some true
    else
      (xnth p_ppend 10).bind fun c16 =>
      (ref01_Digit c16).bind fun r17 =>
      some (!r17)).bind fun b22 =>
    (bif b22 then
      some true
    else
      (xnth p_ppend 11).bind fun c28 =>
      (ref01_Digit c28).bind fun r29 =>
      some (!r29)).bind fun b34 =>
    (bif b34 then
      some true
    else
      (xnth p_ppend 12).bind fun c40 =>
      some (c40 != 32)).bind fun b41 =>
    (bif b41 then
      some true
    else
      (xsub p_ppend 13 p_ppend.length).bind fun s44 =>
      (ref01_Text s44).bind fun r45 =>
      some (!r45)).bind fun b50 =>
    (bif b50 then
      some (0, 0, [], 1)
    else
      (xsub p_ppend 0 8).bind fun s55 =>
      (ref01_version s55).bind fun r56 =>
      (bif r56.2 != 0 then
        some (0, 0, [], r56.2)
      else
        (xsub p_ppend 9 12).bind fun s62 =>
        (ref01_Number s62).bind fun r63 =>
        (xsub p_ppend 13 p_ppend.length).bind fun s71 =>
        some (r56.1, r63.1, s71, 0))))
/-- variantproxy/variantproxyref01.FormatStatusLine -/
noncomputable def ref01_FormatStatusLine (p_minor : Int) (p_status : Int) (p_reason : Str) : Option Str :=
  (bif (((((decide (p_minor < 0)) || (decide (1 < p_minor))) || (decide (p_status < 100))) || (decide (599 < p_status))) || (decide (2000 < (p_reason.length : Int)))) then
    some []
  else
    (ref01_Decimal p_minor).bind fun r10 =>
    (xcat [72, 84, 84, 80, 47, 49, 46] r10).bind fun s15 =>
    (xcat s15 [32]).bind fun s16 =>
    (ref01_Decimal p_status).bind fun r17 =>
    (xcat s16 r17).bind fun s22 =>
    (xcat s22 [32]).bind fun s23 =>
    (xcat s23 p_reason).bind fun s24 =>
    (ref01_ParseStatusLine s24).bind fun r25 =>
    (bif r25.2.2.2 != 0 then
      some []
    else
      some s24))
/-- variantproxy/variantproxyref01.Unframed -/
noncomputable def ref01_Unframed (p_l : (List GField)) : Option (List GField) :=
  (ref01_Remove p_l [67, 111, 110, 116, 101, 110, 116, 45, 76, 101, 110, 103, 116, 104]).bind fun r1 =>
  (ref01_Remove r1 [84, 114, 97, 110, 115, 102, 101, 114, 45, 69, 110, 99, 111, 100, 105, 110, 103]).bind fun r7 =>
  some r7
/-- variantproxy/variantproxyref01.form -/
noncomputable def ref01_form (p_f : GField) : Option Str :=
  (bif p_f.fValue == [] then
    (xcat p_f.fName [58]).bind fun s4 =>
    some s4
  else
    (xcat p_f.fName [58, 32]).bind fun s5 =>
    (xcat s5 p_f.fValue).bind fun s6 =>
    some s6)
/-- variantproxy/variantproxyref01.ValidField -/
noncomputable def ref01_ValidField (p_f : GField) : Option Bool :=
  (ref01_Token p_f.fName).bind fun r6 =>
  (bif r6 then
    (ref01_Text p_f.fValue).bind fun r13 =>
    some (r13)
  else
    some false).bind fun b18 =>
  (bif b18 then
    (ref01_Trim p_f.fValue).bind fun r21 =>
    some (r21 == p_f.fValue)
  else
    some false).bind fun b26 =>
  (bif b26 then
    (ref01_form p_f).bind fun r29 =>
    some (decide ((r29.length : Int) ≤ 2000))
  else
    some false).bind fun b34 =>
  some b34
/-- variantproxy/variantproxyref01.joined -/
noncomputable def ref01_joined_L0 (r1 : (List GField)) : (Str × Int) → Option ((Str × Int) ⊕ (Str ⊕ Str))
  | (y_18, y_20) =>
    (bif decide (y_20 < (r1.length : Int)) then
      (xnth r1 y_20).bind fun x34 =>
      (ref01_ValidField x34).bind fun r37 =>
      (bif !r37 then
        some (.inr (.inr []))
      else
        (xnth r1 y_20).bind fun x43 =>
        (ref01_form x43).bind fun r46 =>
        (xcat r46 [13, 10]).bind fun s51 =>
        (xcat y_18 s51).bind fun s52 =>
        some (.inl (s52, wr (y_20 + 1))))
    else
      some (.inr (.inl y_18)))
noncomputable def ref01_joined (p_ppend : Str) (p_x1 : (List GField)) (p_x2 : Str) (p_x3 : Bool) (p_x4 : Bool) : Option Str :=
  (ref01_Unframed p_x1).bind fun r1 =>
  (bif (((p_ppend == []) || (decide (63 < (r1.length : Int)))) || (decide (100000 < (p_x2.length : Int)))) then
    some []
  else
    (xcat p_ppend [13, 10]).bind fun s12 =>
    (whileO (ref01_joined_L0 r1) (s12, 0)).bind fun r31 => match r31 with
    | .inr e => some e
    | .inl y_26 =>
      ((bif p_x3 then
        (ref01_Decimal (p_x2.length : Int)).bind fun r61 =>
        (xcat [67, 111, 110, 116, 101, 110, 116, 45, 76, 101, 110, 103, 116, 104, 58, 32] r61).bind fun s66 =>
        (xcat s66 [13, 10]).bind fun s67 =>
        (xcat y_26 s67).bind fun s68 =>
        some s68
      else
        some y_26)).bind fun (y_56 : Str) =>
      (xcat y_56 [13, 10]).bind fun s69 =>
      (bif decide (16000 < (s69.length : Int)) then
        some []
      else
        ((bif p_x4 then
          (xcat s69 p_x2).bind fun s77 =>
          some s77
        else
          some s69)).bind fun (y_72 : Str) =>
        some y_72))
/-- variantproxy/variantproxyref01.FormatResponse -/
noncomputable def ref01_FormatResponse (p_r : GResponse) (p_method : Str) : Option Str :=
  (ref01_Bodiless p_r.fStatus p_method).bind fun r3 =>
  (ref01_FormatStatusLine p_r.fMinor p_r.fStatus p_r.fReason).bind fun r11 =>
  (ref01_joined r11 p_r.fFields p_r.fBody (!r3) (!r3)).bind fun r16 =>
  some r16
/-- variantproxy/variantproxyref26.Sendable -/
noncomputable def ref26_Sendable (p_e : GEntry) (p_name : Str) : Option Bool :=
  (ref26_response p_e 2147483647 p_name).bind fun r3 =>
  (ref01_FormatResponse r3 [71, 69, 84]).bind fun r10 =>
  some (r10 != [])
/-- variantproxy/variantproxylaw26.EntryResponses -/
noncomputable def law26_EntryResponses (p_e : GEntry) (p_now : Int) (p_name : Str) : Option Bool :=
  (keep_Entry p_e).bind fun r3 =>
  (bif ((!r3) || (decide (300 < (p_name.length : Int)))) then
    some true
  else
    (entry_Response p_e p_now p_name).bind fun r11 =>
    (ref26_Response p_e p_now p_name).bind fun r18 =>
    (keep_SameResponse r11 r18).bind fun r25 =>
    (bif r25 then
      (entry_Sendable p_e p_name).bind fun r32 =>
      (ref26_Sendable p_e p_name).bind fun r37 =>
      some (r32 == r37)
    else
      some false).bind fun b42 =>
    (bif b42 then
      (law26_awake).bind fun r58 =>
      some (r58)
    else
      some false).bind fun b63 =>
    some b63)
end Go.Eng.Pure
