/- A part of the proof of laws of the seat: written by program over the translation. -/
import Derived.Test.YtogfdiigokidaaaGreatDoorPure1
namespace Go.Eng.Pure
open Go Go.Eng
set_option linter.unusedVariables false
/-- variantproxy/fieldline.Remove$1 -/
noncomputable def fieldline_Remove_1 (p_f : GField) (c_x0 : (GField → Option Bool)) : Option Bool :=
  (c_x0 p_f).bind fun r3 =>
  some (!r3)
/-- variantproxy/fieldline.Remove -/
noncomputable def fieldline_Remove (p_l : (List GField)) (p_name : Str) : Option (List GField) :=
  (fieldline_named p_name).bind fun r1 =>
  (fieldline_filter p_l (fun x0 => fieldline_Remove_1 x0 r1)).bind fun r13 =>
  some r13
/-- variantproxy/ascii.Decimal -/
noncomputable def ascii_Decimal (p_n : Int) : Option Str :=
  (strconv_Itoa p_n).bind fun r1 =>
  some r1
/-- variantproxy/hop.Via -/
noncomputable def hop_Via (p_l : (List GField)) (p_minor : Int) (p_name : Str) : Option (List GField) :=
  (xapp ([] : List GField) p_l).bind fun l1 =>
  (ascii_Decimal p_minor).bind fun r7 =>
  (xcat [49, 46] r7).bind fun s12 =>
  (xcat s12 [32]).bind fun s13 =>
  (xcat s13 p_name).bind fun s14 =>
  (xapp l1 ([(⟨[86, 105, 97], s14⟩ : GField)] : List GField)).bind fun l20 =>
  some l20
/-- variantproxy/entry.respond -/
noncomputable def entry_respond (p_e : GEntry) (p_age : Int) (p_name : Str) : Option GResponse :=
  (fieldline_Remove p_e.fFields [65, 103, 101]).bind fun r5 =>
  (ascii_Decimal p_age).bind fun r13 =>
  (xapp r5 ([(⟨[65, 103, 101], r13⟩ : GField)] : List GField)).bind fun l23 =>
  (hop_Via l23 1 p_name).bind fun r29 =>
  some (⟨1, 200, p_e.fReason, r29, p_e.fBody⟩ : GResponse)
/-- variantproxy/entry.Response -/
noncomputable def entry_Response (p_e : GEntry) (p_now : Int) (p_name : Str) : Option GResponse :=
  (entry_Age p_e p_now).bind fun r8 =>
  (entry_respond p_e r8 p_name).bind fun r13 =>
  some r13
/-- variantproxy/variantproxylaw26.awake -/
noncomputable def law26_awake : Option Bool :=
  (entry_Response (⟨([] : List (List Str)), ([] : List Str), ([] : List Str), [79, 75], ([(⟨[97, 103, 101], [50]⟩ : GField)] : List GField), [120], 0, 0⟩ : GEntry) 5 [112]).bind fun r9 =>
  (entry_Size (⟨([] : List (List Str)), ([] : List Str), ([] : List Str), [79, 75], ([] : List GField), [], 0, 0⟩ : GEntry)).bind fun r19 =>
  (bif ((((r19 == 102) && (r9.fStatus == 200)) && (r9.fBody == [120])) && ((r9.fFields.length : Int) == 2)) then
    (xnth r9.fFields 0).bind fun x32 =>
    some (x32.fValue == [55])
  else
    some false).bind fun b36 =>
  (bif b36 then
    (xnth r9.fFields 1).bind fun x39 =>
    some (x39.fValue == [49, 46, 49, 32, 112])
  else
    some false).bind fun b43 =>
  some b43
/-- internal/stringslite.Cut -/
noncomputable def stringslite_Cut (p_s : Str) (p_sep : Str) : Option (Str × Str × Bool) :=
  (stringslite_Index p_s p_sep).bind fun r1 =>
  (bif decide (0 ≤ r1) then
    (xsub p_s 0 r1).bind fun s10 =>
    (xsub p_s (wr (r1 + (p_sep.length : Int))) p_s.length).bind fun s11 =>
    some (s10, s11, true)
  else
    some (p_s, [], false))
/-- strings.Cut -/
noncomputable def strings_Cut (p_s : Str) (p_sep : Str) : Option (Str × Str × Bool) :=
  (stringslite_Cut p_s p_sep).bind fun r1 =>
  some (r1.1, r1.2.1, r1.2.2)
/-- variantproxy/startline.digit -/
noncomputable def startline_digit (p_c : UInt8) : Option Bool :=
  some ((decide (48 ≤ p_c)) && (decide (p_c ≤ 57)))
/-- variantproxy/startline.status -/
noncomputable def startline_status (p_s : Str) : Option (Int × Bool) :=
  (bif (p_s.length : Int) != 3 then
    some true
  else
    (xnth p_s 0).bind fun c3 =>
    some (decide (c3 < 49))).bind fun b4 =>
  (bif b4 then
    some true
  else
    (xnth p_s 0).bind fun c7 =>
    some (decide (53 < c7))).bind fun b8 =>
  (bif b8 then
    some true
  else
    (xnth p_s 1).bind fun c11 =>
    (startline_digit c11).bind fun r12 =>
    some (!r12)).bind fun b17 =>
  (bif b17 then
    some true
  else
    (xnth p_s 2).bind fun c23 =>
    (startline_digit c23).bind fun r24 =>
    some (!r24)).bind fun b29 =>
  (bif b29 then
    some (0, false)
  else
    (ascii_Number p_s).bind fun r34 =>
    some (r34.1, true))
/-- variantproxy/startline.version -/
noncomputable def startline_version (p_s : Str) : Option (Int × Unit) :=
  (bif (p_s.length : Int) != 8 then
    some true
  else
    (xsub p_s 0 5).bind fun s3 =>
    some (s3 != [72, 84, 84, 80, 47])).bind fun b4 =>
  (bif b4 then
    some true
  else
    (xnth p_s 5).bind fun c7 =>
    (startline_digit c7).bind fun r8 =>
    some (!r8)).bind fun b13 =>
  (bif b13 then
    some true
  else
    (xnth p_s 6).bind fun c19 =>
    some (c19 != 46)).bind fun b20 =>
  (bif b20 then
    some true
  else
    (xnth p_s 7).bind fun c23 =>
    (startline_digit c23).bind fun r24 =>
    some (!r24)).bind fun b29 =>
  (bif b29 then
    none
  else
    (xnth p_s 5).bind fun c37 =>
    (bif c37 != 49 then
      some true
    else
      (xnth p_s 7).bind fun c40 =>
      some (decide (49 < c40))).bind fun b41 =>
    (bif b41 then
      none
    else
      (xnth p_s 7).bind fun c46 =>
      some (((c46 - 48).toNat : Int), ())))
/-- variantproxy/startline.ParseStatus -/
noncomputable def startline_ParseStatus (p_line : Str) : Option (Int × Int × Str × Int) :=
  (bif decide (2000 < (p_line.length : Int)) then
    some (0, 0, [], 4)
  else
    (strings_Cut p_line [32]).bind fun r2 =>
    (strings_Cut r2.2.1 [32]).bind fun r7 =>
    (startline_status r7.1).bind fun r12 =>
    (bif ((!r7.2.2) || (!r12.2)) then
      some true
    else
      (ascii_Text r7.2.1).bind fun r21 =>
      some (!r21)).bind fun b26 =>
    (bif b26 then
      some (0, 0, [], 1)
    else
      (startline_version r2.1).bind fun r31 =>
      some (r31.1, r12.1, r7.2.1, 0)))
/-- variantproxy/startline.FormatStatus -/
noncomputable def startline_FormatStatus (p_minor : Int) (p_status : Int) (p_reason : Str) : Option Str :=
  (strconv_Itoa p_minor).bind fun r1 =>
  (xcat [72, 84, 84, 80, 47, 49, 46] r1).bind fun s6 =>
  (xcat s6 [32]).bind fun s7 =>
  (strconv_Itoa p_status).bind fun r8 =>
  (xcat s7 r8).bind fun s13 =>
  (xcat s13 [32]).bind fun s14 =>
  (xcat s14 p_reason).bind fun s15 =>
  (startline_ParseStatus s15).bind fun r16 =>
  (bif ((((r16.2.2.2 != 0) || (r16.1 != p_minor)) || (r16.2.1 != p_status)) || (r16.2.2.1 != p_reason)) then
    some []
  else
    some s15)
/-- variantproxy/message.Bodiless -/
noncomputable def message_Bodiless (p_status : Int) (p_method : Str) : Option Bool :=
  some (((((decide (100 ≤ p_status)) && (decide (p_status ≤ 199))) || (p_status == 204)) || (p_status == 304)) || (p_method == [72, 69, 65, 68]))
/-- variantproxy/fieldline.line -/
noncomputable def fieldline_line (p_f : GField) : Option Str :=
  (bif p_f.fValue == [] then
    (xcat p_f.fName [58]).bind fun s4 =>
    some s4
  else
    (xcat p_f.fName [58, 32]).bind fun s5 =>
    (xcat s5 p_f.fValue).bind fun s6 =>
    some s6)
/-- variantproxy/fieldline.Valid -/
noncomputable def fieldline_Valid (p_f : GField) : Option Bool :=
  (ascii_Token p_f.fName).bind fun r6 =>
  (bif r6 then
    (ascii_Text p_f.fValue).bind fun r13 =>
    some (r13)
  else
    some false).bind fun b18 =>
  (bif b18 then
    (ascii_Trim p_f.fValue).bind fun r21 =>
    some (r21 == p_f.fValue)
  else
    some false).bind fun b26 =>
  (bif b26 then
    (fieldline_line p_f).bind fun r29 =>
    some (decide ((r29.length : Int) ≤ 2000))
  else
    some false).bind fun b34 =>
  some b34
/-- variantproxy/fieldline.Format -/
noncomputable def fieldline_Format (p_f : GField) : Option Str :=
  (fieldline_Valid p_f).bind fun r3 =>
  (bif !r3 then
    some []
  else
    (fieldline_line p_f).bind fun r9 =>
    some r9)
/-- (*strings.Builder).copyCheck -/
noncomputable def strings_Builder_copyCheck__nil (s0_buf : (List UInt8)) : Option Unit :=
  some ()
/-- (*strings.Builder).copyCheck -/
noncomputable def strings_Builder_copyCheck__self (s0_buf : (List UInt8)) : Option Unit :=
  some ()
/-- (*strings.Builder).copyCheck -/
noncomputable def strings_Builder_copyCheck__Builder (s0_buf : List UInt8) : Option Unit :=
  some ()
/-- (*strings.Builder).WriteString -/
noncomputable def strings_Builder_WriteString__Builder (p_s : Str) (s0_buf : (List UInt8)) : Option (Int × Unit × (List UInt8)) :=
  (strings_Builder_copyCheck__Builder s0_buf).bind fun r1 =>
  (xapp s0_buf p_s).bind fun l11 =>
  some ((p_s.length : Int), (), l11)
/-- (*strings.Builder).Len -/
noncomputable def strings_Builder_Len__Builder (s0_buf : (List UInt8)) : Option Int :=
  some (s0_buf.length : Int)
/-- (*strings.Builder).String -/
noncomputable def strings_Builder_String__Builder (s0_buf : (List UInt8)) : Option Str :=
  some s0_buf
/-- variantproxy/message.format -/
noncomputable def message_format_L0 (p_fields : (List GField)) : (Int × Int × (List UInt8)) → Option ((Int × Int × (List UInt8)) ⊕ ((List UInt8) ⊕ Str))
  | (n_22, y_26, m30) =>
    (bif decide (y_26 < (p_fields.length : Int)) then
      (xnth p_fields y_26).bind fun x48 =>
      (ascii_Fold x48.fName [67, 111, 110, 116, 101, 110, 116, 45, 76, 101, 110, 103, 116, 104]).bind fun r54 =>
      (bif r54 then
        some true
      else
        (ascii_Fold x48.fName [84, 114, 97, 110, 115, 102, 101, 114, 45, 69, 110, 99, 111, 100, 105, 110, 103]).bind fun r61 =>
        some (r61)).bind fun b66 =>
      (bif b66 then
        some (.inl (n_22, wr (y_26 + 1), m30))
      else
        (fieldline_Format x48).bind fun r71 =>
        (bif ((r71 == []) || (decide (64 ≤ (wr (n_22 + 1))))) then
          some true
        else
          (strings_Builder_Len__Builder m30).bind fun r80 =>
          some (decide (16000 < r80))).bind fun b86 =>
        (bif b86 then
          some (.inr (.inr []))
        else
          (xcat r71 [13, 10]).bind fun s91 =>
          (strings_Builder_WriteString__Builder s91 m30).bind fun r92 =>
          some (.inl (wr (n_22 + 1), wr (y_26 + 1), r92.2.2))))
    else
      some (.inr (.inl m30)))
noncomputable def message_format (p_start : Str) (p_fields : (List GField)) (p_length : Int) (p_body : Str) : Option Str :=
  (bif p_start == [] then
    some []
  else
    (xcat p_start [13, 10]).bind fun s4 =>
    (strings_Builder_WriteString__Builder s4 ([] : List UInt8)).bind fun r8 =>
    (whileO (message_format_L0 p_fields) (0, 0, r8.2.2)).bind fun r45 => match r45 with
    | .inr e => some e
    | .inl m39 =>
      ((bif decide (0 ≤ p_length) then
        (ascii_Decimal p_length).bind fun r113 =>
        (xcat [67, 111, 110, 116, 101, 110, 116, 45, 76, 101, 110, 103, 116, 104, 58, 32] r113).bind fun s118 =>
        (xcat s118 [13, 10]).bind fun s119 =>
        (strings_Builder_WriteString__Builder s119 m39).bind fun r120 =>
        some r120.2.2
      else
        some m39)).bind fun (m107 : (List UInt8)) =>
      (strings_Builder_WriteString__Builder [13, 10] m107).bind fun r130 =>
      (strings_Builder_Len__Builder r130.2.2).bind fun r140 =>
      (bif decide (16000 < r140) then
        some []
      else
        (strings_Builder_String__Builder r130.2.2).bind fun r147 =>
        (xcat r147 p_body).bind fun s153 =>
        some s153))
/-- variantproxy/message.FormatResponse -/
noncomputable def message_FormatResponse (p_r : GResponse) (p_method : Str) : Option Str :=
  (bif decide (100000 < (p_r.fBody.length : Int)) then
    some []
  else
    (startline_FormatStatus p_r.fMinor p_r.fStatus p_r.fReason).bind fun r4 =>
    (message_Bodiless p_r.fStatus p_method).bind fun r9 =>
    (bif r9 then
      (message_format r4 p_r.fFields (-1) []).bind fun r15 =>
      some r15
    else
      (message_format r4 p_r.fFields (p_r.fBody.length : Int) p_r.fBody).bind fun r20 =>
      some r20))
/-- variantproxy/entry.Sendable -/
noncomputable def entry_Sendable (p_e : GEntry) (p_name : Str) : Option Bool :=
  (entry_respond p_e 2147483647 p_name).bind fun r3 =>
  (message_FormatResponse r3 [71, 69, 84]).bind fun r10 =>
  some (r10 != [])
/-- variantproxy/variantproxyref01.Bodiless -/
noncomputable def ref01_Bodiless (p_status : Int) (p_method : Str) : Option Bool :=
  some (((((decide (100 ≤ p_status)) && (decide (p_status ≤ 199))) || (p_status == 204)) || (p_status == 304)) || (p_method == [72, 69, 65, 68]))
/-- variantproxy/variantproxyref01.version -/
noncomputable def ref01_version (p_s : Str) : Option (Int × Int) :=
  (bif (p_s.length : Int) != 8 then
    some true
  else
    (xsub p_s 0 5).bind fun s3 =>
    some (s3 != [72, 84, 84, 80, 47])).bind fun b4 =>
  (bif b4 then
    some true
  else
    (xnth p_s 5).bind fun c7 =>
    (ref01_Digit c7).bind fun r8 =>
    some (!r8)).bind fun b13 =>
  (bif b13 then
    some true
  else
    (xnth p_s 6).bind fun c19 =>
    some (c19 != 46)).bind fun b20 =>
  (bif b20 then
    some true
  else
    (xnth p_s 7).bind fun c23 =>
    (ref01_Digit c23).bind fun r24 =>
    some (!r24)).bind fun b29 =>
  (bif b29 then
    some (0, 1)
  else
    (xnth p_s 5).bind fun c34 =>
    (bif c34 != 49 then
      some true
    else
      (xnth p_s 7).bind fun c37 =>
      some (decide (49 < c37))).bind fun b38 =>
    (bif b38 then
      some (0, 3)
    else
      (xnth p_s 7).bind fun c40 =>
      some (((c40 - 48).toNat : Int), 0)))
/-- variantproxy/variantproxyref01.ParseStatusLine -/
noncomputable def ref01_ParseStatusLine (p_ppend : Str) : Option (Int × Int × Str × Int) :=
  (bif decide (2000 < (p_ppend.length : Int)) then
    some (0, 0, [], 4)
  else
    (bif decide ((p_ppend.length : Int) < 13) then
      some true
    else
      (xnth p_ppend 8).bind fun c4 =>
      some (c4 != 32)).bind fun b5 =>
    (bif b5 then
      some true
    else
      (xnth p_ppend 9).bind fun c8 =>
      some (decide (c8 < 49))).bind fun b9 =>
    (bif b9 then
      some true
    else
      (xnth p_ppend 9).bind fun c12 =>
      some (decide (53 < c12))).bind fun b13 =>
    (bif b13 then
      some true
    else
      (xnth p_ppend 10).bind fun c16 =>
      (ref01_Digit c16).bind fun r17 =>
      some (!r17)).bind fun b22 =>
    (bif b22 then
      some true
    else
      (xnth p_ppend 11).bind fun c28 =>
      (ref01_Digit c28).bind fun r29 =>
      some (!r29)).bind fun b34 =>
    (bif b34 then
      some true
    else
      (xnth p_ppend 12).bind fun c40 =>
      some (c40 != 32)).bind fun b41 =>
    (bif b41 then
      some true
    else
      (xsub p_ppend 13 p_ppend.length).bind fun s44 =>
      (ref01_Text s44).bind fun r45 =>
      some (!r45)).bind fun b50 =>
    (bif b50 then
      some (0, 0, [], 1)
    else
      (xsub p_ppend 0 8).bind fun s55 =>
      (ref01_version s55).bind fun r56 =>
      (bif r56.2 != 0 then
        some (0, 0, [], r56.2)
      else
        (xsub p_ppend 9 12).bind fun s62 =>
        (ref01_Number s62).bind fun r63 =>
        (xsub p_ppend 13 p_ppend.length).bind fun s71 =>
        some (r56.1, r63.1, s71, 0))))
/-- variantproxy/variantproxyref01.FormatStatusLine -/
noncomputable def ref01_FormatStatusLine (p_minor : Int) (p_status : Int) (p_reason : Str) : Option Str :=
  (bif (((((decide (p_minor < 0)) || (decide (1 < p_minor))) || (decide (p_status < 100))) || (decide (599 < p_status))) || (decide (2000 < (p_reason.length : Int)))) then
    some []
  else
    (ref01_Decimal p_minor).bind fun r10 =>
    (xcat [72, 84, 84, 80, 47, 49, 46] r10).bind fun s15 =>
    (xcat s15 [32]).bind fun s16 =>
    (ref01_Decimal p_status).bind fun r17 =>
    (xcat s16 r17).bind fun s22 =>
    (xcat s22 [32]).bind fun s23 =>
    (xcat s23 p_reason).bind fun s24 =>
    (ref01_ParseStatusLine s24).bind fun r25 =>
    (bif r25.2.2.2 != 0 then
      some []
    else
      some s24))
/-- variantproxy/variantproxyref01.Unframed -/
noncomputable def ref01_Unframed (p_l : (List GField)) : Option (List GField) :=
  (ref01_Remove p_l [67, 111, 110, 116, 101, 110, 116, 45, 76, 101, 110, 103, 116, 104]).bind fun r1 =>
  (ref01_Remove r1 [84, 114, 97, 110, 115, 102, 101, 114, 45, 69, 110, 99, 111, 100, 105, 110, 103]).bind fun r7 =>
  some r7
/-- variantproxy/variantproxyref01.form -/
noncomputable def ref01_form (p_f : GField) : Option Str :=
  (bif p_f.fValue == [] then
    (xcat p_f.fName [58]).bind fun s4 =>
    some s4
  else
    (xcat p_f.fName [58, 32]).bind fun s5 =>
    (xcat s5 p_f.fValue).bind fun s6 =>
    some s6)
/-- variantproxy/variantproxyref01.ValidField -/
noncomputable def ref01_ValidField (p_f : GField) : Option Bool :=
  (ref01_Token p_f.fName).bind fun r6 =>
  (bif r6 then
    (ref01_Text p_f.fValue).bind fun r13 =>
    some (r13)
  else
    some false).bind fun b18 =>
  (bif b18 then
    (ref01_Trim p_f.fValue).bind fun r21 =>
    some (r21 == p_f.fValue)
  else
    some false).bind fun b26 =>
  (bif b26 then
    (ref01_form p_f).bind fun r29 =>
    some (decide ((r29.length : Int) ≤ 2000))
  else
    some false).bind fun b34 =>
  some b34
/-- variantproxy/variantproxyref01.joined -/
noncomputable def ref01_joined_L0 (r1 : (List GField)) : (Str × Int) → Option ((Str × Int) ⊕ (Str ⊕ Str))
  | (y_18, y_20) =>
    (bif decide (y_20 < (r1.length : Int)) then
      (xnth r1 y_20).bind fun x34 =>
      (ref01_ValidField x34).bind fun r37 =>
      (bif !r37 then
        some (.inr (.inr []))
      else
        (xnth r1 y_20).bind fun x43 =>
        (ref01_form x43).bind fun r46 =>
        (xcat r46 [13, 10]).bind fun s51 =>
        (xcat y_18 s51).bind fun s52 =>
        some (.inl (s52, wr (y_20 + 1))))
    else
      some (.inr (.inl y_18)))
noncomputable def ref01_joined (p_ppend : Str) (p_x1 : (List GField)) (p_x2 : Str) (p_x3 : Bool) (p_x4 : Bool) : Option Str :=
  (ref01_Unframed p_x1).bind fun r1 =>
  (bif (((p_ppend == []) || (decide (63 < (r1.length : Int)))) || (decide (100000 < (p_x2.length : Int)))) then
    some []
  else
    (xcat p_ppend [13, 10]).bind fun s12 =>
    (whileO (ref01_joined_L0 r1) (s12, 0)).bind fun r31 => match r31 with
    | .inr e => some e
    | .inl y_26 =>
      ((bif p_x3 then
        (ref01_Decimal (p_x2.length : Int)).bind fun r61 =>
        (xcat [67, 111, 110, 116, 101, 110, 116, 45, 76, 101, 110, 103, 116, 104, 58, 32] r61).bind fun s66 =>
        (xcat s66 [13, 10]).bind fun s67 =>
        (xcat y_26 s67).bind fun s68 =>
        some s68
      else
        some y_26)).bind fun (y_56 : Str) =>
      (xcat y_56 [13, 10]).bind fun s69 =>
      (bif decide (16000 < (s69.length : Int)) then
        some []
      else
        ((bif p_x4 then
          (xcat s69 p_x2).bind fun s77 =>
          some s77
        else
          some s69)).bind fun (y_72 : Str) =>
        some y_72))
/-- variantproxy/variantproxyref01.FormatResponse -/
noncomputable def ref01_FormatResponse (p_r : GResponse) (p_method : Str) : Option Str :=
  (ref01_Bodiless p_r.fStatus p_method).bind fun r3 =>
  (ref01_FormatStatusLine p_r.fMinor p_r.fStatus p_r.fReason).bind fun r11 =>
  (ref01_joined r11 p_r.fFields p_r.fBody (!r3) (!r3)).bind fun r16 =>
  some r16
/-- variantproxy/variantproxyref01.NextLine -/
noncomputable def ref01_NextLine_L0 (p_s : Str) (n_4 : Int) : Option (Int ⊕ Int) :=
    (bif decide (n_4 < (p_s.length : Int)) then
      (xnth p_s n_4).bind fun c18 =>
      some (c18 != 13)
    else
      some false).bind fun b19 =>
    (bif b19 then
      (xnth p_s n_4).bind fun c22 =>
      some (c22 != 10)
    else
      some false).bind fun b23 =>
    (bif b23 then
      some (.inl (wr (n_4 + 1)))
    else
      some (.inr n_4))
noncomputable def ref01_NextLine (p_s : Str) (p_at : Int) : Option (Str × Int × Int) :=
  (whileO (ref01_NextLine_L0 p_s) p_at).bind fun n_9 =>
  (bif decide (2000 < (wr (n_9 - p_at))) then
    some ([], 0, 4)
  else
    (bif n_9 == (p_s.length : Int) then
      some ([], 0, 2)
    else
      (xnth p_s n_9).bind fun c27 =>
      (bif c27 == 10 then
        some ([], 0, 1)
      else
        (bif (wr (n_9 + 1)) == (p_s.length : Int) then
          some ([], 0, 2)
        else
          (xnth p_s (wr (n_9 + 1))).bind fun c30 =>
          (bif c30 != 10 then
            some ([], 0, 1)
          else
            (xsub p_s p_at n_9).bind fun s32 =>
            some (s32, wr (n_9 + 2), 0))))))
/-- variantproxy/variantproxyref01.Visible -/
noncomputable def ref01_Visible_L0 (p_s : Str) (i_3 : Int) : Option (Int ⊕ (Unit ⊕ Bool)) :=
    (bif decide (i_3 < (p_s.length : Int)) then
      (xnth p_s i_3).bind fun c13 =>
      (bif decide (c13 < 33) then
        some true
      else
        (xnth p_s i_3).bind fun c16 =>
        some (decide (126 < c16))).bind fun b17 =>
      (bif b17 then
        some (.inr (.inr false))
      else
        some (.inl (wr (i_3 + 1))))
    else
      some (.inr (.inl ())))
noncomputable def ref01_Visible (p_s : Str) : Option Bool :=
  (whileO (ref01_Visible_L0 p_s) 0).bind fun r10 => match r10 with
  | .inr e => some e
  | .inl _ =>
    some (p_s != [])
/-- variantproxy/variantproxyref01.ParseRequestLine -/
noncomputable def ref01_ParseRequestLine (p_line : Str) : Option (Str × Str × Int × Int) :=
  (bif decide (2000 < (p_line.length : Int)) then
    some ([], [], 0, 4)
  else
    (ref01_Index p_line 32 0).bind fun r2 =>
    (bif decide (r2 < 0) then
      some ([], [], 0, 1)
    else
      (ref01_Index p_line 32 (wr (r2 + 1))).bind fun r8 =>
      (bif decide (r8 < 0) then
        some true
      else
        (xsub p_line 0 r2).bind fun s15 =>
        (ref01_Token s15).bind fun r16 =>
        some (!r16)).bind fun b21 =>
      (bif b21 then
        some true
      else
        (xsub p_line (wr (r2 + 1)) r8).bind fun s27 =>
        (ref01_Visible s27).bind fun r28 =>
        some (!r28)).bind fun b33 =>
      (bif b33 then
        some ([], [], 0, 1)
      else
        (xsub p_line (wr (r8 + 1)) p_line.length).bind fun s38 =>
        (ref01_version s38).bind fun r39 =>
        (bif r39.2 != 0 then
          some ([], [], 0, r39.2)
        else
          (xsub p_line 0 r2).bind fun s48 =>
          (xsub p_line (wr (r2 + 1)) r8).bind fun s49 =>
          some (s48, s49, r39.1, 0)))))
/-- variantproxy/variantproxyref01.ParseField -/
noncomputable def ref01_ParseField (p_line : Str) : Option (GField × Int) :=
  (bif decide (2000 < (p_line.length : Int)) then
    some ((⟨[], []⟩ : GField), 4)
  else
    (ref01_Index p_line 58 0).bind fun r5 =>
    (bif decide (r5 < 0) then
      some true
    else
      (xsub p_line 0 r5).bind fun s12 =>
      (ref01_Token s12).bind fun r13 =>
      some (!r13)).bind fun b18 =>
    (bif b18 then
      some true
    else
      (xsub p_line (wr (r5 + 1)) p_line.length).bind fun s24 =>
      (ref01_Text s24).bind fun r25 =>
      some (!r25)).bind fun b30 =>
    (bif b30 then
      some ((⟨[], []⟩ : GField), 1)
    else
      (xsub p_line 0 r5).bind fun s36 =>
      (xsub p_line (wr (r5 + 1)) p_line.length).bind fun s37 =>
      (ref01_Trim s37).bind fun r38 =>
      (ref01_ValidField (⟨s36, r38⟩ : GField)).bind fun r46 =>
      (bif !r46 then
        some ((⟨[], []⟩ : GField), 4)
      else
        some ((⟨s36, r38⟩ : GField), 0))))
/-- variantproxy/variantproxyref01.head -/
noncomputable def ref01_head_L0 (p_ppend : Str) (p_x1 : Bool) : (Str × (List GField) × Int × Int) → Option ((Str × (List GField) × Int × Int) ⊕ (Str × (List GField) × Int × Int))
  | (y_4, y_6, y_10, y_12) =>
    (ref01_NextLine p_ppend y_10).bind fun r19 =>
    (bif r19.2.2 != 0 then
      some (.inr ([], ([] : List GField), 0, r19.2.2))
    else
      (bif ((decide (16000 < r19.2.1)) || ((decide (64 < y_12)) && (r19.1 != []))) then
        some (.inr ([], ([] : List GField), 0, 4))
      else
        (bif y_12 == 0 then
          ((bif p_x1 then
            (ref01_ParseRequestLine r19.1).bind fun r43 =>
            some r43.2.2.2
          else
            (ref01_ParseStatusLine r19.1).bind fun r48 =>
            some r48.2.2.2)).bind fun (y_38 : Int) =>
          (bif y_38 != 0 then
            some (.inr ([], ([] : List GField), 0, y_38))
          else
            some (.inl (r19.1, y_6, r19.2.1, wr (y_12 + 1))))
        else
          (bif r19.1 == [] then
            some (.inr (y_4, y_6, r19.2.1, 0))
          else
            (ref01_ParseField r19.1).bind fun r55 =>
            (bif r55.2 != 0 then
              some (.inr ([], ([] : List GField), 0, r55.2))
            else
              (xapp y_6 ([r55.1] : List GField)).bind fun l69 =>
              some (.inl (y_4, l69, r19.2.1, wr (y_12 + 1))))))))
noncomputable def ref01_head (p_ppend : Str) (p_x1 : Bool) : Option (Str × (List GField) × Int × Int) :=
  (whileO (ref01_head_L0 p_ppend p_x1) ([], ([] : List GField), 0, 0)).bind fun r17 => some r17
/-- variantproxy/variantproxyref01.framed -/
noncomputable def ref01_framed (p_l : (List GField)) : Option (Int × Int) :=
  (ref01_Get p_l [84, 114, 97, 110, 115, 102, 101, 114, 45, 69, 110, 99, 111, 100, 105, 110, 103]).bind fun r1 =>
  (ref01_Get p_l [67, 111, 110, 116, 101, 110, 116, 45, 76, 101, 110, 103, 116, 104]).bind fun r7 =>
  (bif decide (1 < (r1.length : Int)) then
    some true
  else
    (bif (r1.length : Int) == 1 then
      (xnth r1 0).bind fun x17 =>
      (ref01_Fold x17 [99, 104, 117, 110, 107, 101, 100]).bind fun r20 =>
      some (!r20)
    else
      some false).bind fun b25 =>
    some (b25)).bind fun b29 =>
  (bif b29 then
    some (0, 7)
  else
    (bif (((decide (0 < (r1.length : Int))) && (decide (0 < (r7.length : Int)))) || (decide (1 < (r7.length : Int)))) then
      some (0, 8)
    else
      (bif decide (0 < (r1.length : Int)) then
        some ((-1), 0)
      else
        (bif (r7.length : Int) == 0 then
          some ((-2), 0)
        else
          (xnth r7 0).bind fun x41 =>
          (ref01_Number x41).bind fun r44 =>
          (bif !r44.2 then
            some true
          else
            (xnth r7 0).bind fun x51 =>
            some (decide (9 < (x51.length : Int)))).bind fun b54 =>
          (bif b54 then
            some (0, 8)
          else
            some (r44.1, 0))))))
/-- variantproxy/variantproxyref01.Hex -/
noncomputable def ref01_Hex (p_c : UInt8) : Option Int :=
  (ref01_Digit p_c).bind fun r1 =>
  (bif r1 then
    some ((p_c - 48).toNat : Int)
  else
    (bif ((decide (97 ≤ p_c)) && (decide (p_c ≤ 102))) then
      some (wr (((p_c - 97).toNat : Int) + 10))
    else
      (bif ((decide (65 ≤ p_c)) && (decide (p_c ≤ 70))) then
        some (wr (((p_c - 65).toNat : Int) + 10))
      else
        some (-1))))
/-- variantproxy/variantproxyref01.size -/
noncomputable def ref01_size_L0 (p_line : Str) (k_4 : Int) : Option (Int ⊕ Int) :=
    (bif decide (k_4 < (p_line.length : Int)) then
      (xnth p_line k_4).bind fun c18 =>
      (ref01_Hex c18).bind fun r19 =>
      some (decide (0 ≤ r19))
    else
      some false).bind fun b24 =>
    (bif b24 then
      some (.inl (wr (k_4 + 1)))
    else
      some (.inr k_4))
noncomputable def ref01_size_L1 (p_line : Str) (k_9 : Int) : (Int × Int) → Option ((Int × Int) ⊕ Int)
  | (n_53, i_56) =>
    (bif decide (i_56 < k_9) then
      (xnth p_line i_56).bind fun c67 =>
      (ref01_Hex c67).bind fun r68 =>
      some (.inl (wr ((wr (n_53 * 16)) + r68), wr (i_56 + 1)))
    else
      some (.inr n_53))
noncomputable def ref01_size (p_line : Str) : Option (Int × Bool) :=
  (whileO (ref01_size_L0 p_line) 0).bind fun k_9 =>
  (bif ((decide (k_9 < 1)) || (decide (8 < k_9))) then
    some true
  else
    (bif decide (k_9 < (p_line.length : Int)) then
      (xnth p_line k_9).bind fun c35 =>
      some (c35 != 59)
    else
      some false).bind fun b36 =>
    some (b36)).bind fun b37 =>
  (bif b37 then
    some true
  else
    (xsub p_line k_9 p_line.length).bind fun s40 =>
    (ref01_Text s40).bind fun r41 =>
    some (!r41)).bind fun b46 =>
  (bif b46 then
    some (0, false)
  else
    (whileO (ref01_size_L1 p_line k_9) (0, 0)).bind fun n_59 =>
    some (n_59, true))
/-- variantproxy/variantproxyref01.DecodeChunks -/
noncomputable def ref01_DecodeChunks_L0 (p_ppend : Str) : (Str × Int) → Option ((Str × Int) ⊕ ((Str × Int) ⊕ (Str × Int × Int)))
  | (y_3, y_5) =>
    (ref01_NextLine p_ppend y_5).bind fun r18 =>
    (bif r18.2.2 != 0 then
      some (.inr (.inr ([], 0, r18.2.2)))
    else
      (ref01_size r18.1).bind fun r24 =>
      (bif !r24.2 then
        some (.inr (.inr ([], 0, 1)))
      else
        (bif decide ((wr (100000 - (y_3.length : Int))) < r24.1) then
          some (.inr (.inr ([], 0, 5)))
        else
          (bif r24.1 == 0 then
            some (.inr (.inl (y_3, r18.2.1)))
          else
            (bif decide ((wr ((p_ppend.length : Int) - r18.2.1)) < r24.1) then
              some (.inr (.inr ([], 0, 2)))
            else
              (xsub p_ppend r18.2.1 (wr (r18.2.1 + r24.1))).bind fun s33 =>
              (xcat y_3 s33).bind fun s34 =>
              (xsub p_ppend (wr (r18.2.1 + r24.1)) p_ppend.length).bind fun s35 =>
              (bif ((s35 == []) || (s35 == [13])) then
                some (.inr (.inr ([], 0, 2)))
              else
                (bif decide ((s35.length : Int) < 2) then
                  some true
                else
                  (xsub s35 0 2).bind fun s41 =>
                  some (s41 != [13, 10])).bind fun b42 =>
                (bif b42 then
                  some (.inr (.inr ([], 0, 1)))
                else
                  some (.inl (s34, wr ((wr (r18.2.1 + r24.1)) + 2))))))))))
noncomputable def ref01_DecodeChunks_L1 (p_ppend : Str) (y_9 : Str) : (Int × Int) → Option ((Int × Int) ⊕ (Str × Int × Int))
  | (y_47, y_49) =>
    (ref01_NextLine p_ppend y_47).bind fun r56 =>
    (bif r56.2.2 != 0 then
      some (.inr ([], 0, r56.2.2))
    else
      (bif r56.1 == [] then
        some (.inr (y_9, r56.2.1, 0))
      else
        (bif y_49 == 64 then
          some (.inr ([], 0, 4))
        else
          (ref01_ParseField r56.1).bind fun r64 =>
          (bif r64.2 != 0 then
            some (.inr ([], 0, r64.2))
          else
            some (.inl (r56.2.1, wr (y_49 + 1)))))))
noncomputable def ref01_DecodeChunks (p_ppend : Str) : Option (Str × Int × Int) :=
  (whileO (ref01_DecodeChunks_L0 p_ppend) ([], 0)).bind fun r16 => match r16 with
  | .inr e => some e
  | .inl (y_9, y_11) =>
    (whileO (ref01_DecodeChunks_L1 p_ppend y_9) (y_11, 0)).bind fun r54 => some r54
/-- variantproxy/variantproxyref01.body -/
noncomputable def ref01_body (p_s : Str) (p_at : Int) (p_how : Int) : Option (Str × Int × Int) :=
  (bif p_how == (-1) then
    (xsub p_s p_at p_s.length).bind fun s2 =>
    (ref01_DecodeChunks s2).bind fun r3 =>
    (bif r3.2.2 != 0 then
      some ([], 0, r3.2.2)
    else
      some (r3.1, wr (p_at + r3.2.1), 0))
  else
    (bif decide (100000 < p_how) then
      some ([], 0, 5)
    else
      (bif decide ((wr ((p_s.length : Int) - p_at)) < p_how) then
        some ([], 0, 2)
      else
        (xsub p_s p_at (wr (p_at + p_how))).bind fun s11 =>
        some (s11, wr (p_at + p_how), 0))))
/-- variantproxy/variantproxyref01.ParseResponse -/
noncomputable def ref01_ParseResponse (p_ppend : Str) (p_x1 : Str) (p_x2 : Bool) : Option (GResponse × Int × Int) :=
  (ref01_head p_ppend false).bind fun r3 =>
  (bif r3.2.2.2 != 0 then
    some ((⟨0, 0, [], ([] : List GField), []⟩ : GResponse), 0, r3.2.2.2)
  else
    (ref01_ParseStatusLine r3.1).bind fun r12 =>
    (ref01_framed r3.2.1).bind fun r17 =>
    (bif r17.2 != 0 then
      some ((⟨0, 0, [], ([] : List GField), []⟩ : GResponse), 0, r17.2)
    else
      (ref01_Unframed r3.2.1).bind fun r24 =>
      (ref01_Bodiless r12.2.1 p_x1).bind fun r33 =>
      (bif r33 then
        some ((⟨r12.1, r12.2.1, r12.2.2.1, r24, []⟩ : GResponse), r3.2.2.1, 0)
      else
        ((bif r17.1 == (-2) then
          (bif !p_x2 then
            some (.inr ((⟨0, 0, [], ([] : List GField), []⟩ : GResponse), 0, 2))
          else
            some (.inl (wr ((p_ppend.length : Int) - r3.2.2.1))))
        else
          some (.inl r17.1))).bind fun (j48 : (Int ⊕ (GResponse × Int × Int))) => match j48 with
        | .inr e => some e
        | .inl y_44 =>
          (ref01_body p_ppend r3.2.2.1 y_44).bind fun r52 =>
          (bif r52.2.2 != 0 then
            some ((⟨0, 0, [], ([] : List GField), []⟩ : GResponse), 0, r52.2.2)
          else
            some ((⟨r12.1, r12.2.1, r12.2.2.1, r24, r52.1⟩ : GResponse), r52.2.1, 0)))))
/-- variantproxy/variantproxylaw26.EntrySends -/
noncomputable def law26_EntrySends (p_e : GEntry) (p_now : Int) (p_name : Str) : Option Bool :=
  (keep_Entry p_e).bind fun r3 =>
  (bif ((!r3) || (decide (100 < (p_name.length : Int)))) then
    some true
  else
    (entry_Sendable p_e p_name).bind fun r12 =>
    some (!r12)).bind fun b17 =>
  (bif b17 then
    (law26_awake).bind fun r22 =>
    some r22
  else
    (entry_Response p_e p_now p_name).bind fun r27 =>
    (ref01_FormatResponse r27 [71, 69, 84]).bind fun r34 =>
    (ref01_ParseResponse r34 [71, 69, 84] true).bind fun r39 =>
    (bif (((r39.2.2 == 0) && (r39.2.1 == (r34.length : Int))) && (r39.1.fBody == p_e.fBody)) then
      (entry_Response p_e p_now p_name).bind fun r55 =>
      (ref01_FormatResponse r55 [72, 69, 65, 68]).bind fun r62 =>
      some (r62 != [])
    else
      some false).bind fun b67 =>
    (bif b67 then
      (law26_awake).bind fun r73 =>
      some (r73)
    else
      some false).bind fun b78 =>
    some b78)
end Go.Eng.Pure
