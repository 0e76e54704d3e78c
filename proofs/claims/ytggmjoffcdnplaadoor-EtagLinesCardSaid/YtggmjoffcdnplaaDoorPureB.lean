/- A part of the proof of laws of the seat: written by program over the translation. -/
import Derived.Test.YtggmjoffcdnplaaDoorEng13
namespace Go.Eng.Pure
open Go Go.Eng
set_option linter.unusedVariables false
structure GField where
  fName : Str
  fValue : Str
deriving DecidableEq
instance : Enc GField where
  sz := 2
  cells H cs x := cs = [(str x.fName), (str x.fValue)]
  pos := by decide
  len := fun h => by rw [h]; rfl
  mono := fun h _ => h
  one := by
    intro H cs x h v hv
    rw [h] at hv
    exact List.all_eq_true.1 (show List.all [(str x.fName), (str x.fValue)] Value.oneCell' = true from rfl) v hv
structure GETag where
  fWeak : Bool
  fTag : Str
deriving DecidableEq
instance : Enc GETag where
  sz := 2
  cells H cs x := cs = [(boo x.fWeak), (str x.fTag)]
  pos := by decide
  len := fun h => by rw [h]; rfl
  mono := fun h _ => h
  one := by
    intro H cs x h v hv
    rw [h] at hv
    exact List.all_eq_true.1 (show List.all [(boo x.fWeak), (str x.fTag)] Value.oneCell' = true from rfl) v hv
/-- variantproxy/qvalue.Parse -/
noncomputable def qvalue_Parse_L0 (p_ppend : Str) (l26 : (List Int)) : (Int × Int) → Option ((Int × Int) ⊕ (Int ⊕ (Int × Bool)))
  | (y_31, y_35) =>
    (bif decide (y_35 < (l26.length : Int)) then
      (xnth l26 y_35).bind fun x46 =>
      (bif y_35 == 1 then
        some (.inl (y_31, wr (y_35 + 1)))
      else
        (xnth p_ppend y_35).bind fun c50 =>
        (bif decide (c50 < 48) then
          some true
        else
          (xnth p_ppend y_35).bind fun c53 =>
          some (decide (57 < c53))).bind fun b54 =>
        (bif b54 then
          some (.inr (.inr (0, false)))
        else
          (xnth p_ppend y_35).bind fun c56 =>
          some (.inl (wr (y_31 + (wr (x46 * ((c56 - 48).toNat : Int)))), wr (y_35 + 1)))))
    else
      some (.inr (.inl y_31)))
noncomputable def qvalue_Parse (p_ppend : Str) : Option (Int × Bool) :=
  (bif ((p_ppend == []) || (decide (5 < (p_ppend.length : Int)))) then
    some true
  else
    (xnth p_ppend 0).bind fun c5 =>
    (bif c5 != 48 then
      (xnth p_ppend 0).bind fun c8 =>
      some (c8 != 49)
    else
      some false).bind fun b9 =>
    some (b9)).bind fun b10 =>
  (bif b10 then
    some true
  else
    (bif decide (1 < (p_ppend.length : Int)) then
      (xnth p_ppend 1).bind fun c15 =>
      some (c15 != 46)
    else
      some false).bind fun b16 =>
    some (b16)).bind fun b17 =>
  (bif b17 then
    some (0, false)
  else
    (xsub ([1000, 0, 100, 10, 1] : List Int) 0 (p_ppend.length : Int)).bind fun l26 =>
    (whileO (qvalue_Parse_L0 p_ppend l26) (0, 0)).bind fun r43 => match r43 with
    | .inr e => some e
    | .inl y_38 =>
      (bif decide (1000 < y_38) then
        some (0, false)
      else
        some (y_38, true)))
/-- variantproxy/variantproxyref01.Digit -/
noncomputable def ref01_Digit (p_c : UInt8) : Option Bool :=
  some ((decide (48 ≤ p_c)) && (decide (p_c ≤ 57)))
/-- variantproxy/variantproxyref01.ParseQ -/
noncomputable def ref01_ParseQ_L0 (p_ppend : Str) : (Int × Int × Int) → Option ((Int × Int × Int) ⊕ (Int ⊕ (Int × Bool)))
  | (y_22, y_24, y_26) =>
    (bif decide (y_26 < (p_ppend.length : Int)) then
      (xnth p_ppend y_26).bind fun c37 =>
      (ref01_Digit c37).bind fun r38 =>
      (bif !r38 then
        some (.inr (.inr (0, false)))
      else
        (xnth p_ppend y_26).bind fun c44 =>
        (xquo y_24 10).bind fun n45 =>
        some (.inl (wr (y_22 + (wr (((c44 - 48).toNat : Int) * y_24))), n45, wr (y_26 + 1))))
    else
      some (.inr (.inl y_22)))
noncomputable def ref01_ParseQ (p_ppend : Str) : Option (Int × Bool) :=
  (bif ((decide ((p_ppend.length : Int) < 1)) || (decide (5 < (p_ppend.length : Int)))) then
    some true
  else
    (xnth p_ppend 0).bind fun c5 =>
    (bif c5 != 48 then
      (xnth p_ppend 0).bind fun c8 =>
      some (c8 != 49)
    else
      some false).bind fun b9 =>
    some (b9)).bind fun b10 =>
  (bif b10 then
    some true
  else
    (bif decide (1 < (p_ppend.length : Int)) then
      (xnth p_ppend 1).bind fun c15 =>
      some (c15 != 46)
    else
      some false).bind fun b16 =>
    some (b16)).bind fun b17 =>
  (bif b17 then
    some (0, false)
  else
    (xnth p_ppend 0).bind fun c19 =>
    (whileO (ref01_ParseQ_L0 p_ppend) (wr (((c19 - 48).toNat : Int) * 1000), 100, 2)).bind fun r34 => match r34 with
    | .inr e => some e
    | .inl y_29 =>
      (bif decide (1000 < y_29) then
        some (0, false)
      else
        some (y_29, true)))
/-- strings.trimRightByte -/
noncomputable def strings_trimRightByte_L0 (p_c : UInt8) (s_2 : Str) : Option (Str ⊕ Str) :=
    (bif decide (0 < (s_2.length : Int)) then
      (xnth s_2 (wr ((s_2.length : Int) - 1))).bind fun c15 =>
      some (c15 == p_c)
    else
      some false).bind fun b16 =>
    (bif b16 then
      (xsub s_2 0 (wr ((s_2.length : Int) - 1))).bind fun s18 =>
      some (.inl s18)
    else
      some (.inr s_2))
noncomputable def strings_trimRightByte (p_s : Str) (p_c : UInt8) : Option Str :=
  (whileO (strings_trimRightByte_L0 p_c) p_s).bind fun s_6 =>
  some s_6
/-- strings.trimRightASCII -/
noncomputable def strings_trimRightASCII_L0 (p_as : Str) (s_2 : Str) : Option (Str ⊕ Str) :=
    (bif decide (0 < (s_2.length : Int)) then
      (xnth s_2 (wr ((s_2.length : Int) - 1))).bind fun c14 =>
      (strings_asciiSet_contains p_as c14).bind fun r15 =>
      (bif !r15 then
        some (.inr s_2)
      else
        (xsub s_2 0 (wr ((s_2.length : Int) - 1))).bind fun s21 =>
        some (.inl s21))
    else
      some (.inr s_2))
noncomputable def strings_trimRightASCII (p_s : Str) (p_as : Str) : Option Str :=
  (whileO (strings_trimRightASCII_L0 p_as) p_s).bind fun s_6 =>
  some s_6
/-- strings.TrimRight -/
noncomputable def strings_TrimRight (p_s : Str) (p_cutset : Str) : Option Str :=
  (bif ((p_s == []) || (p_cutset == [])) then
    some p_s
  else
    (bif (p_cutset.length : Int) == 1 then
      (xnth p_cutset 0).bind fun c6 =>
      some (decide (c6 < 128))
    else
      some false).bind fun b7 =>
    (bif b7 then
      (xnth p_cutset 0).bind fun c9 =>
      (strings_trimRightByte p_s c9).bind fun r10 =>
      some r10
    else
      (strings_makeASCIISet p_cutset).bind fun r15 =>
      (strings_trimRightASCII p_s p_cutset).bind fun r27 =>
      some r27))
/-- variantproxy/qvalue.Format -/
noncomputable def qvalue_Format (p_q : Int) : Option Str :=
  (bif ((decide (p_q < 0)) || (decide (1000 < p_q))) then
    some []
  else
    (bif p_q == 0 then
      some [48]
    else
      (bif p_q == 1000 then
        some [49]
      else
        (xquo p_q 100).bind fun n6 =>
        (xquo p_q 10).bind fun n7 =>
        (xrem n7 10).bind fun n8 =>
        (xrem p_q 10).bind fun n9 =>
        (strings_TrimRight ([toU8 (wr (48 + n6)), toU8 (wr (48 + n8)), toU8 (wr (48 + n9))] : List UInt8) [48]).bind fun r15 =>
        (xcat [48, 46] r15).bind fun s20 =>
        some s20)))
/-- variantproxy/variantproxylaw08.awake -/
noncomputable def law08_awake : Option Bool :=
  (qvalue_Parse [48, 46, 48, 53]).bind fun r1 =>
  (bif (r1.2 && (r1.1 == 50)) then
    (qvalue_Format 500).bind fun r10 =>
    some (r10 == [48, 46, 53])
  else
    some false).bind fun b15 =>
  some b15
/-- variantproxy/variantproxylaw08.QvalueParses -/
noncomputable def law08_QvalueParses (p_s : Str) : Option Bool :=
  (bif decide (1000 < (p_s.length : Int)) then
    some true
  else
    (qvalue_Parse p_s).bind fun r2 =>
    (ref01_ParseQ p_s).bind fun r7 =>
    (bif ((r2.1 == r7.1) && (r2.2 == r7.2)) then
      (law08_awake).bind fun r16 =>
      some (r16)
    else
      some false).bind fun b21 =>
    some b21)
/-- variantproxy/variantproxyref01.Decimal -/
noncomputable def ref01_Decimal_L0 : (Int × (List UInt8) × Int) → Option ((Int × (List UInt8) × Int) ⊕ (List UInt8))
  | (n_2, b_4, k_9) =>
    (bif ((n_2 != 0) || (k_9 == 0)) then
      (xrem n_2 10).bind fun n25 =>
      ((bif decide (n25 < 0) then
        some (wr (-n25))
      else
        some n25)).bind fun (d_31 : Int) =>
      (xapp ([toU8 (wr (48 + d_31))] : List UInt8) b_4).bind fun l41 =>
      (xquo n_2 10).bind fun n47 =>
      some (.inl (n47, l41, wr (k_9 + 1)))
    else
      some (.inr b_4))
noncomputable def ref01_Decimal (p_n : Int) : Option Str :=
  (whileO (ref01_Decimal_L0) (p_n, ([] : List UInt8), 0)).bind fun b_12 =>
  (bif decide (p_n < 0) then
    (xcat [45] b_12).bind fun s49 =>
    some s49
  else
    some b_12)
/-- variantproxy/variantproxyref01.FormatQ -/
noncomputable def ref01_FormatQ_L0 (s_13 : Str) : Option (Str ⊕ Str) :=
    (xnth s_13 (wr ((s_13.length : Int) - 1))).bind fun c23 =>
    (bif c23 == 48 then
      (xsub s_13 0 (wr ((s_13.length : Int) - 1))).bind fun s25 =>
      some (.inl s25)
    else
      some (.inr s_13))
noncomputable def ref01_FormatQ (p_q : Int) : Option Str :=
  (bif ((decide (p_q < 0)) || (decide (1000 < p_q))) then
    some []
  else
    (bif p_q == 0 then
      some [48]
    else
      (bif p_q == 1000 then
        some [49]
      else
        (ref01_Decimal (wr (1000 + p_q))).bind fun r6 =>
        (xsub r6 1 r6.length).bind fun s11 =>
        (whileO (ref01_FormatQ_L0) s11).bind fun s_16 =>
        (xcat [48, 46] s_16).bind fun s26 =>
        some s26)))
/-- variantproxy/variantproxylaw08.QvalueFormats -/
noncomputable def law08_QvalueFormats (p_q : Int) : Option Bool :=
  (qvalue_Format p_q).bind fun r1 =>
  (ref01_FormatQ p_q).bind fun r6 =>
  (bif r1 != r6 then
    some false
  else
    (qvalue_Parse r1).bind fun r12 =>
    (bif ((r12.2 == ((decide (0 ≤ p_q)) && (decide (p_q ≤ 1000)))) && ((!r12.2) || (r12.1 == p_q))) then
      (law08_awake).bind fun r25 =>
      some (r25)
    else
      some false).bind fun b30 =>
    some b30)
/-- variantproxy/variantproxylaw08.QvalueZeros -/
noncomputable def law08_QvalueZeros (p_s : Str) : Option Bool :=
  (bif ((decide (4 < (p_s.length : Int))) || (decide ((p_s.length : Int) < 3))) then
    some true
  else
    (qvalue_Parse p_s).bind fun r4 =>
    (xcat p_s [48]).bind fun s9 =>
    (qvalue_Parse s9).bind fun r10 =>
    (bif ((r4.2 == r10.2) && (r4.1 == r10.1)) then
      (law08_awake).bind fun r19 =>
      some (r19)
    else
      some false).bind fun b24 =>
    some b24)
/-- variantproxy/variantproxykeep.Fields -/
noncomputable def keep_Fields_L0 (p_l : (List GField)) (i_3 : Int) : Option (Int ⊕ (Unit ⊕ Bool)) :=
    (bif ((decide (i_3 < (p_l.length : Int))) && (decide (i_3 < 71))) then
      (xnth p_l i_3).bind fun x15 =>
      (bif decide (300 < (x15.fName.length : Int)) then
        some true
      else
        (xnth p_l i_3).bind fun x21 =>
        some (decide (300 < (x21.fValue.length : Int)))).bind fun b25 =>
      (bif b25 then
        some (.inr (.inr false))
      else
        some (.inl (wr (i_3 + 1))))
    else
      some (.inr (.inl ())))
noncomputable def keep_Fields (p_l : (List GField)) : Option Bool :=
  (whileO (keep_Fields_L0 p_l) 0).bind fun r10 => match r10 with
  | .inr e => some e
  | .inl _ =>
    some (decide ((p_l.length : Int) ≤ 70))
/-- variantproxy/ascii.Lower -/
noncomputable def ascii_Lower_L0 (p_s : Str) : (Int × Str) → Option ((Int × Str) ⊕ Str)
  | (y_8, m10) =>
    (bif decide (y_8 < (p_s.length : Int)) then
      (xnth m10 y_8).bind fun c22 =>
      (xnth m10 y_8).bind fun c24 =>
      (bif ((decide (65 ≤ c24)) && (decide (c24 ≤ 90))) then
        (xnth m10 y_8).bind fun c28 =>
        some (.inl (wr (y_8 + 1), (m10.set y_8.toNat ((c24 + 97) - 65))))
      else
        some (.inl (wr (y_8 + 1), m10)))
    else
      some (.inr m10))
noncomputable def ascii_Lower (p_s : Str) : Option Str :=
  (whileO (ascii_Lower_L0 p_s) (0, p_s)).bind fun m14 =>
  some m14
/-- variantproxy/fieldline.named$1 -/
noncomputable def fieldline_named_1 (p_f : GField) (c_x0 : Str) : Option Bool :=
  (bif (p_f.fName.length : Int) == (c_x0.length : Int) then
    (ascii_Lower p_f.fName).bind fun r8 =>
    some (r8 == c_x0)
  else
    some false).bind fun b13 =>
  some b13
/-- variantproxy/fieldline.named -/
noncomputable def fieldline_named (p_name : Str) : Option (GField → Option Bool) :=
  (ascii_Lower p_name).bind fun r3 =>
  some (fun x0 => fieldline_named_1 x0 r3)
/-- variantproxy/fieldline.filter -/
noncomputable def fieldline_filter_L0 (p_l : (List GField)) (p_keep : (GField → Option Bool)) : ((List GField) × Int) → Option (((List GField) × Int) ⊕ (List GField))
  | (out_3, y_9) =>
    (bif decide (y_9 < (p_l.length : Int)) then
      (xnth p_l y_9).bind fun x22 =>
      (p_keep x22).bind fun r28 =>
      (bif r28 then
        (xapp out_3 ([x22] : List GField)).bind fun l39 =>
        some (.inl (l39, wr (y_9 + 1)))
      else
        some (.inl (out_3, wr (y_9 + 1))))
    else
      some (.inr out_3))
noncomputable def fieldline_filter (p_l : (List GField)) (p_keep : (GField → Option Bool)) : Option (List GField) :=
  (whileO (fieldline_filter_L0 p_l p_keep) (([] : List GField), 0)).bind fun out_12 =>
  some out_12
/-- variantproxy/fieldline.Get -/
noncomputable def fieldline_Get_L0 (r6 : (List GField)) : ((List Str) × Int) → Option (((List Str) × Int) ⊕ (List Str))
  | (out_13, y_19) =>
    (bif decide (y_19 < (r6.length : Int)) then
      (xnth r6 y_19).bind fun x32 =>
      (xapp out_13 ([x32.fValue] : List Str)).bind fun l43 =>
      some (.inl (l43, wr (y_19 + 1)))
    else
      some (.inr out_13))
noncomputable def fieldline_Get (p_l : (List GField)) (p_name : Str) : Option (List Str) :=
  (fieldline_named p_name).bind fun r1 =>
  (fieldline_filter p_l r1).bind fun r6 =>
  (whileO (fieldline_Get_L0 r6) (([] : List Str), 0)).bind fun out_22 =>
  some out_22
/-- variantproxy/list.step -/
noncomputable def list_step (p_state : Int) (p_c : UInt8) : Option Int :=
  (bif p_state == 2 then
    some 1
  else
    (bif ((p_state == 1) && (p_c == 92)) then
      some 2
    else
      (bif p_c == 34 then
        some (wr (1 - p_state))
      else
        some p_state)))
/-- strings.trimLeftByte -/
noncomputable def strings_trimLeftByte_L0 (p_c : UInt8) (s_2 : Str) : Option (Str ⊕ Str) :=
    (bif decide (0 < (s_2.length : Int)) then
      (xnth s_2 0).bind fun c15 =>
      some (c15 == p_c)
    else
      some false).bind fun b16 =>
    (bif b16 then
      (xsub s_2 1 s_2.length).bind fun s18 =>
      some (.inl s18)
    else
      some (.inr s_2))
noncomputable def strings_trimLeftByte (p_s : Str) (p_c : UInt8) : Option Str :=
  (whileO (strings_trimLeftByte_L0 p_c) p_s).bind fun s_6 =>
  some s_6
/-- strings.trimLeftASCII -/
noncomputable def strings_trimLeftASCII_L0 (p_as : Str) (s_2 : Str) : Option (Str ⊕ Str) :=
    (bif decide (0 < (s_2.length : Int)) then
      (xnth s_2 0).bind fun c14 =>
      (strings_asciiSet_contains p_as c14).bind fun r15 =>
      (bif !r15 then
        some (.inr s_2)
      else
        (xsub s_2 1 s_2.length).bind fun s21 =>
        some (.inl s21))
    else
      some (.inr s_2))
noncomputable def strings_trimLeftASCII (p_s : Str) (p_as : Str) : Option Str :=
  (whileO (strings_trimLeftASCII_L0 p_as) p_s).bind fun s_6 =>
  some s_6
/-- strings.Trim -/
noncomputable def strings_Trim (p_s : Str) (p_cutset : Str) : Option Str :=
  (bif ((p_s == []) || (p_cutset == [])) then
    some p_s
  else
    (bif (p_cutset.length : Int) == 1 then
      (xnth p_cutset 0).bind fun c6 =>
      some (decide (c6 < 128))
    else
      some false).bind fun b7 =>
    (bif b7 then
      (xnth p_cutset 0).bind fun c12 =>
      (strings_trimRightByte p_s c12).bind fun r13 =>
      (xnth p_cutset 0).bind fun c18 =>
      (strings_trimLeftByte r13 c18).bind fun r19 =>
      some r19
    else
      (strings_makeASCIISet p_cutset).bind fun r24 =>
      (strings_trimRightASCII p_s p_cutset).bind fun r36 =>
      (strings_trimLeftASCII r36 p_cutset).bind fun r41 =>
      some r41))
/-- variantproxy/ascii.Trim -/
noncomputable def ascii_Trim (p_s : Str) : Option Str :=
  (strings_Trim p_s [32, 9]).bind fun r1 =>
  some r1
/-- variantproxy/list.Split -/
noncomputable def list_Split_L0 (p_value : Str) : ((List Str) × Int × Int × Int) → Option (((List Str) × Int × Int × Int) ⊕ (List Str))
  | (out_3, state_7, from_9, i_11) =>
    (bif ((decide (i_11 ≤ (p_value.length : Int))) && (decide ((out_3.length : Int) < 64))) then
      (bif decide (i_11 < (p_value.length : Int)) then
        (bif state_7 != 0 then
          some true
        else
          (xnth p_value i_11).bind fun c30 =>
          some (c30 != 44)).bind fun b31 =>
        some (b31)
      else
        some false).bind fun b32 =>
      (bif b32 then
        (xnth p_value i_11).bind fun c34 =>
        (list_step state_7 c34).bind fun r35 =>
        some (.inl (out_3, r35, from_9, wr (i_11 + 1)))
      else
        (xsub p_value from_9 i_11).bind fun s40 =>
        (ascii_Trim s40).bind fun r41 =>
        (bif r41 != [] then
          (xapp out_3 ([r41] : List Str)).bind fun l52 =>
          some (.inl (l52, state_7, wr (i_11 + 1), wr (i_11 + 1)))
        else
          some (.inl (out_3, state_7, wr (i_11 + 1), wr (i_11 + 1)))))
    else
      some (.inr out_3))
noncomputable def list_Split (p_value : Str) : Option (List Str) :=
  (whileO (list_Split_L0 p_value) (([] : List Str), 0, 0, 0)).bind fun out_14 =>
  some out_14
/-- variantproxy/list.All -/
noncomputable def list_All_L0 (r1 : (List Str)) : ((List Str) × Int) → Option (((List Str) × Int) ⊕ (List Str))
  | (out_8, y_14) =>
    (bif decide (y_14 < (r1.length : Int)) then
      (xnth r1 y_14).bind fun x27 =>
      (list_Split x27).bind fun r30 =>
      (xapp out_8 r30).bind fun l36 =>
      some (.inl (l36, wr (y_14 + 1)))
    else
      some (.inr out_8))
noncomputable def list_All (p_l : (List GField)) (p_name : Str) : Option (List Str) :=
  (fieldline_Get p_l p_name).bind fun r1 =>
  (whileO (list_All_L0 r1) (([] : List Str), 0)).bind fun out_17 =>
  (xsub out_17 0 (if 64 < (out_17.length : Int) then 64 else (out_17.length : Int))).bind fun l42 =>
  some l42
/-- variantproxy/variantproxyref01.Lower -/
noncomputable def ref01_Lower_L0 (p_s : Str) : (Int × Str) → Option ((Int × Str) ⊕ Str)
  | (i_6, m8) =>
    (bif decide (i_6 < (p_s.length : Int)) then
      (xnth m8 i_6).bind fun c20 =>
      (xnth m8 i_6).bind fun c22 =>
      (bif decide (65 ≤ c22) then
        (xnth m8 i_6).bind fun c25 =>
        (xnth m8 i_6).bind fun c27 =>
        some (decide (c27 ≤ 90))
      else
        some false).bind fun b28 =>
      (bif b28 then
        (xnth m8 i_6).bind fun c30 =>
        (xnth m8 i_6).bind fun c32 =>
        (xnth m8 i_6).bind fun c33 =>
        some (.inl (wr (i_6 + 1), (m8.set i_6.toNat (c32 + 32))))
      else
        some (.inl (wr (i_6 + 1), m8)))
    else
      some (.inr m8))
noncomputable def ref01_Lower (p_s : Str) : Option Str :=
  (whileO (ref01_Lower_L0 p_s) (0, p_s)).bind fun m12 =>
  some m12
/-- variantproxy/variantproxyref01.Fold -/
noncomputable def ref01_Fold (p_a : Str) (p_b : Str) : Option Bool :=
  (bif (p_a.length : Int) == (p_b.length : Int) then
    (ref01_Lower p_a).bind fun r3 =>
    (ref01_Lower p_b).bind fun r8 =>
    some (r3 == r8)
  else
    some false).bind fun b13 =>
  some b13
/-- variantproxy/variantproxyref01.Get -/
noncomputable def ref01_Get_L0 (p_l : (List GField)) (p_name : Str) : ((List Str) × Int) → Option (((List Str) × Int) ⊕ (List Str))
  | (out_4, i_8) =>
    (bif decide (i_8 < (p_l.length : Int)) then
      (xnth p_l i_8).bind fun x21 =>
      (ref01_Fold x21.fName p_name).bind fun r25 =>
      (bif r25 then
        (xnth p_l i_8).bind fun x31 =>
        (xapp out_4 ([x31.fValue] : List Str)).bind fun l40 =>
        some (.inl (l40, wr (i_8 + 1)))
      else
        some (.inl (out_4, wr (i_8 + 1))))
    else
      some (.inr out_4))
noncomputable def ref01_Get (p_l : (List GField)) (p_name : Str) : Option (List Str) :=
  (whileO (ref01_Get_L0 p_l p_name) (([] : List Str), 0)).bind fun out_11 =>
  some out_11
/-- variantproxy/variantproxyref01.Cut -/
noncomputable def ref01_Cut_L0 (p_s : Str) (p_at : UInt8) : ((List Str) × Int × Bool × Int) → Option (((List Str) × Int × Bool × Int) ⊕ ((List Str) × Int))
  | (out_4, from_8, quoted_10, i_12) =>
    (bif decide (i_12 < (p_s.length : Int)) then
      (bif quoted_10 then
        (xnth p_s i_12).bind fun c30 =>
        some (c30 == 92)
      else
        some false).bind fun b31 =>
      (bif b31 then
        some (.inl (out_4, from_8, quoted_10, wr ((wr (i_12 + 1)) + 1)))
      else
        (xnth p_s i_12).bind fun c33 =>
        (bif c33 == 34 then
          some (.inl (out_4, from_8, !quoted_10, wr (i_12 + 1)))
        else
          (xnth p_s i_12).bind fun c35 =>
          (bif ((c35 == p_at) && (!quoted_10)) then
            (xsub p_s from_8 i_12).bind fun s39 =>
            (xapp out_4 ([s39] : List Str)).bind fun l45 =>
            some (.inl (l45, wr (i_12 + 1), quoted_10, wr (i_12 + 1)))
          else
            some (.inl (out_4, from_8, quoted_10, wr (i_12 + 1))))))
    else
      some (.inr (out_4, from_8)))
noncomputable def ref01_Cut (p_s : Str) (p_at : UInt8) : Option (List Str) :=
  (whileO (ref01_Cut_L0 p_s p_at) (([] : List Str), 0, false, 0)).bind fun r25 => match r25 with
  | (out_16, from_20) =>
    (xsub p_s from_20 p_s.length).bind fun s51 =>
    (xapp out_16 ([s51] : List Str)).bind fun l57 =>
    some l57
/-- variantproxy/variantproxyref01.blank -/
noncomputable def ref01_blank (p_c : UInt8) : Option Bool :=
  some ((p_c == 32) || (p_c == 9))
/-- variantproxy/variantproxyref01.Trim -/
noncomputable def ref01_Trim_L0 (s_2 : Str) : Option (Str ⊕ Str) :=
    (bif decide (0 < (s_2.length : Int)) then
      (xnth s_2 0).bind fun c14 =>
      (ref01_blank c14).bind fun r15 =>
      some (r15)
    else
      some false).bind fun b20 =>
    (bif b20 then
      (xsub s_2 1 s_2.length).bind fun s25 =>
      some (.inl s25)
    else
      some (.inr s_2))
noncomputable def ref01_Trim_L1 (s_27 : Str) : Option (Str ⊕ Str) :=
    (bif decide (0 < (s_27.length : Int)) then
      (xnth s_27 (wr ((s_27.length : Int) - 1))).bind fun c39 =>
      (ref01_blank c39).bind fun r40 =>
      some (r40)
    else
      some false).bind fun b45 =>
    (bif b45 then
      (xsub s_27 0 (wr ((s_27.length : Int) - 1))).bind fun s50 =>
      some (.inl s50)
    else
      some (.inr s_27))
noncomputable def ref01_Trim (p_s : Str) : Option Str :=
  (whileO (ref01_Trim_L0) p_s).bind fun s_5 =>
  (whileO (ref01_Trim_L1) s_5).bind fun s_30 =>
  some s_30
/-- variantproxy/variantproxyref01.Split -/
noncomputable def ref01_Split_L0 (r1 : (List Str)) : ((List Str) × Int) → Option (((List Str) × Int) ⊕ (List Str))
  | (out_8, i_13) =>
    (bif ((decide (i_13 < (r1.length : Int))) && (decide ((out_8.length : Int) < 64))) then
      (xnth r1 i_13).bind fun x28 =>
      (ref01_Trim x28).bind fun r31 =>
      (bif r31 != [] then
        (xapp out_8 ([r31] : List Str)).bind fun l42 =>
        some (.inl (l42, wr (i_13 + 1)))
      else
        some (.inl (out_8, wr (i_13 + 1))))
    else
      some (.inr out_8))
noncomputable def ref01_Split (p_value : Str) : Option (List Str) :=
  (ref01_Cut p_value 44).bind fun r1 =>
  (whileO (ref01_Split_L0 r1) (([] : List Str), 0)).bind fun out_16 =>
  some out_16
/-- variantproxy/variantproxyref01.All -/
noncomputable def ref01_All_L0 (r29 : (List Str)) : ((List Str) × Int) → Option (((List Str) × Int) ⊕ (List Str))
  | (out_36, k_43) =>
    (bif ((decide (k_43 < (r29.length : Int))) && (decide ((out_36.length : Int) < 64))) then
      (xnth r29 k_43).bind fun x60 =>
      (xapp out_36 ([x60] : List Str)).bind fun l68 =>
      some (.inl (l68, wr (k_43 + 1)))
    else
      some (.inr out_36))
noncomputable def ref01_All_L1 (r1 : (List Str)) : ((List Str) × Int) → Option (((List Str) × Int) ⊕ (List Str))
  | (out_8, i_13) =>
    (bif decide (i_13 < (r1.length : Int)) then
      (xnth r1 i_13).bind fun x26 =>
      (ref01_Split x26).bind fun r29 =>
      (whileO (ref01_All_L0 r29) (out_8, 0)).bind fun out_46 =>
      some (.inl (out_46, wr (i_13 + 1)))
    else
      some (.inr out_8))
noncomputable def ref01_All (p_l : (List GField)) (p_name : Str) : Option (List Str) :=
  (ref01_Get p_l p_name).bind fun r1 =>
  (whileO (ref01_All_L1 r1) (([] : List Str), 0)).bind fun out_16 =>
  some out_16
/-- variantproxy/variantproxyref10.SameStrings -/
noncomputable def ref10_SameStrings_L0 (p_a : (List Str)) (p_b : (List Str)) (i_5 : Int) : Option (Int ⊕ (Unit ⊕ Bool)) :=
    (bif decide (i_5 < (p_a.length : Int)) then
      (xnth p_a i_5).bind fun x17 =>
      (xnth p_b i_5).bind fun x20 =>
      (bif x17 != x20 then
        some (.inr (.inr false))
      else
        some (.inl (wr (i_5 + 1))))
    else
      some (.inr (.inl ())))
noncomputable def ref10_SameStrings (p_a : (List Str)) (p_b : (List Str)) : Option Bool :=
  (bif (p_a.length : Int) != (p_b.length : Int) then
    some false
  else
    (whileO (ref10_SameStrings_L0 p_a p_b) 0).bind fun r11 => match r11 with
    | .inr e => some e
    | .inl _ =>
      some true)
/-- variantproxy/variantproxykeep.SameStrings -/
noncomputable def keep_SameStrings (p_a : (List Str)) (p_b : (List Str)) : Option Bool :=
  (ref10_SameStrings p_a p_b).bind fun r1 =>
  some r1
/-- variantproxy/variantproxylaw07.awake -/
noncomputable def law07_awake : Option Bool :=
  (list_Split [97, 44, 32, 34, 98, 44, 99, 34, 32, 44, 44, 100]).bind fun r1 =>
  (keep_SameStrings r1 ([[97], [34, 98, 44, 99, 34], [100]] : List Str)).bind fun r12 =>
  some r12
/-- variantproxy/variantproxylaw07.ListAll -/
noncomputable def law07_ListAll (p_l : (List GField)) (p_name : Str) : Option Bool :=
  (keep_Fields p_l).bind fun r1 =>
  (bif ((!r1) || (decide (300 < (p_name.length : Int)))) then
    some true
  else
    (list_All p_l p_name).bind fun r9 =>
    (ref01_All p_l p_name).bind fun r15 =>
    (keep_SameStrings r9 r15).bind fun r21 =>
    (bif r21 then
      (law07_awake).bind fun r28 =>
      some (r28)
    else
      some false).bind fun b33 =>
    some b33)
/-- variantproxy/variantproxylaw07.ListLines -/
noncomputable def law07_ListLines (p_a : Str) (p_b : Str) (p_name : Str) : Option Bool :=
  (bif (((decide (500 < (p_a.length : Int))) || (decide (500 < (p_b.length : Int)))) || (decide (100 < (p_name.length : Int)))) then
    some true
  else
    (xcat p_a [44, 120]).bind fun s7 =>
    (ref01_Split s7).bind fun r8 =>
    (ref01_Split p_a).bind fun r14 =>
    some ((r8.length : Int) != (wr ((r14.length : Int) + 1)))).bind fun b20 =>
  (bif b20 then
    some true
  else
    (ref01_Lower p_name).bind fun r25 =>
    (list_All ([(⟨p_name, p_a⟩ : GField), (⟨[111, 116, 104, 101, 114], p_b⟩ : GField), (⟨r25, p_b⟩ : GField)] : List GField) p_name).bind fun r35 =>
    (xcat p_a [44]).bind fun s41 =>
    (xcat s41 p_b).bind fun s42 =>
    (list_Split s42).bind fun r43 =>
    (ref01_Fold p_name [111, 116, 104, 101, 114]).bind fun r49 =>
    (bif r49 then
      some true
    else
      (keep_SameStrings r35 r43).bind fun r55 =>
      (bif r55 then
        (law07_awake).bind fun r62 =>
        some (r62)
      else
        some false).bind fun b67 =>
      some b67))
/-- variantproxy/variantproxykeep.Strings -/
noncomputable def keep_Strings_L0 (p_l : (List Str)) (i_3 : Int) : Option (Int ⊕ (Unit ⊕ Bool)) :=
    (bif ((decide (i_3 < (p_l.length : Int))) && (decide (i_3 < 21))) then
      (xnth p_l i_3).bind fun x15 =>
      (bif decide (100 < (x15.length : Int)) then
        some (.inr (.inr false))
      else
        some (.inl (wr (i_3 + 1))))
    else
      some (.inr (.inl ())))
noncomputable def keep_Strings (p_l : (List Str)) : Option Bool :=
  (whileO (keep_Strings_L0 p_l) 0).bind fun r10 => match r10 with
  | .inr e => some e
  | .inl _ =>
    some (decide ((p_l.length : Int) ≤ 20))
/-- variantproxy/list.Join -/
noncomputable def list_Join (p_members : (List Str)) : Option Str :=
  (strings_Join p_members [44, 32]).bind fun r1 =>
  some r1
/-- variantproxy/variantproxyref01.Join -/
noncomputable def ref01_Join_L0 (p_members : (List Str)) : (Str × Int) → Option ((Str × Int) ⊕ Str)
  | (s_3, i_5) =>
    (bif decide (i_5 < (p_members.length : Int)) then
      ((bif decide (0 < i_5) then
        (xcat s_3 [44, 32]).bind fun s24 =>
        some s24
      else
        some s_3)).bind fun (s_18 : Str) =>
      (xnth p_members i_5).bind fun x25 =>
      (xcat s_18 x25).bind fun s28 =>
      some (.inl (s28, wr (i_5 + 1)))
    else
      some (.inr s_3))
noncomputable def ref01_Join (p_members : (List Str)) : Option Str :=
  (whileO (ref01_Join_L0 p_members) ([], 0)).bind fun s_8 =>
  some s_8
/-- variantproxy/variantproxylaw07.ListSplits -/
noncomputable def law07_ListSplits (p_s : Str) (p_l : (List Str)) : Option Bool :=
  (bif decide (3000 < (p_s.length : Int)) then
    some true
  else
    (keep_Strings p_l).bind fun r3 =>
    some (!r3)).bind fun b8 =>
  (bif b8 then
    some true
  else
    (list_Split p_s).bind fun r13 =>
    (ref01_Split p_s).bind fun r19 =>
    (keep_SameStrings r13 r19).bind fun r25 =>
    (bif r25 then
      (list_Join p_l).bind fun r32 =>
      (ref01_Join p_l).bind fun r37 =>
      some (r32 == r37)
    else
      some false).bind fun b42 =>
    (bif b42 then
      (law07_awake).bind fun r48 =>
      some (r48)
    else
      some false).bind fun b53 =>
    some b53)
/-- variantproxy/variantproxylaw07.ListBack -/
noncomputable def law07_ListBack_L0 (r2 : (List Str)) (i_11 : Int) : Option (Int ⊕ (Unit ⊕ Bool)) :=
    (bif decide (i_11 < (r2.length : Int)) then
      (xnth r2 i_11).bind fun x22 =>
      (xcat x22 [44, 120]).bind fun s25 =>
      (ref01_Split s25).bind fun r26 =>
      (bif (r26.length : Int) != 2 then
        some (.inr (.inr true))
      else
        some (.inl (wr (i_11 + 1))))
    else
      some (.inr (.inl ())))
noncomputable def law07_ListBack (p_s : Str) : Option Bool :=
  (bif decide (1000 < (p_s.length : Int)) then
    some true
  else
    (ref01_Split p_s).bind fun r2 =>
    (whileO (law07_ListBack_L0 r2) 0).bind fun r19 => match r19 with
    | .inr e => some e
    | .inl _ =>
      (list_Split p_s).bind fun r33 =>
      (list_Join r33).bind fun r39 =>
      (list_Split r39).bind fun r44 =>
      (keep_SameStrings r44 r2).bind fun r50 =>
      (bif r50 then
        (law07_awake).bind fun r57 =>
        some (r57)
      else
        some false).bind fun b62 =>
      some b62)
/-- variantproxy/variantproxyref19.tagText -/
noncomputable def ref19_tagText_L0 (p_s : Str) (i_3 : Int) : Option (Int ⊕ (Unit ⊕ Bool)) :=
    (bif decide (i_3 < (p_s.length : Int)) then
      (xnth p_s i_3).bind fun c12 =>
      (bif decide (c12 < 33) then
        some true
      else
        (xnth p_s i_3).bind fun c15 =>
        some (c15 == 34)).bind fun b16 =>
      (bif b16 then
        some true
      else
        (xnth p_s i_3).bind fun c19 =>
        some (c19 == 127)).bind fun b20 =>
      (bif b20 then
        some (.inr (.inr false))
      else
        some (.inl (wr (i_3 + 1))))
    else
      some (.inr (.inl ())))
noncomputable def ref19_tagText (p_s : Str) : Option Bool :=
  (whileO (ref19_tagText_L0 p_s) 0).bind fun r9 => match r9 with
  | .inr e => some e
  | .inl _ =>
    some true
/-- variantproxy/variantproxyref19.FormatETag -/
noncomputable def ref19_FormatETag (p_e : GETag) : Option Str :=
  (ref19_tagText p_e.fTag).bind fun r3 =>
  (bif !r3 then
    some []
  else
    (bif p_e.fWeak then
      (xcat [87, 47, 34] p_e.fTag).bind fun s10 =>
      (xcat s10 [34]).bind fun s11 =>
      some s11
    else
      (xcat [34] p_e.fTag).bind fun s12 =>
      (xcat s12 [34]).bind fun s13 =>
      some s13))
/-- variantproxy/variantproxyref01.Index -/
noncomputable def ref01_Index_L0 (p_s : Str) (p_c : UInt8) (i_4 : Int) : Option (Int ⊕ (Unit ⊕ Int)) :=
    (bif decide (i_4 < (p_s.length : Int)) then
      (xnth p_s i_4).bind fun c13 =>
      (bif c13 == p_c then
        some (.inr (.inr i_4))
      else
        some (.inl (wr (i_4 + 1))))
    else
      some (.inr (.inl ())))
noncomputable def ref01_Index (p_s : Str) (p_c : UInt8) (p_from : Int) : Option Int :=
  (whileO (ref01_Index_L0 p_s p_c) p_from).bind fun r10 => match r10 with
  | .inr e => some e
  | .inl _ =>
    some (-1)
/-- internal/stringslite.HasPrefix -/
noncomputable def stringslite_HasPrefix (p_s : Str) (p_prefix : Str) : Option Bool :=
  (bif decide ((p_prefix.length : Int) ≤ (p_s.length : Int)) then
    (xsub p_s 0 (p_prefix.length : Int)).bind fun s3 =>
    some (s3 == p_prefix)
  else
    some false).bind fun b4 =>
  some b4
/-- internal/stringslite.CutPrefix -/
noncomputable def stringslite_CutPrefix (p_s : Str) (p_prefix : Str) : Option (Str × Bool) :=
  (stringslite_HasPrefix p_s p_prefix).bind fun r1 =>
  (bif !r1 then
    some (p_s, false)
  else
    (xsub p_s (p_prefix.length : Int) p_s.length).bind fun s7 =>
    some (s7, true))
/-- strings.CutPrefix -/
noncomputable def strings_CutPrefix (p_s : Str) (p_prefix : Str) : Option (Str × Bool) :=
  (stringslite_CutPrefix p_s p_prefix).bind fun r1 =>
  some (r1.1, r1.2)
/-- variantproxy/etag.permitted -/
noncomputable def etag_permitted_L0 (p_s : Str) (y_4 : Int) : Option (Int ⊕ (Unit ⊕ Bool)) :=
    (bif decide (y_4 < (p_s.length : Int)) then
      (xnth p_s y_4).bind fun c13 =>
      (bif (((decide (c13 < 33)) || (c13 == 34)) || (c13 == 127)) then
        some (.inr (.inr false))
      else
        some (.inl (wr (y_4 + 1))))
    else
      some (.inr (.inl ())))
noncomputable def etag_permitted (p_s : Str) : Option Bool :=
  (whileO (etag_permitted_L0 p_s) 0).bind fun r10 => match r10 with
  | .inr e => some e
  | .inl _ =>
    some true
/-- variantproxy/etag.Parse -/
noncomputable def etag_Parse (p_s : Str) : Option (GETag × Bool) :=
  (strings_CutPrefix p_s [87, 47]).bind fun r3 =>
  (bif decide ((r3.1.length : Int) < 2) then
    some true
  else
    (xnth r3.1 0).bind fun c10 =>
    some (c10 != 34)).bind fun b11 =>
  (bif b11 then
    some true
  else
    (xnth r3.1 (wr ((r3.1.length : Int) - 1))).bind fun c14 =>
    some (c14 != 34)).bind fun b15 =>
  (bif b15 then
    some true
  else
    (xsub r3.1 1 (wr ((r3.1.length : Int) - 1))).bind fun s18 =>
    (etag_permitted s18).bind fun r19 =>
    some (!r19)).bind fun b24 =>
  (bif b24 then
    some ((⟨false, []⟩ : GETag), false)
  else
    (xsub r3.1 1 (wr ((r3.1.length : Int) - 1))).bind fun s30 =>
    some ((⟨r3.2, s30⟩ : GETag), true))
/-- variantproxy/etag.List -/
noncomputable def etag_List_L0 (r1 : (List Str)) : ((List GETag) × Int) → Option (((List GETag) × Int) ⊕ ((List GETag) ⊕ ((List GETag) × Bool × Bool)))
  | (out_18, y_24) =>
    (bif decide (y_24 < (r1.length : Int)) then
      (xnth r1 y_24).bind fun x37 =>
      (etag_Parse x37).bind fun r40 =>
      (bif !r40.2 then
        some (.inr (.inr (([] : List GETag), false, false)))
      else
        (xapp out_18 ([r40.1] : List GETag)).bind fun l54 =>
        some (.inl (l54, wr (y_24 + 1))))
    else
      some (.inr (.inl out_18)))
noncomputable def etag_List (p_l : (List GField)) (p_name : Str) : Option ((List GETag) × Bool × Bool) :=
  (list_All p_l p_name).bind fun r1 =>
  (bif (r1.length : Int) == 1 then
    (xnth r1 0).bind fun x9 =>
    some (x9 == [42])
  else
    some false).bind fun b12 =>
  (bif b12 then
    some (([] : List GETag), true, true)
  else
    (bif (((r1.length : Int) == 0) || (decide (64 ≤ (r1.length : Int)))) then
      some (([] : List GETag), false, false)
    else
      (whileO (etag_List_L0 r1) (([] : List GETag), 0)).bind fun r34 => match r34 with
      | .inr e => some e
      | .inl out_27 =>
        some (out_27, false, true)))
/-- variantproxy/etag.both -/
noncomputable def etag_both (p_a : GETag) (p_b : GETag) (p_test : (GETag → Option Bool)) : Option Bool :=
  (p_test p_a).bind fun r5 =>
  (bif r5 then
    (p_test p_b).bind fun r12 =>
    some (r12)
  else
    some false).bind fun b17 =>
  some (b17 && (p_a.fTag == p_b.fTag))
/-- variantproxy/etag.Weak$1 -/
noncomputable def etag_Weak_1 (p_e : GETag) : Option Bool :=
  some true
/-- variantproxy/etag.Weak -/
noncomputable def etag_Weak (p_a : GETag) (p_b : GETag) : Option Bool :=
  (etag_both p_a p_b etag_Weak_1).bind fun r5 =>
  some r5
/-- variantproxy/etag.Strong$1 -/
noncomputable def etag_Strong_1 (p_e : GETag) : Option Bool :=
  some (!p_e.fWeak)
/-- variantproxy/etag.Strong -/
noncomputable def etag_Strong (p_a : GETag) (p_b : GETag) : Option Bool :=
  (etag_both p_a p_b etag_Strong_1).bind fun r5 =>
  some r5
/-- variantproxy/variantproxylaw21.awake -/
noncomputable def law21_awake : Option Bool :=
  (etag_Parse [87, 47, 34, 97, 34]).bind fun r1 =>
  (etag_Parse [34, 97, 34]).bind fun r9 =>
  (bif ((r1.2 && r9.2) && r1.1.fWeak) then
    (etag_Weak r1.1 r9.1).bind fun r23 =>
    some (r23)
  else
    some false).bind fun b28 =>
  (bif b28 then
    (etag_Strong r1.1 r9.1).bind fun r34 =>
    some (!r34)
  else
    some false).bind fun b39 =>
  (bif b39 then
    (etag_Strong r9.1 r9.1).bind fun r45 =>
    some (r45)
  else
    some false).bind fun b50 =>
  some b50
/-- variantproxy/variantproxylaw21.EtagLines -/
noncomputable def law21_EtagLines_L0 (p_ppend : (List Str)) (p_x1 : Int) : ((List Str) × (List Str) × Int) → Option (((List Str) × (List Str) × Int) ⊕ (((List Str) × (List Str)) ⊕ Bool))
  | (y_22, y_26, y_30) =>
    (bif decide (y_30 < (p_ppend.length : Int)) then
      (xrem y_30 2).bind fun n48 =>
      (xnth p_ppend y_30).bind fun x49 =>
      (ref19_FormatETag (⟨n48 == 1, x49⟩ : GETag)).bind fun r52 =>
      (bif r52 == [] then
        some true
      else
        (ref01_Index r52 92 0).bind fun r59 =>
        some (decide (0 ≤ r59))).bind fun b64 =>
      (bif b64 then
        some (.inr (.inr true))
      else
        (bif decide (y_30 < p_x1) then
          (xapp y_22 ([r52] : List Str)).bind fun l75 =>
          some (.inl (l75, y_26, wr (y_30 + 1)))
        else
          (xapp y_26 ([r52] : List Str)).bind fun l86 =>
          some (.inl (y_22, l86, wr (y_30 + 1)))))
    else
      some (.inr (.inl (y_22, y_26))))
noncomputable def law21_EtagLines_L1 (p_ppend : (List Str)) (r107 : ((List GETag) × Bool × Bool)) (y_122 : Int) : Option (Int ⊕ (Unit ⊕ Bool)) :=
    (bif decide (y_122 < (r107.1.length : Int)) then
      (xnth r107.1 y_122).bind fun x134 =>
      (xnth p_ppend y_122).bind fun x138 =>
      (bif x134.fTag != x138 then
        some true
      else
        (xnth r107.1 y_122).bind fun x143 =>
        (xrem y_122 2).bind fun n147 =>
        some (x143.fWeak != (n147 == 1))).bind fun b148 =>
      (bif b148 then
        some (.inr (.inr false))
      else
        some (.inl (wr (y_122 + 1))))
    else
      some (.inr (.inl ())))
noncomputable def law21_EtagLines (p_ppend : (List Str)) (p_x1 : Int) : Option Bool :=
  (keep_Strings p_ppend).bind fun r1 =>
  (bif ((((!r1) || (decide ((p_ppend.length : Int) < 1))) || (decide (p_x1 < 0))) || (decide ((p_ppend.length : Int) < p_x1))) then
    some true
  else
    (whileO (law21_EtagLines_L0 p_ppend p_x1) (([] : List Str), ([] : List Str), 0)).bind fun r45 => match r45 with
    | .inr e => some e
    | .inl (y_34, y_38) =>
      (ref01_Join y_34).bind fun r92 =>
      (ref01_Join y_38).bind fun r97 =>
      (etag_List ([(⟨[73, 102, 45, 78, 111, 110, 101, 45, 77, 97, 116, 99, 104], r92⟩ : GField), (⟨[105, 102, 45, 110, 111, 110, 101, 45, 109, 97, 116, 99, 104], r97⟩ : GField)] : List GField) [73, 102, 45, 78, 111, 110, 101, 45, 77, 97, 116, 99, 104]).bind fun r107 =>
      (bif (((!r107.2.2) || r107.2.1) || ((r107.1.length : Int) != (p_ppend.length : Int))) then
        some false
      else
        (whileO (law21_EtagLines_L1 p_ppend r107) 0).bind fun r128 => match r128 with
        | .inr e => some e
        | .inl _ =>
          (law21_awake).bind fun r150 =>
          some r150))
/-- variantproxy/fieldline.First -/
noncomputable def fieldline_First (p_l : (List GField)) (p_name : Str) : Option (Str × Bool) :=
  (fieldline_Get p_l p_name).bind fun r1 =>
  (bif (r1.length : Int) == 0 then
    some ([], false)
  else
    (xnth r1 0).bind fun x8 =>
    some (x8, true))
/-- variantproxy/etag.Of -/
noncomputable def etag_Of (p_l : (List GField)) : Option (GETag × Bool) :=
  (fieldline_First p_l [69, 84, 97, 103]).bind fun r3 =>
  (bif !r3.2 then
    some ((⟨false, []⟩ : GETag), false)
  else
    (etag_Parse r3.1).bind fun r10 =>
    some (r10.1, r10.2))
/-- variantproxy/variantproxyref01.First -/
noncomputable def ref01_First (p_l : (List GField)) (p_name : Str) : Option (Str × Bool) :=
  (ref01_Get p_l p_name).bind fun r1 =>
  (bif decide (0 < (r1.length : Int)) then
    (xnth r1 0).bind fun x8 =>
    some (x8, true)
  else
    some ([], false))
/-- variantproxy/variantproxyref19.ParseETag -/
noncomputable def ref19_ParseETag (p_s : Str) : Option (GETag × Bool) :=
  (bif decide (2 < (p_s.length : Int)) then
    (xsub p_s 0 2).bind fun s7 =>
    some (s7 == [87, 47])
  else
    some false).bind fun b8 =>
  ((bif b8 then
    (xsub p_s 2 p_s.length).bind fun s19 =>
    some (s19, true, [])
  else
    some (p_s, false, []))).bind fun (j17 : (Str × Bool × Str)) =>
  match j17 with
  | (s_10, m14, m15) =>
    (bif decide ((s_10.length : Int) < 2) then
      some true
    else
      (xnth s_10 0).bind fun c23 =>
      some (c23 != 34)).bind fun b24 =>
    (bif b24 then
      some true
    else
      (xnth s_10 (wr ((s_10.length : Int) - 1))).bind fun c27 =>
      some (c27 != 34)).bind fun b28 =>
    (bif b28 then
      some true
    else
      (xsub s_10 1 (wr ((s_10.length : Int) - 1))).bind fun s31 =>
      (ref19_tagText s31).bind fun r32 =>
      some (!r32)).bind fun b37 =>
    (bif b37 then
      some ((⟨false, []⟩ : GETag), false)
    else
      (xsub s_10 1 (wr ((s_10.length : Int) - 1))).bind fun s43 =>
      some ((⟨m14, s43⟩ : GETag), true))
/-- variantproxy/variantproxyref19.ETagOf -/
noncomputable def ref19_ETagOf (p_l : (List GField)) : Option (GETag × Bool) :=
  (ref01_First p_l [69, 84, 97, 103]).bind fun r3 =>
  (bif !r3.2 then
    some ((⟨false, []⟩ : GETag), false)
  else
    (ref19_ParseETag r3.1).bind fun r10 =>
    some (r10.1, r10.2))
/-- variantproxy/variantproxyref19.ETagList -/
noncomputable def ref19_ETagList_L0 (r1 : (List Str)) : ((List GETag) × Int) → Option (((List GETag) × Int) ⊕ ((List GETag) ⊕ ((List GETag) × Bool × Bool)))
  | (out_19, i_23) =>
    (bif decide (i_23 < (r1.length : Int)) then
      (xnth r1 i_23).bind fun x36 =>
      (ref19_ParseETag x36).bind fun r39 =>
      (bif !r39.2 then
        some (.inr (.inr (([] : List GETag), false, false)))
      else
        (xapp out_19 ([r39.1] : List GETag)).bind fun l53 =>
        some (.inl (l53, wr (i_23 + 1))))
    else
      some (.inr (.inl out_19)))
noncomputable def ref19_ETagList (p_l : (List GField)) (p_name : Str) : Option ((List GETag) × Bool × Bool) :=
  (ref01_All p_l p_name).bind fun r1 =>
  (bif (r1.length : Int) == 1 then
    (xnth r1 0).bind fun x9 =>
    some (x9 == [42])
  else
    some false).bind fun b12 =>
  (bif b12 then
    some (([] : List GETag), true, true)
  else
    (bif (((r1.length : Int) == 0) || (decide (64 ≤ (r1.length : Int)))) then
      some (([] : List GETag), false, false)
    else
      (whileO (ref19_ETagList_L0 r1) (([] : List GETag), 0)).bind fun r33 => match r33 with
      | .inr e => some e
      | .inl out_26 =>
        some (out_26, false, true)))
/-- variantproxy/variantproxykeep.SameTags -/
noncomputable def keep_SameTags_L0 (p_a : (List GETag)) (p_b : (List GETag)) (i_5 : Int) : Option (Int ⊕ (Unit ⊕ Bool)) :=
    (bif decide (i_5 < (p_a.length : Int)) then
      (xnth p_a i_5).bind fun x17 =>
      (xnth p_b i_5).bind fun x20 =>
      (bif (!((x17.fWeak == x20.fWeak) && ((x17.fTag == x20.fTag) && true))) then
        some (.inr (.inr false))
      else
        some (.inl (wr (i_5 + 1))))
    else
      some (.inr (.inl ())))
noncomputable def keep_SameTags (p_a : (List GETag)) (p_b : (List GETag)) : Option Bool :=
  (bif (p_a.length : Int) != (p_b.length : Int) then
    some false
  else
    (whileO (keep_SameTags_L0 p_a p_b) 0).bind fun r11 => match r11 with
    | .inr e => some e
    | .inl _ =>
      some true)
/-- variantproxy/variantproxylaw21.EtagLists -/
noncomputable def law21_EtagLists (p_ppend : (List GField)) (p_x1 : Str) : Option Bool :=
  (keep_Fields p_ppend).bind fun r1 =>
  (bif ((!r1) || (decide (100 < (p_x1.length : Int)))) then
    some true
  else
    (etag_Of p_ppend).bind fun r9 =>
    (ref19_ETagOf p_ppend).bind fun r17 =>
    (etag_List p_ppend p_x1).bind fun r25 =>
    (ref19_ETagList p_ppend p_x1).bind fun r32 =>
    (bif (((r9.1.fWeak == r17.1.fWeak) && ((r9.1.fTag == r17.1.fTag) && true)) && (r9.2 == r17.2)) then
      (keep_SameTags r25.1 r32.1).bind fun r43 =>
      some (r43)
    else
      some false).bind fun b48 =>
    (bif ((b48 && (r25.2.1 == r32.2.1)) && (r25.2.2 == r32.2.2)) then
      (law21_awake).bind fun r58 =>
      some (r58)
    else
      some false).bind fun b63 =>
    some b63)
end Go.Eng.Pure
