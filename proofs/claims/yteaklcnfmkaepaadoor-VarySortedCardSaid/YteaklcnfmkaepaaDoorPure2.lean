/- A part of the proof of laws of the seat: written by program over the translation. -/
import Derived.Test.YteaklcnfmkaepaaDoorPure1
namespace Go.Eng.Pure
open Go Go.Eng
set_option linter.unusedVariables false
/-- slices.Equal[[]variantproxy/api.Field,variantproxy/api.Field] -/
noncomputable def slices_Equal_api_Field_api_Field_L0 (p_s1 : (List GField)) (p_s2 : (List GField)) (y_6 : Int) : Option (Int ⊕ (Unit ⊕ Bool)) :=
    (bif decide (y_6 < (p_s1.length : Int)) then
      (xnth p_s1 y_6).bind fun x18 =>
      (xnth p_s2 y_6).bind fun x21 =>
      (bif (!((x18.fName == x21.fName) && ((x18.fValue == x21.fValue) && true))) then
        some (.inr (.inr false))
      else
        some (.inl (wr (y_6 + 1))))
    else
      some (.inr (.inl ())))
noncomputable def slices_Equal_api_Field_api_Field (p_s1 : (List GField)) (p_s2 : (List GField)) : Option Bool :=
  (bif (p_s1.length : Int) != (p_s2.length : Int) then
    some false
  else
    (whileO (slices_Equal_api_Field_api_Field_L0 p_s1 p_s2) 0).bind fun r12 => match r12 with
    | .inr e => some e
    | .inl _ =>
      some true)
/-- variantproxy/variantproxyref26.SameKeys -/
noncomputable def ref26_SameKeys_L0 (p_a : (List (List Str))) (p_b : (List (List Str))) (i_5 : Int) : Option (Int ⊕ (Unit ⊕ Bool)) :=
    (bif decide (i_5 < (p_a.length : Int)) then
      (xnth p_a i_5).bind fun x17 =>
      (xnth p_b i_5).bind fun x22 =>
      (ref10_SameStrings x17 x22).bind fun r27 =>
      (bif !r27 then
        some (.inr (.inr false))
      else
        some (.inl (wr (i_5 + 1))))
    else
      some (.inr (.inl ())))
noncomputable def ref26_SameKeys (p_a : (List (List Str))) (p_b : (List (List Str))) : Option Bool :=
  (bif (p_a.length : Int) != (p_b.length : Int) then
    some false
  else
    (whileO (ref26_SameKeys_L0 p_a p_b) 0).bind fun r11 => match r11 with
    | .inr e => some e
    | .inl _ =>
      some true)
/-- variantproxy/variantproxyref26.SameFields -/
noncomputable def ref26_SameFields_L0 (p_a : (List GField)) (p_b : (List GField)) (i_5 : Int) : Option (Int ⊕ (Unit ⊕ Bool)) :=
    (bif decide (i_5 < (p_a.length : Int)) then
      (xnth p_a i_5).bind fun x17 =>
      (xnth p_b i_5).bind fun x20 =>
      (bif (!((x17.fName == x20.fName) && ((x17.fValue == x20.fValue) && true))) then
        some (.inr (.inr false))
      else
        some (.inl (wr (i_5 + 1))))
    else
      some (.inr (.inl ())))
noncomputable def ref26_SameFields (p_a : (List GField)) (p_b : (List GField)) : Option Bool :=
  (bif (p_a.length : Int) != (p_b.length : Int) then
    some false
  else
    (whileO (ref26_SameFields_L0 p_a p_b) 0).bind fun r11 => match r11 with
    | .inr e => some e
    | .inl _ =>
      some true)
/-- variantproxy/variantproxyref26.Equal -/
noncomputable def ref26_Equal (p_a : GEntry) (p_b : GEntry) : Option Bool :=
  (ref26_SameKeys p_a.fKeys p_b.fKeys).bind fun r5 =>
  (bif r5 then
    (ref10_SameStrings p_a.fVary p_b.fVary).bind fun r12 =>
    some (r12)
  else
    some false).bind fun b17 =>
  (bif b17 then
    (ref10_SameStrings p_a.fSnapshot p_b.fSnapshot).bind fun r23 =>
    some (r23)
  else
    some false).bind fun b28 =>
  (bif (b28 && (p_a.fReason == p_b.fReason)) then
    (ref26_SameFields p_a.fFields p_b.fFields).bind fun r36 =>
    some (r36)
  else
    some false).bind fun b41 =>
  some (((b41 && (p_a.fBody == p_b.fBody)) && (p_a.fRequested == p_b.fRequested)) && (p_a.fReceived == p_b.fReceived))
/-- variantproxy/vary.Names -/
noncomputable def vary_Names_L0 (r1 : (List Str)) : ((List Str) × Int) → Option (((List Str) × Int) ⊕ ((List Str) ⊕ ((List Str) × Bool)))
  | (out_9, y_15) =>
    (bif decide (y_15 < (r1.length : Int)) then
      (xnth r1 y_15).bind fun x28 =>
      (ascii_Token x28).bind fun r31 =>
      (bif ((!r31) || (x28 == [42])) then
        some (.inr (.inr (([] : List Str), false)))
      else
        (ascii_Lower x28).bind fun r39 =>
        (xapp out_9 ([r39] : List Str)).bind fun l49 =>
        some (.inl (l49, wr (y_15 + 1))))
    else
      some (.inr (.inl out_9)))
noncomputable def vary_Names (p_l : (List GField)) : Option ((List Str) × Bool) :=
  (list_All p_l [86, 97, 114, 121]).bind fun r1 =>
  (bif decide (64 ≤ (r1.length : Int)) then
    some (([] : List Str), false)
  else
    (whileO (vary_Names_L0 r1) (([] : List Str), 0)).bind fun r25 => match r25 with
    | .inr e => some e
    | .inl out_18 =>
      (slices_Sort_string out_18).bind fun l55 =>
      (slices_Compact_string l55).bind fun l61 =>
      some (l61, true))
/-- variantproxy/variantproxyref19.VaryNames -/
noncomputable def ref19_VaryNames_L0 (y_10 : (List Str)) (r45 : Str) (y_55 : Int) : Option (Int ⊕ Int) :=
    (bif decide (y_55 < (y_10.length : Int)) then
      (xnth y_10 y_55).bind fun x71 =>
      some (Op.bytesLess x71 r45)
    else
      some false).bind fun b74 =>
    (bif b74 then
      some (.inl (wr (y_55 + 1)))
    else
      some (.inr y_55))
noncomputable def ref19_VaryNames_L1 (r1 : (List Str)) : ((List Str) × Int) → Option (((List Str) × Int) ⊕ ((List Str) ⊕ ((List Str) × Bool)))
  | (y_10, y_14) =>
    (bif decide (y_14 < (r1.length : Int)) then
      (xnth r1 y_14).bind fun x27 =>
      (ref01_Token x27).bind fun r30 =>
      (bif !r30 then
        some true
      else
        (xnth r1 y_14).bind fun x37 =>
        some (x37 == [42])).bind fun b40 =>
      (bif b40 then
        some (.inr (.inr (([] : List Str), false)))
      else
        (xnth r1 y_14).bind fun x42 =>
        (ref01_Lower x42).bind fun r45 =>
        (whileO (ref19_VaryNames_L0 y_10 r45) 0).bind fun y_62 =>
        (bif decide (y_62 < (y_10.length : Int)) then
          (xnth y_10 y_62).bind fun x78 =>
          some (x78 == r45)
        else
          some false).bind fun b81 =>
        (bif b81 then
          some (.inl (y_10, wr (y_14 + 1)))
        else
          (xsub y_10 0 y_62).bind fun l83 =>
          (xapp ([] : List Str) l83).bind fun l86 =>
          (xsub y_10 y_62 y_10.length).bind fun l92 =>
          (xapp l86 ([r45] : List Str)).bind fun l100 =>
          (xapp l100 l92).bind fun l106 =>
          some (.inl (l106, wr (y_14 + 1)))))
    else
      some (.inr (.inl y_10)))
noncomputable def ref19_VaryNames (p_ppend : (List GField)) : Option ((List Str) × Bool) :=
  (ref01_All p_ppend [86, 97, 114, 121]).bind fun r1 =>
  (bif decide (64 ≤ (r1.length : Int)) then
    some (([] : List Str), false)
  else
    (whileO (ref19_VaryNames_L1 r1) (([] : List Str), 0)).bind fun r24 => match r24 with
    | .inr e => some e
    | .inl y_17 =>
      some (y_17, true))
/-- variantproxy/variantproxylaw19.VaryNames -/
noncomputable def law19_VaryNames (p_l : (List GField)) : Option Bool :=
  (keep_Fields p_l).bind fun r1 =>
  (bif !r1 then
    some true
  else
    (vary_Names p_l).bind fun r7 =>
    (ref19_VaryNames p_l).bind fun r14 =>
    (keep_SameStrings r7.1 r14.1).bind fun r21 =>
    (bif (r21 && (r7.2 == r14.2)) then
      (law19_awake).bind fun r30 =>
      some (r30)
    else
      some false).bind fun b35 =>
    some b35)
/-- variantproxy/variantproxylaw19.VarySorted -/
noncomputable def law19_VarySorted_L0 (r7 : ((List Str) × Bool)) (y_29 : Int) : Option (Int ⊕ (Unit ⊕ Bool)) :=
    (bif decide (y_29 < (r7.1.length : Int)) then
      (xnth r7.1 y_29).bind fun x43 =>
      (ref01_Lower x43).bind fun r46 =>
      (xnth r7.1 y_29).bind fun x51 =>
      (bif r46 != x51 then
        some true
      else
        (xnth r7.1 y_29).bind fun x56 =>
        (ref01_Token x56).bind fun r59 =>
        some (!r59)).bind fun b64 =>
      (bif b64 then
        some true
      else
        (bif decide (0 < y_29) then
          (xnth r7.1 (wr (y_29 - 1))).bind fun x69 =>
          (xnth r7.1 y_29).bind fun x72 =>
          some (!(Op.bytesLess x69 x72))
        else
          some false).bind fun b75 =>
        some (b75)).bind fun b76 =>
      (bif b76 then
        some (.inr (.inr false))
      else
        some (.inl (wr (y_29 + 1))))
    else
      some (.inr (.inl ())))
noncomputable def law19_VarySorted_L1 (r7 : ((List Str) × Bool)) (r78 : (List Str)) (y_87 : Int) : (Bool × Int) → Option ((Bool × Int) ⊕ Bool)
  | (y_102, y_104) =>
    (bif decide (y_104 < (r7.1.length : Int)) then
      (bif y_102 then
        some true
      else
        (xnth r78 y_87).bind fun x123 =>
        (xnth r7.1 y_104).bind fun x126 =>
        (ref01_Fold x123 x126).bind fun r129 =>
        some (r129)).bind fun b134 =>
      some (.inl (b134, wr (y_104 + 1)))
    else
      some (.inr y_102))
noncomputable def law19_VarySorted_L2 (r7 : ((List Str) × Bool)) (r78 : (List Str)) (y_87 : Int) : Option (Int ⊕ (Unit ⊕ Bool)) :=
    (bif decide (y_87 < (r78.length : Int)) then
      (whileO (law19_VarySorted_L1 r7 r78 y_87) (false, 0)).bind fun y_110 =>
      (bif !y_110 then
        some (.inr (.inr false))
      else
        some (.inl (wr (y_87 + 1))))
    else
      some (.inr (.inl ())))
noncomputable def law19_VarySorted (p_ppend : (List GField)) : Option Bool :=
  (keep_Fields p_ppend).bind fun r1 =>
  (bif !r1 then
    some true
  else
    (vary_Names p_ppend).bind fun r7 =>
    (bif !r7.2 then
      (bif (r7.1.length : Int) == 0 then
        (law19_awake).bind fun r17 =>
        some (r17)
      else
        some false).bind fun b22 =>
      some b22
    else
      (whileO (law19_VarySorted_L0 r7) 0).bind fun r37 => match r37 with
      | .inr e => some e
      | .inl _ =>
        (ref01_All p_ppend [86, 97, 114, 121]).bind fun r78 =>
        (whileO (law19_VarySorted_L2 r7 r78) 0).bind fun r95 => match r95 with
        | .inr e => some e
        | .inl _ =>
          (bif decide ((r7.1.length : Int) ≤ (r78.length : Int)) then
            (law19_awake).bind fun r138 =>
            some (r138)
          else
            some false).bind fun b143 =>
          some b143))
end Go.Eng.Pure
