/- A part of the proof of laws of the seat: written by program over the translation. -/
import Derived.Test.YtogfdiigokidaaaGreatDoorEng31
namespace Go.Eng.Pure
open Go Go.Eng
set_option linter.unusedVariables false
structure GField where
 fName : Str
 fValue : Str
deriving DecidableEq
instance : Enc GField where
 sz := 2
 cells H cs x := cs = [(str x.fName), (str x.fValue)]
 pos := by decide
 len := fun h => by rw [h]; rfl
 mono := fun h _ => h
 one := by
  intro H cs x h v hv
  rw [h] at hv
  exact List.all_eq_true.1 (show List.all [(str x.fName), (str x.fValue)] Value.oneCell' = true from rfl) v hv
structure GETag where
 fWeak : Bool
 fTag : Str
deriving DecidableEq
instance : Enc GETag where
 sz := 2
 cells H cs x := cs = [(boo x.fWeak), (str x.fTag)]
 pos := by decide
 len := fun h => by rw [h]; rfl
 mono := fun h _ => h
 one := by
  intro H cs x h v hv
  rw [h] at hv
  exact List.all_eq_true.1 (show List.all [(boo x.fWeak), (str x.fTag)] Value.oneCell' = true from rfl) v hv
structure Gcachecontrol_directive where
 fform : Int
 fvalue : Str
deriving DecidableEq
instance : Enc Gcachecontrol_directive where
 sz := 2
 cells H cs x := cs = [(int x.fform), (str x.fvalue)]
 pos := by decide
 len := fun h => by rw [h]; rfl
 mono := fun h _ => h
 one := by
  intro H cs x h v hv
  rw [h] at hv
  exact List.all_eq_true.1 (show List.all [(int x.fform), (str x.fvalue)] Value.oneCell' = true from rfl) v hv
structure GControl where
 fNoStore : Bool
 fNoCache : Bool
 fMustRevalidate : Bool
 fProxyRevalidate : Bool
 fPrivate : Bool
 fPublic : Bool
 fOnlyIfCached : Bool
 fMaxAge : Int
 fSMaxAge : Int
 fMinFresh : Int
 fMaxStale : Int
deriving DecidableEq
instance : Enc GControl where
 sz := 11
 cells H cs x := cs = [(boo x.fNoStore), (boo x.fNoCache), (boo x.fMustRevalidate), (boo x.fProxyRevalidate), (boo x.fPrivate), (boo x.fPublic), (boo x.fOnlyIfCached), (int x.fMaxAge), (int x.fSMaxAge), (int x.fMinFresh), (int x.fMaxStale)]
 pos := by decide
 len := fun h => by rw [h]; rfl
 mono := fun h _ => h
 one := by
  intro H cs x h v hv
  rw [h] at hv
  exact List.all_eq_true.1 (show List.all [(boo x.fNoStore), (boo x.fNoCache), (boo x.fMustRevalidate), (boo x.fProxyRevalidate), (boo x.fPrivate), (boo x.fPublic), (boo x.fOnlyIfCached), (int x.fMaxAge), (int x.fSMaxAge), (int x.fMinFresh), (int x.fMaxStale)] Value.oneCell' = true from rfl) v hv
structure GEntry where
 fKeys : (List (List Str))
 fVary : (List Str)
 fSnapshot : (List Str)
 fReason : Str
 fFields : (List GField)
 fBody : Str
 fRequested : Int
 fReceived : Int
deriving DecidableEq
instance : Enc GEntry where
 sz := 8
 cells H cs x := ∃ u1 u2 u3 u4 : Value, cs = [u1, u2, u3, (str x.fReason), u4, (str x.fBody), (int x.fRequested), (int x.fReceived)] ∧ Sl (α := (List Str)) H u1 x.fKeys ∧ Sl (α := Str) H u2 x.fVary ∧ Sl (α := Str) H u3 x.fSnapshot ∧ Sl (α := GField) H u4 x.fFields
 pos := by decide
 len := fun ⟨u1, u2, u3, u4, h, R0, R1, R2, R3⟩ => by rw [h]; rfl
 mono := fun ⟨u1, u2, u3, u4, h, R0, R1, R2, R3⟩ hl => ⟨u1, u2, u3, u4, h, R0.mono hl, R1.mono hl, R2.mono hl, R3.mono hl⟩
 one := fun ⟨u1, u2, u3, u4, h, R0, R1, R2, R3⟩ v hv => by rw [h] at hv; exact AllOne.mem (.cons (Sl.oneC R0) (.cons (Sl.oneC R1) (.cons (Sl.oneC R2) (.cons rfl (.cons (Sl.oneC R3) (.cons rfl (.cons rfl (.cons rfl .nil)))))))) v hv
structure GResponse where
 fMinor : Int
 fStatus : Int
 fReason : Str
 fFields : (List GField)
 fBody : Str
deriving DecidableEq
instance : Enc GResponse where
 sz := 5
 cells H cs x := ∃ u1 : Value, cs = [(int x.fMinor), (int x.fStatus), (str x.fReason), u1, (str x.fBody)] ∧ Sl (α := GField) H u1 x.fFields
 pos := by decide
 len := fun ⟨u1, h, R0⟩ => by rw [h]; rfl
 mono := fun ⟨u1, h, R0⟩ hl => ⟨u1, h, R0.mono hl⟩
 one := fun ⟨u1, h, R0⟩ v hv => by rw [h] at hv; exact AllOne.mem (.cons rfl (.cons rfl (.cons rfl (.cons (Sl.oneC R0) (.cons rfl .nil))))) v hv
structure GRequest where
 fMethod : Str
 fTarget : Str
 fMinor : Int
 fFields : (List GField)
 fBody : Str
deriving DecidableEq
instance : Enc GRequest where
 sz := 5
 cells H cs x := ∃ u1 : Value, cs = [(str x.fMethod), (str x.fTarget), (int x.fMinor), u1, (str x.fBody)] ∧ Sl (α := GField) H u1 x.fFields
 pos := by decide
 len := fun ⟨u1, h, R0⟩ => by rw [h]; rfl
 mono := fun ⟨u1, h, R0⟩ hl => ⟨u1, h, R0.mono hl⟩
 one := fun ⟨u1, h, R0⟩ v hv => by rw [h] at hv; exact AllOne.mem (.cons rfl (.cons rfl (.cons rfl (.cons (Sl.oneC R0) (.cons rfl .nil))))) v hv
inductive Gvariants_domain where
 | media
 | tags
 | words (n : Int)
 | texts
deriving DecidableEq
structure GParam where
 fName : Str
 fValue : Str
deriving DecidableEq
instance : Enc GParam where
 sz := 2
 cells H cs x := cs = [(str x.fName), (str x.fValue)]
 pos := by decide
 len := fun h => by rw [h]; rfl
 mono := fun h _ => h
 one := by
  intro H cs x h v hv
  rw [h] at hv
  exact List.all_eq_true.1 (show List.all [(str x.fName), (str x.fValue)] Value.oneCell' = true from rfl) v hv
structure GMediaType where
 fType : Str
 fSub : Str
 fParams : (List GParam)
deriving DecidableEq
instance : Enc GMediaType where
 sz := 3
 cells H cs x := ∃ u1 : Value, cs = [(str x.fType), (str x.fSub), u1] ∧ Sl (α := GParam) H u1 x.fParams
 pos := by decide
 len := fun ⟨u1, h, R0⟩ => by rw [h]; rfl
 mono := fun ⟨u1, h, R0⟩ hl => ⟨u1, h, R0.mono hl⟩
 one := fun ⟨u1, h, R0⟩ v hv => by rw [h] at hv; exact AllOne.mem (.cons rfl (.cons rfl (.cons (Sl.oneC R0) .nil))) v hv
structure GAxis where
 fName : Str
 fValues : (List Str)
deriving DecidableEq
instance : Enc GAxis where
 sz := 2
 cells H cs x := ∃ u1 : Value, cs = [(str x.fName), u1] ∧ Sl (α := Str) H u1 x.fValues
 pos := by decide
 len := fun ⟨u1, h, R0⟩ => by rw [h]; rfl
 mono := fun ⟨u1, h, R0⟩ hl => ⟨u1, h, R0.mono hl⟩
 one := fun ⟨u1, h, R0⟩ v hv => by rw [h] at hv; exact AllOne.mem (.cons rfl (.cons (Sl.oneC R0) .nil)) v hv
noncomputable def ref01_Digit (p_c : UInt8) : Option Bool :=
 some ((decide (48 ≤ p_c)) && (decide (p_c ≤ 57)))
noncomputable def strings_trimRightByte_L0 (p_c : UInt8) (s_2 : Str) : Option (Str ⊕ Str) :=
  (bif decide (0 < (s_2.length : Int)) then
   (xnth s_2 (wr ((s_2.length : Int) - 1))).bind fun c15 =>
   some (c15 == p_c)
  else
   some false).bind fun b16 =>
  (bif b16 then
   (xsub s_2 0 (wr ((s_2.length : Int) - 1))).bind fun s18 =>
   some (.inl s18)
  else
   some (.inr s_2))
noncomputable def strings_trimRightByte (p_s : Str) (p_c : UInt8) : Option Str :=
 (whileO (strings_trimRightByte_L0 p_c) p_s).bind fun s_6 =>
 some s_6
noncomputable def strings_trimRightASCII_L0 (p_as : Str) (s_2 : Str) : Option (Str ⊕ Str) :=
  (bif decide (0 < (s_2.length : Int)) then
   (xnth s_2 (wr ((s_2.length : Int) - 1))).bind fun c14 =>
   (strings_asciiSet_contains p_as c14).bind fun r15 =>
   (bif !r15 then
    some (.inr s_2)
   else
    (xsub s_2 0 (wr ((s_2.length : Int) - 1))).bind fun s21 =>
    some (.inl s21))
  else
   some (.inr s_2))
noncomputable def strings_trimRightASCII (p_s : Str) (p_as : Str) : Option Str :=
 (whileO (strings_trimRightASCII_L0 p_as) p_s).bind fun s_6 =>
 some s_6
noncomputable def keep_Fields_L0 (p_l : (List GField)) (i_3 : Int) : Option (Int ⊕ (Unit ⊕ Bool)) :=
  (bif ((decide (i_3 < (p_l.length : Int))) && (decide (i_3 < 71))) then
   (xnth p_l i_3).bind fun x15 =>
   (bif decide (300 < (x15.fName.length : Int)) then
    some true
   else
    (xnth p_l i_3).bind fun x21 =>
    some (decide (300 < (x21.fValue.length : Int)))).bind fun b25 =>
   (bif b25 then
    some (.inr (.inr false))
   else
    some (.inl (wr (i_3 + 1))))
  else
   some (.inr (.inl ())))
noncomputable def keep_Fields (p_l : (List GField)) : Option Bool :=
 (whileO (keep_Fields_L0 p_l) 0).bind fun r10 => match r10 with
 | .inr e => some e
 | .inl _ =>
  some (decide ((p_l.length : Int) ≤ 70))
noncomputable def ascii_Lower_L0 (p_s : Str) : (Int × Str) → Option ((Int × Str) ⊕ Str)
 | (y_8, m10) =>
  (bif decide (y_8 < (p_s.length : Int)) then
   (xnth m10 y_8).bind fun c22 =>
   (xnth m10 y_8).bind fun c24 =>
   (bif ((decide (65 ≤ c24)) && (decide (c24 ≤ 90))) then
    (xnth m10 y_8).bind fun c28 =>
    some (.inl (wr (y_8 + 1), (m10.set y_8.toNat ((c24 + 97) - 65))))
   else
    some (.inl (wr (y_8 + 1), m10)))
  else
   some (.inr m10))
noncomputable def ascii_Lower (p_s : Str) : Option Str :=
 (whileO (ascii_Lower_L0 p_s) (0, p_s)).bind fun m14 =>
 some m14
noncomputable def fieldline_named_1 (p_f : GField) (c_x0 : Str) : Option Bool :=
 (bif (p_f.fName.length : Int) == (c_x0.length : Int) then
  (ascii_Lower p_f.fName).bind fun r8 =>
  some (r8 == c_x0)
 else
  some false).bind fun b13 =>
 some b13
noncomputable def fieldline_named (p_name : Str) : Option (GField → Option Bool) :=
 (ascii_Lower p_name).bind fun r3 =>
 some (fun x0 => fieldline_named_1 x0 r3)
noncomputable def fieldline_filter_L0 (p_l : (List GField)) (p_keep : (GField → Option Bool)) : ((List GField) × Int) → Option (((List GField) × Int) ⊕ (List GField))
 | (out_3, y_9) =>
  (bif decide (y_9 < (p_l.length : Int)) then
   (xnth p_l y_9).bind fun x22 =>
   (p_keep x22).bind fun r28 =>
   (bif r28 then
    (xapp out_3 ([x22] : List GField)).bind fun l39 =>
    some (.inl (l39, wr (y_9 + 1)))
   else
    some (.inl (out_3, wr (y_9 + 1))))
  else
   some (.inr out_3))
noncomputable def fieldline_filter (p_l : (List GField)) (p_keep : (GField → Option Bool)) : Option (List GField) :=
 (whileO (fieldline_filter_L0 p_l p_keep) (([] : List GField), 0)).bind fun out_12 =>
 some out_12
noncomputable def fieldline_Get_L0 (r6 : (List GField)) : ((List Str) × Int) → Option (((List Str) × Int) ⊕ (List Str))
 | (out_13, y_19) =>
  (bif decide (y_19 < (r6.length : Int)) then
   (xnth r6 y_19).bind fun x32 =>
   (xapp out_13 ([x32.fValue] : List Str)).bind fun l43 =>
   some (.inl (l43, wr (y_19 + 1)))
  else
   some (.inr out_13))
noncomputable def fieldline_Get (p_l : (List GField)) (p_name : Str) : Option (List Str) :=
 (fieldline_named p_name).bind fun r1 =>
 (fieldline_filter p_l r1).bind fun r6 =>
 (whileO (fieldline_Get_L0 r6) (([] : List Str), 0)).bind fun out_22 =>
 some out_22
noncomputable def list_step (p_state : Int) (p_c : UInt8) : Option Int :=
 (bif p_state == 2 then
  some 1
 else
  (bif ((p_state == 1) && (p_c == 92)) then
   some 2
  else
   (bif p_c == 34 then
    some (wr (1 - p_state))
   else
    some p_state)))
noncomputable def strings_trimLeftByte_L0 (p_c : UInt8) (s_2 : Str) : Option (Str ⊕ Str) :=
  (bif decide (0 < (s_2.length : Int)) then
   (xnth s_2 0).bind fun c15 =>
   some (c15 == p_c)
  else
   some false).bind fun b16 =>
  (bif b16 then
   (xsub s_2 1 s_2.length).bind fun s18 =>
   some (.inl s18)
  else
   some (.inr s_2))
noncomputable def strings_trimLeftByte (p_s : Str) (p_c : UInt8) : Option Str :=
 (whileO (strings_trimLeftByte_L0 p_c) p_s).bind fun s_6 =>
 some s_6
noncomputable def strings_trimLeftASCII_L0 (p_as : Str) (s_2 : Str) : Option (Str ⊕ Str) :=
  (bif decide (0 < (s_2.length : Int)) then
   (xnth s_2 0).bind fun c14 =>
   (strings_asciiSet_contains p_as c14).bind fun r15 =>
   (bif !r15 then
    some (.inr s_2)
   else
    (xsub s_2 1 s_2.length).bind fun s21 =>
    some (.inl s21))
  else
   some (.inr s_2))
noncomputable def strings_trimLeftASCII (p_s : Str) (p_as : Str) : Option Str :=
 (whileO (strings_trimLeftASCII_L0 p_as) p_s).bind fun s_6 =>
 some s_6
noncomputable def strings_Trim (p_s : Str) (p_cutset : Str) : Option Str :=
 (bif ((p_s == []) || (p_cutset == [])) then
  some p_s
 else
  (bif (p_cutset.length : Int) == 1 then
   (xnth p_cutset 0).bind fun c6 =>
   some (decide (c6 < 128))
  else
   some false).bind fun b7 =>
  (bif b7 then
   (xnth p_cutset 0).bind fun c12 =>
   (strings_trimRightByte p_s c12).bind fun r13 =>
   (xnth p_cutset 0).bind fun c18 =>
   (strings_trimLeftByte r13 c18).bind fun r19 =>
   some r19
  else
   (strings_makeASCIISet p_cutset).bind fun r24 =>
   (strings_trimRightASCII p_s p_cutset).bind fun r36 =>
   (strings_trimLeftASCII r36 p_cutset).bind fun r41 =>
   some r41))
noncomputable def ascii_Trim (p_s : Str) : Option Str :=
 (strings_Trim p_s [32, 9]).bind fun r1 =>
 some r1
noncomputable def list_Split_L0 (p_value : Str) : ((List Str) × Int × Int × Int) → Option (((List Str) × Int × Int × Int) ⊕ (List Str))
 | (out_3, state_7, from_9, i_11) =>
  (bif ((decide (i_11 ≤ (p_value.length : Int))) && (decide ((out_3.length : Int) < 64))) then
   (bif decide (i_11 < (p_value.length : Int)) then
    (bif state_7 != 0 then
     some true
    else
     (xnth p_value i_11).bind fun c30 =>
     some (c30 != 44)).bind fun b31 =>
    some (b31)
   else
    some false).bind fun b32 =>
   (bif b32 then
    (xnth p_value i_11).bind fun c34 =>
    (list_step state_7 c34).bind fun r35 =>
    some (.inl (out_3, r35, from_9, wr (i_11 + 1)))
   else
    (xsub p_value from_9 i_11).bind fun s40 =>
    (ascii_Trim s40).bind fun r41 =>
    (bif r41 != [] then
     (xapp out_3 ([r41] : List Str)).bind fun l52 =>
     some (.inl (l52, state_7, wr (i_11 + 1), wr (i_11 + 1)))
    else
     some (.inl (out_3, state_7, wr (i_11 + 1), wr (i_11 + 1)))))
  else
   some (.inr out_3))
noncomputable def list_Split (p_value : Str) : Option (List Str) :=
 (whileO (list_Split_L0 p_value) (([] : List Str), 0, 0, 0)).bind fun out_14 =>
 some out_14
noncomputable def list_All_L0 (r1 : (List Str)) : ((List Str) × Int) → Option (((List Str) × Int) ⊕ (List Str))
 | (out_8, y_14) =>
  (bif decide (y_14 < (r1.length : Int)) then
   (xnth r1 y_14).bind fun x27 =>
   (list_Split x27).bind fun r30 =>
   (xapp out_8 r30).bind fun l36 =>
   some (.inl (l36, wr (y_14 + 1)))
  else
   some (.inr out_8))
noncomputable def list_All (p_l : (List GField)) (p_name : Str) : Option (List Str) :=
 (fieldline_Get p_l p_name).bind fun r1 =>
 (whileO (list_All_L0 r1) (([] : List Str), 0)).bind fun out_17 =>
 (xsub out_17 0 (if 64 < (out_17.length : Int) then 64 else (out_17.length : Int))).bind fun l42 =>
 some l42
noncomputable def ref01_Lower_L0 (p_s : Str) : (Int × Str) → Option ((Int × Str) ⊕ Str)
 | (i_6, m8) =>
  (bif decide (i_6 < (p_s.length : Int)) then
   (xnth m8 i_6).bind fun c20 =>
   (xnth m8 i_6).bind fun c22 =>
   (bif decide (65 ≤ c22) then
    (xnth m8 i_6).bind fun c25 =>
    (xnth m8 i_6).bind fun c27 =>
    some (decide (c27 ≤ 90))
   else
    some false).bind fun b28 =>
   (bif b28 then
    (xnth m8 i_6).bind fun c30 =>
    (xnth m8 i_6).bind fun c32 =>
    (xnth m8 i_6).bind fun c33 =>
    some (.inl (wr (i_6 + 1), (m8.set i_6.toNat (c32 + 32))))
   else
    some (.inl (wr (i_6 + 1), m8)))
  else
   some (.inr m8))
noncomputable def ref01_Lower (p_s : Str) : Option Str :=
 (whileO (ref01_Lower_L0 p_s) (0, p_s)).bind fun m12 =>
 some m12
noncomputable def ref01_Fold (p_a : Str) (p_b : Str) : Option Bool :=
 (bif (p_a.length : Int) == (p_b.length : Int) then
  (ref01_Lower p_a).bind fun r3 =>
  (ref01_Lower p_b).bind fun r8 =>
  some (r3 == r8)
 else
  some false).bind fun b13 =>
 some b13
noncomputable def ref01_Get_L0 (p_l : (List GField)) (p_name : Str) : ((List Str) × Int) → Option (((List Str) × Int) ⊕ (List Str))
 | (out_4, i_8) =>
  (bif decide (i_8 < (p_l.length : Int)) then
   (xnth p_l i_8).bind fun x21 =>
   (ref01_Fold x21.fName p_name).bind fun r25 =>
   (bif r25 then
    (xnth p_l i_8).bind fun x31 =>
    (xapp out_4 ([x31.fValue] : List Str)).bind fun l40 =>
    some (.inl (l40, wr (i_8 + 1)))
   else
    some (.inl (out_4, wr (i_8 + 1))))
  else
   some (.inr out_4))
noncomputable def ref01_Get (p_l : (List GField)) (p_name : Str) : Option (List Str) :=
 (whileO (ref01_Get_L0 p_l p_name) (([] : List Str), 0)).bind fun out_11 =>
 some out_11
noncomputable def ref01_Cut_L0 (p_s : Str) (p_at : UInt8) : ((List Str) × Int × Bool × Int) → Option (((List Str) × Int × Bool × Int) ⊕ ((List Str) × Int))
 | (out_4, from_8, quoted_10, i_12) =>
  (bif decide (i_12 < (p_s.length : Int)) then
   (bif quoted_10 then
    (xnth p_s i_12).bind fun c30 =>
    some (c30 == 92)
   else
    some false).bind fun b31 =>
   (bif b31 then
    some (.inl (out_4, from_8, quoted_10, wr ((wr (i_12 + 1)) + 1)))
   else
    (xnth p_s i_12).bind fun c33 =>
    (bif c33 == 34 then
     some (.inl (out_4, from_8, !quoted_10, wr (i_12 + 1)))
    else
     (xnth p_s i_12).bind fun c35 =>
     (bif ((c35 == p_at) && (!quoted_10)) then
      (xsub p_s from_8 i_12).bind fun s39 =>
      (xapp out_4 ([s39] : List Str)).bind fun l45 =>
      some (.inl (l45, wr (i_12 + 1), quoted_10, wr (i_12 + 1)))
     else
      some (.inl (out_4, from_8, quoted_10, wr (i_12 + 1))))))
  else
   some (.inr (out_4, from_8)))
noncomputable def ref01_Cut (p_s : Str) (p_at : UInt8) : Option (List Str) :=
 (whileO (ref01_Cut_L0 p_s p_at) (([] : List Str), 0, false, 0)).bind fun r25 => match r25 with
 | (out_16, from_20) =>
  (xsub p_s from_20 p_s.length).bind fun s51 =>
  (xapp out_16 ([s51] : List Str)).bind fun l57 =>
  some l57
noncomputable def ref01_blank (p_c : UInt8) : Option Bool :=
 some ((p_c == 32) || (p_c == 9))
noncomputable def ref01_Trim_L0 (s_2 : Str) : Option (Str ⊕ Str) :=
  (bif decide (0 < (s_2.length : Int)) then
   (xnth s_2 0).bind fun c14 =>
   (ref01_blank c14).bind fun r15 =>
   some (r15)
  else
   some false).bind fun b20 =>
  (bif b20 then
   (xsub s_2 1 s_2.length).bind fun s25 =>
   some (.inl s25)
  else
   some (.inr s_2))
noncomputable def ref01_Trim_L1 (s_27 : Str) : Option (Str ⊕ Str) :=
  (bif decide (0 < (s_27.length : Int)) then
   (xnth s_27 (wr ((s_27.length : Int) - 1))).bind fun c39 =>
   (ref01_blank c39).bind fun r40 =>
   some (r40)
  else
   some false).bind fun b45 =>
  (bif b45 then
   (xsub s_27 0 (wr ((s_27.length : Int) - 1))).bind fun s50 =>
   some (.inl s50)
  else
   some (.inr s_27))
noncomputable def ref01_Trim (p_s : Str) : Option Str :=
 (whileO (ref01_Trim_L0) p_s).bind fun s_5 =>
 (whileO (ref01_Trim_L1) s_5).bind fun s_30 =>
 some s_30
noncomputable def ref01_Split_L0 (r1 : (List Str)) : ((List Str) × Int) → Option (((List Str) × Int) ⊕ (List Str))
 | (out_8, i_13) =>
  (bif ((decide (i_13 < (r1.length : Int))) && (decide ((out_8.length : Int) < 64))) then
   (xnth r1 i_13).bind fun x28 =>
   (ref01_Trim x28).bind fun r31 =>
   (bif r31 != [] then
    (xapp out_8 ([r31] : List Str)).bind fun l42 =>
    some (.inl (l42, wr (i_13 + 1)))
   else
    some (.inl (out_8, wr (i_13 + 1))))
  else
   some (.inr out_8))
noncomputable def ref01_Split (p_value : Str) : Option (List Str) :=
 (ref01_Cut p_value 44).bind fun r1 =>
 (whileO (ref01_Split_L0 r1) (([] : List Str), 0)).bind fun out_16 =>
 some out_16
noncomputable def ref01_All_L0 (r29 : (List Str)) : ((List Str) × Int) → Option (((List Str) × Int) ⊕ (List Str))
 | (out_36, k_43) =>
  (bif ((decide (k_43 < (r29.length : Int))) && (decide ((out_36.length : Int) < 64))) then
   (xnth r29 k_43).bind fun x60 =>
   (xapp out_36 ([x60] : List Str)).bind fun l68 =>
   some (.inl (l68, wr (k_43 + 1)))
  else
   some (.inr out_36))
noncomputable def ref01_All_L1 (r1 : (List Str)) : ((List Str) × Int) → Option (((List Str) × Int) ⊕ (List Str))
 | (out_8, i_13) =>
  (bif decide (i_13 < (r1.length : Int)) then
   (xnth r1 i_13).bind fun x26 =>
   (ref01_Split x26).bind fun r29 =>
   (whileO (ref01_All_L0 r29) (out_8, 0)).bind fun out_46 =>
   some (.inl (out_46, wr (i_13 + 1)))
  else
   some (.inr out_8))
noncomputable def ref01_All (p_l : (List GField)) (p_name : Str) : Option (List Str) :=
 (ref01_Get p_l p_name).bind fun r1 =>
 (whileO (ref01_All_L1 r1) (([] : List Str), 0)).bind fun out_16 =>
 some out_16
noncomputable def ref10_SameStrings_L0 (p_a : (List Str)) (p_b : (List Str)) (i_5 : Int) : Option (Int ⊕ (Unit ⊕ Bool)) :=
  (bif decide (i_5 < (p_a.length : Int)) then
   (xnth p_a i_5).bind fun x17 =>
   (xnth p_b i_5).bind fun x20 =>
   (bif x17 != x20 then
    some (.inr (.inr false))
   else
    some (.inl (wr (i_5 + 1))))
  else
   some (.inr (.inl ())))
noncomputable def ref10_SameStrings (p_a : (List Str)) (p_b : (List Str)) : Option Bool :=
 (bif (p_a.length : Int) != (p_b.length : Int) then
  some false
 else
  (whileO (ref10_SameStrings_L0 p_a p_b) 0).bind fun r11 => match r11 with
  | .inr e => some e
  | .inl _ =>
   some true)
noncomputable def list_Join (p_members : (List Str)) : Option Str :=
 (strings_Join p_members [44, 32]).bind fun r1 =>
 some r1
noncomputable def ref01_Join_L0 (p_members : (List Str)) : (Str × Int) → Option ((Str × Int) ⊕ Str)
 | (s_3, i_5) =>
  (bif decide (i_5 < (p_members.length : Int)) then
   ((bif decide (0 < i_5) then
    (xcat s_3 [44, 32]).bind fun s24 =>
    some s24
   else
    some s_3)).bind fun (s_18 : Str) =>
   (xnth p_members i_5).bind fun x25 =>
   (xcat s_18 x25).bind fun s28 =>
   some (.inl (s28, wr (i_5 + 1)))
  else
   some (.inr s_3))
noncomputable def ref01_Join (p_members : (List Str)) : Option Str :=
 (whileO (ref01_Join_L0 p_members) ([], 0)).bind fun s_8 =>
 some s_8
noncomputable def ref01_Index_L0 (p_s : Str) (p_c : UInt8) (i_4 : Int) : Option (Int ⊕ (Unit ⊕ Int)) :=
  (bif decide (i_4 < (p_s.length : Int)) then
   (xnth p_s i_4).bind fun c13 =>
   (bif c13 == p_c then
    some (.inr (.inr i_4))
   else
    some (.inl (wr (i_4 + 1))))
  else
   some (.inr (.inl ())))
noncomputable def ref01_Index (p_s : Str) (p_c : UInt8) (p_from : Int) : Option Int :=
 (whileO (ref01_Index_L0 p_s p_c) p_from).bind fun r10 => match r10 with
 | .inr e => some e
 | .inl _ =>
  some (-1)
noncomputable def fieldline_First (p_l : (List GField)) (p_name : Str) : Option (Str × Bool) :=
 (fieldline_Get p_l p_name).bind fun r1 =>
 (bif (r1.length : Int) == 0 then
  some ([], false)
 else
  (xnth r1 0).bind fun x8 =>
  some (x8, true))
noncomputable def ref01_TokenByte_L0 (p_c : UInt8) (i_14 : Int) : Option (Int ⊕ (Unit ⊕ Bool)) :=
  (bif decide (i_14 < 15) then
   (xnth [33, 35, 36, 37, 38, 39, 42, 43, 45, 46, 94, 95, 96, 124, 126] i_14).bind fun c23 =>
   (bif c23 == p_c then
    some (.inr (.inr true))
   else
    some (.inl (wr (i_14 + 1))))
  else
   some (.inr (.inl ())))
noncomputable def ref01_TokenByte (p_c : UInt8) : Option Bool :=
 (bif ((((decide (97 ≤ p_c)) && (decide (p_c ≤ 122))) || ((decide (65 ≤ p_c)) && (decide (p_c ≤ 90)))) || ((decide (48 ≤ p_c)) && (decide (p_c ≤ 57)))) then
  some true
 else
  (whileO (ref01_TokenByte_L0 p_c) 0).bind fun r20 => match r20 with
  | .inr e => some e
  | .inl _ =>
   some false)
noncomputable def ref01_Token_L0 (p_s : Str) (i_3 : Int) : Option (Int ⊕ (Unit ⊕ Bool)) :=
  (bif decide (i_3 < (p_s.length : Int)) then
   (xnth p_s i_3).bind fun c13 =>
   (ref01_TokenByte c13).bind fun r14 =>
   (bif !r14 then
    some (.inr (.inr false))
   else
    some (.inl (wr (i_3 + 1))))
  else
   some (.inr (.inl ())))
noncomputable def ref01_Token (p_s : Str) : Option Bool :=
 (whileO (ref01_Token_L0 p_s) 0).bind fun r10 => match r10 with
 | .inr e => some e
 | .inl _ =>
  some (p_s != [])
noncomputable def ref01_textByte (p_c : UInt8) : Option Bool :=
 some (((p_c == 9) || ((decide (32 ≤ p_c)) && (decide (p_c ≤ 126)))) || (decide (128 ≤ p_c)))
noncomputable def ref01_Text_L0 (p_s : Str) (i_3 : Int) : Option (Int ⊕ (Unit ⊕ Bool)) :=
  (bif decide (i_3 < (p_s.length : Int)) then
   (xnth p_s i_3).bind fun c12 =>
   (ref01_textByte c12).bind fun r13 =>
   (bif !r13 then
    some (.inr (.inr false))
   else
    some (.inl (wr (i_3 + 1))))
  else
   some (.inr (.inl ())))
noncomputable def ref01_Text (p_s : Str) : Option Bool :=
 (whileO (ref01_Text_L0 p_s) 0).bind fun r9 => match r9 with
 | .inr e => some e
 | .inl _ =>
  some true
noncomputable def ascii_part (p_c : UInt8) : Option Bool :=
 (((bif p_c == 33 then
  some (p_c == 33)
 else
  (bif p_c == 35 then
   some (p_c == 35)
  else
   (bif p_c == 36 then
    some (p_c == 36)
   else
    (bif p_c == 37 then
     some (p_c == 37)
    else
     (bif p_c == 38 then
      some (p_c == 38)
     else
      (bif p_c == 39 then
       some (p_c == 39)
      else
       (bif p_c == 42 then
        some (p_c == 42)
       else
        (bif p_c == 43 then
         some (p_c == 43)
        else
         (bif p_c == 45 then
          some (p_c == 45)
         else
          (bif p_c == 46 then
           some (p_c == 46)
          else
           (bif p_c == 94 then
            some (p_c == 94)
           else
            (bif p_c == 95 then
             some (p_c == 95)
            else
             (bif p_c == 96 then
              some (p_c == 96)
             else
              (bif p_c == 124 then
               some (p_c == 124)
              else
               some (p_c == 126)))))))))))))))).bind fun (y_7 : Bool) =>
 (bif y_7 then
  some (.inr true)
 else
  some (.inl ()))).bind fun (j4 : (Unit ⊕ Bool)) => match j4 with
 | .inr e => some e
 | .inl _ =>
  some ((((decide (48 ≤ p_c)) && (decide (p_c ≤ 57))) || ((decide (65 ≤ p_c)) && (decide (p_c ≤ 90)))) || ((decide (97 ≤ p_c)) && (decide (p_c ≤ 122))))
noncomputable def ascii_Token_L0 (p_s : Str) (y_4 : Int) : Option (Int ⊕ (Unit ⊕ Bool)) :=
  (bif decide (y_4 < (p_s.length : Int)) then
   (xnth p_s y_4).bind fun c14 =>
   (ascii_part c14).bind fun r15 =>
   (bif !r15 then
    some (.inr (.inr false))
   else
    some (.inl (wr (y_4 + 1))))
  else
   some (.inr (.inl ())))
noncomputable def ascii_Token (p_s : Str) : Option Bool :=
 (whileO (ascii_Token_L0 p_s) 0).bind fun r11 => match r11 with
 | .inr e => some e
 | .inl _ =>
  some (p_s != [])
noncomputable def ascii_Text_L0 (p_s : Str) (y_4 : Int) : Option (Int ⊕ (Unit ⊕ Bool)) :=
  (bif decide (y_4 < (p_s.length : Int)) then
   (xnth p_s y_4).bind fun c13 =>
   (bif decide (c13 < 32) then
    (xnth p_s y_4).bind fun c16 =>
    some (c16 != 9)
   else
    some false).bind fun b17 =>
   (bif b17 then
    some true
   else
    (xnth p_s y_4).bind fun c20 =>
    some (c20 == 127)).bind fun b21 =>
   (bif b21 then
    some (.inr (.inr false))
   else
    some (.inl (wr (y_4 + 1))))
  else
   some (.inr (.inl ())))
noncomputable def ascii_Text (p_s : Str) : Option Bool :=
 (whileO (ascii_Text_L0 p_s) 0).bind fun r10 => match r10 with
 | .inr e => some e
 | .inl _ =>
  some true
noncomputable def ascii_Unquote_L0 (s22 : Str) : ((List UInt8) × Int) → Option (((List UInt8) × Int) ⊕ ((List UInt8) ⊕ (Str × Bool)))
 | (out_25, i_29) =>
  (bif decide (i_29 < (s22.length : Int)) then
   (xnth s22 i_29).bind fun c42 =>
   ((bif c42 == 34 then
    some (.inr (.inr (.inr ([], false))))
   else
    (bif c42 == 92 then
     (bif (wr (i_29 + 1)) == (s22.length : Int) then
      some (.inr (.inr (.inr ([], false))))
     else
      some (.inl (wr (i_29 + 1))))
    else
     some (.inl i_29)))).bind fun (j49 : (Int ⊕ (((List UInt8) × Int) ⊕ ((List UInt8) ⊕ (Str × Bool))))) => match j49 with
   | .inr e => some e
   | .inl i_46 =>
    (xnth s22 i_46).bind fun c53 =>
    (xapp out_25 ([c53] : List UInt8)).bind fun l59 =>
    some (.inl (l59, wr (i_46 + 1)))
  else
   some (.inr (.inl out_25)))
noncomputable def ascii_Unquote (p_s : Str) : Option (Str × Bool) :=
 (bif decide ((p_s.length : Int) < 2) then
  some true
 else
  (xnth p_s 0).bind fun c3 =>
  some (c3 != 34)).bind fun b4 =>
 (bif b4 then
  some true
 else
  (xnth p_s (wr ((p_s.length : Int) - 1))).bind fun c7 =>
  some (c7 != 34)).bind fun b8 =>
 (bif b8 then
  some true
 else
  (xsub p_s 1 (wr ((p_s.length : Int) - 1))).bind fun s11 =>
  (ascii_Text s11).bind fun r12 =>
  some (!r12)).bind fun b17 =>
 (bif b17 then
  some ([], false)
 else
  (xsub p_s 1 (wr ((p_s.length : Int) - 1))).bind fun s22 =>
  (whileO (ascii_Unquote_L0 s22) (([] : List UInt8), 0)).bind fun r39 => match r39 with
  | .inr e => some e
  | .inl out_32 =>
   some (out_32, true))
noncomputable def ascii_Number_L0 (p_s : Str) : (Int × Int) → Option ((Int × Int) ⊕ (Int ⊕ (Int × Bool)))
 | (n_3, y_6) =>
  (bif decide (y_6 < (p_s.length : Int)) then
   (xnth p_s y_6).bind fun c18 =>
   (bif decide (c18 < 48) then
    some true
   else
    (xnth p_s y_6).bind fun c21 =>
    some (decide (57 < c21))).bind fun b22 =>
   (bif b22 then
    some (.inr (.inr (0, false)))
   else
    (xnth p_s y_6).bind fun c24 =>
    some (.inl ((if 2147483647 < (wr ((wr (10 * n_3)) + ((c24 - 48).toNat : Int))) then 2147483647 else (wr ((wr (10 * n_3)) + ((c24 - 48).toNat : Int)))), wr (y_6 + 1))))
  else
   some (.inr (.inl n_3)))
noncomputable def ascii_Number (p_s : Str) : Option (Int × Bool) :=
 (whileO (ascii_Number_L0 p_s) (0, 0)).bind fun r15 => match r15 with
 | .inr e => some e
 | .inl n_10 =>
  some (n_10, p_s != [])
noncomputable def ref01_Unquote_L0 (s10 : Str) : ((List UInt8) × Int) → Option (((List UInt8) × Int) ⊕ ((List UInt8) ⊕ (Str × Bool)))
 | (b_13, i_17) =>
  (bif decide (i_17 < (s10.length : Int)) then
   (xnth s10 i_17).bind fun c30 =>
   (bif c30 == 34 then
    some (.inr (.inr ([], false)))
   else
    (xnth s10 i_17).bind fun c32 =>
    ((bif c32 == 92 then
     (bif (wr (i_17 + 1)) == (s10.length : Int) then
      some (.inr (.inr (.inr ([], false))))
     else
      some (.inl (wr (i_17 + 1))))
    else
     some (.inl i_17))).bind fun (j39 : (Int ⊕ (((List UInt8) × Int) ⊕ ((List UInt8) ⊕ (Str × Bool))))) => match j39 with
    | .inr e => some e
    | .inl i_36 =>
     (xnth s10 i_36).bind fun c42 =>
     (ref01_textByte c42).bind fun r43 =>
     (bif !r43 then
      some (.inr (.inr ([], false)))
     else
      (xnth s10 i_36).bind fun c49 =>
      (xapp b_13 ([c49] : List UInt8)).bind fun l55 =>
      some (.inl (l55, wr (i_36 + 1)))))
  else
   some (.inr (.inl b_13)))
noncomputable def ref01_Unquote (p_s : Str) : Option (Str × Bool) :=
 (bif decide ((p_s.length : Int) < 2) then
  some true
 else
  (xnth p_s 0).bind fun c3 =>
  some (c3 != 34)).bind fun b4 =>
 (bif b4 then
  some true
 else
  (xnth p_s (wr ((p_s.length : Int) - 1))).bind fun c7 =>
  some (c7 != 34)).bind fun b8 =>
 (bif b8 then
  some ([], false)
 else
  (xsub p_s 1 (wr ((p_s.length : Int) - 1))).bind fun s10 =>
  (whileO (ref01_Unquote_L0 s10) (([] : List UInt8), 0)).bind fun r27 => match r27 with
  | .inr e => some e
  | .inl b_20 =>
   some (b_20, true))
noncomputable def fieldline_Has (p_l : (List GField)) (p_name : Str) : Option Bool :=
 (fieldline_named p_name).bind fun r1 =>
 (fieldline_filter p_l r1).bind fun r6 =>
 some (decide (0 < (r6.length : Int)))
noncomputable def slices_IndexFunc_string_string_L0 (p_s : (List Str)) (p_f : (Str → Option Bool)) (y_5 : Int) : Option (Int ⊕ (Unit ⊕ Int)) :=
  (bif decide (y_5 < (p_s.length : Int)) then
   (xnth p_s y_5).bind fun x14 =>
   (p_f x14).bind fun r17 =>
   (bif r17 then
    some (.inr (.inr y_5))
   else
    some (.inl (wr (y_5 + 1))))
  else
   some (.inr (.inl ())))
noncomputable def slices_IndexFunc_string_string (p_s : (List Str)) (p_f : (Str → Option Bool)) : Option Int :=
 (whileO (slices_IndexFunc_string_string_L0 p_s p_f) 0).bind fun r11 => match r11 with
 | .inr e => some e
 | .inl _ =>
  some (-1)
noncomputable def ascii_Fold (p_a : Str) (p_b : Str) : Option Bool :=
 (bif (p_a.length : Int) == (p_b.length : Int) then
  (ascii_Lower p_a).bind fun r3 =>
  (ascii_Lower p_b).bind fun r8 =>
  some (r3 == r8)
 else
  some false).bind fun b13 =>
 some b13
noncomputable def ref01_Has (p_l : (List GField)) (p_name : Str) : Option Bool :=
 (ref01_Get p_l p_name).bind fun r1 =>
 some (decide (0 < (r1.length : Int)))
noncomputable def date_index_L0 (p_n : Int) (p_name : (Int → Option Str)) (p_s : Str) (y_5 : Int) : Option (Int ⊕ (Unit ⊕ Int)) :=
  (bif decide (y_5 < p_n) then
   (p_name y_5).bind fun r14 =>
   (bif r14 == p_s then
    some (.inr (.inr y_5))
   else
    some (.inl (wr (y_5 + 1))))
  else
   some (.inr (.inl ())))
noncomputable def date_index (p_n : Int) (p_name : (Int → Option Str)) (p_s : Str) : Option Int :=
 (whileO (date_index_L0 p_n p_name p_s) 0).bind fun r11 => match r11 with
 | .inr e => some e
 | .inl _ =>
  some (-1)
noncomputable def date_monthName (p_i : Int) : Option Str :=
 (xnth ([[74, 97, 110], [70, 101, 98], [77, 97, 114], [65, 112, 114], [77, 97, 121], [74, 117, 110], [74, 117, 108], [65, 117, 103], [83, 101, 112], [79, 99, 116], [78, 111, 118], [68, 101, 99]] : List Str) p_i).bind fun s1 =>
 some s1
noncomputable def date_leap (p_year : Int) : Option Bool :=
 (xrem p_year 4).bind fun n1 =>
 (bif n1 == 0 then
  (xrem p_year 100).bind fun n4 =>
  (bif n4 != 0 then
   some true
  else
   (xrem p_year 400).bind fun n7 =>
   some (n7 == 0)).bind fun b8 =>
  some (b8)
 else
  some false).bind fun b9 =>
 some b9
noncomputable def date_length (p_year : Int) (p_month : Int) : Option Int :=
 (bif p_month == 2 then
  (date_leap p_year).bind fun r3 =>
  some (r3)
 else
  some false).bind fun b8 =>
 (bif b8 then
  some 29
 else
  (xnth ([31, 28, 31, 30, 31, 30, 31, 31, 30, 31, 30, 31] : List Int) (wr (p_month - 1))).bind fun n13 =>
  some n13)
noncomputable def date_before (p_year : Int) : Option Int :=
 (xquo (wr (p_year - 1)) 4).bind fun n1 =>
 (xquo (wr (p_year - 1)) 100).bind fun n2 =>
 (xquo (wr (p_year - 1)) 400).bind fun n3 =>
 some (wr ((wr ((wr ((wr (365 * (wr (p_year - 1)))) + n1)) - n2)) + n3))
noncomputable def date_Days_L0 (p_year : Int) (p_month : Int) : (Int × Int) → Option ((Int × Int) ⊕ Int)
 | (n_34, m_36) =>
  (bif decide (m_36 < p_month) then
   (date_length p_year m_36).bind fun r47 =>
   some (.inl (wr (n_34 + r47), wr (m_36 + 1)))
  else
   some (.inr n_34))
noncomputable def date_Days (p_year : Int) (p_month : Int) (p_day : Int) : Option Int :=
 (bif (((((decide (p_year < 1970)) || (decide (9999 < p_year))) || (decide (p_month < 1))) || (decide (12 < p_month))) || (decide (p_day < 1))) then
  some true
 else
  (date_length p_year p_month).bind fun r11 =>
  some (decide (r11 < p_day))).bind fun b16 =>
 (bif b16 then
  some (-1)
 else
  (date_before p_year).bind fun r21 =>
  (date_before 1970).bind fun r26 =>
  (whileO (date_Days_L0 p_year p_month) (wr ((wr ((wr (r21 - r26)) + p_day)) - 1), 1)).bind fun n_39 =>
  some n_39)
noncomputable def date_dayName (p_i : Int) : Option Str :=
 (xnth ([[77, 111, 110], [84, 117, 101], [87, 101, 100], [84, 104, 117], [70, 114, 105], [83, 97, 116], [83, 117, 110]] : List Str) p_i).bind fun s1 =>
 some s1
noncomputable def date_Parse (p_ppend : Str) : Option (Int × Bool) :=
 (bif (p_ppend.length : Int) != 29 then
  some true
 else
  (xsub p_ppend 3 5).bind fun s3 =>
  some (s3 != [44, 32])).bind fun b4 =>
 (bif b4 then
  some true
 else
  (xnth p_ppend 7).bind fun c7 =>
  some (c7 != 32)).bind fun b8 =>
 (bif b8 then
  some true
 else
  (xnth p_ppend 11).bind fun c11 =>
  some (c11 != 32)).bind fun b12 =>
 (bif b12 then
  some true
 else
  (xnth p_ppend 16).bind fun c15 =>
  some (c15 != 32)).bind fun b16 =>
 (bif b16 then
  some true
 else
  (xnth p_ppend 19).bind fun c19 =>
  some (c19 != 58)).bind fun b20 =>
 (bif b20 then
  some true
 else
  (xnth p_ppend 22).bind fun c23 =>
  some (c23 != 58)).bind fun b24 =>
 (bif b24 then
  some true
 else
  (xsub p_ppend 25 p_ppend.length).bind fun s27 =>
  some (s27 != [32, 71, 77, 84])).bind fun b28 =>
 (bif b28 then
  some (0, false)
 else
  (xsub p_ppend 5 7).bind fun s35 =>
  (xsub p_ppend 12 16).bind fun s36 =>
  (xsub p_ppend 17 19).bind fun s37 =>
  (xsub p_ppend 20 22).bind fun s38 =>
  (xsub p_ppend 23 25).bind fun s39 =>
  (ascii_Number s35).bind fun r40 =>
  (bif !r40.2 then
   some (0, false)
  else
   (ascii_Number s36).bind fun r47 =>
   (bif !r47.2 then
    some (0, false)
   else
    (ascii_Number s37).bind fun r54 =>
    (bif !r54.2 then
     some (0, false)
    else
     (ascii_Number s38).bind fun r61 =>
     (bif !r61.2 then
      some (0, false)
     else
      (ascii_Number s39).bind fun r68 =>
      (bif !r68.2 then
       some (0, false)
      else
       (xsub p_ppend 8 11).bind fun s75 =>
       (date_index 12 date_monthName s75).bind fun r76 =>
       (date_Days r47.1 (wr (r76 + 1)) r40.1).bind fun r81 =>
       (bif ((((decide (r81 < 0)) || (decide (23 < r54.1))) || (decide (59 < r61.1))) || (decide (59 < r68.1))) then
        some true
       else
        (xsub p_ppend 0 3).bind fun s94 =>
        (date_index 7 date_dayName s94).bind fun r95 =>
        (xrem (wr (r81 + 3)) 7).bind fun n100 =>
        some (r95 != n100)).bind fun b101 =>
       (bif b101 then
        some (0, false)
       else
        some (wr ((wr (r81 * 86400)) + (wr ((wr ((wr (r54.1 * 3600)) + (wr (r61.1 * 60)))) + r68.1))), true))))))))
noncomputable def freshness_first (p_l : (List GField)) (p_name : Str) : Option (Int × Bool) :=
 (fieldline_First p_l p_name).bind fun r1 =>
 (date_Parse r1.1).bind fun r6 =>
 some (r6.1, r6.2)
noncomputable def freshness_saturate (p_a : Int) (p_b : Int) : Option Int :=
 some (if 2147483647 < (if (wr (p_a - p_b)) < 0 then 0 else (wr (p_a - p_b))) then 2147483647 else (if (wr (p_a - p_b)) < 0 then 0 else (wr (p_a - p_b))))
noncomputable def freshness_Date (p_l : (List GField)) (p_received : Int) : Option Int :=
 (freshness_first p_l [68, 97, 116, 101]).bind fun r1 =>
 (bif r1.2 then
  some r1.1
 else
  some p_received)
noncomputable def freshness_Age (p_l : (List GField)) (p_requested : Int) (p_received : Int) (p_now : Int) : Option Int :=
 (bif ((((decide (p_requested < 0)) || (decide (p_received < p_requested))) || (decide (p_now < p_received))) || (decide (1099511627776 < p_now))) then
  some 2147483647
 else
  (fieldline_First p_l [65, 103, 101]).bind fun r8 =>
  (ascii_Number r8.1).bind fun r13 =>
  (freshness_Date p_l p_received).bind fun r18 =>
  (freshness_saturate (wr ((wr ((if (if 0 < (wr (p_received - r18)) then (wr (p_received - r18)) else 0) < (wr ((wr (r13.1 + p_received)) - p_requested)) then (wr ((wr (r13.1 + p_received)) - p_requested)) else (if 0 < (wr (p_received - r18)) then (wr (p_received - r18)) else 0)) + p_now)) - p_received)) 0).bind fun r23 =>
  some r23)
noncomputable def accept_Name (p_kind : Int) : Option Str :=
 (bif p_kind == 1 then
  some [65, 99, 99, 101, 112, 116]
 else
  (bif p_kind == 2 then
   some [65, 99, 99, 101, 112, 116, 45, 76, 97, 110, 103, 117, 97, 103, 101]
  else
   (bif p_kind == 3 then
    some [65, 99, 99, 101, 112, 116, 45, 67, 104, 97, 114, 115, 101, 116]
   else
    (bif p_kind == 4 then
     some [65, 99, 99, 101, 112, 116, 45, 69, 110, 99, 111, 100, 105, 110, 103]
    else
     some []))))
noncomputable def accept_Kind (p_name : Str) : Option Int :=
 (accept_Name 1).bind fun r1 =>
 (ascii_Fold p_name r1).bind fun r6 =>
 (bif r6 then
  some 1
 else
  (accept_Name 2).bind fun r12 =>
  (ascii_Fold p_name r12).bind fun r17 =>
  (bif r17 then
   some 2
  else
   (accept_Name 3).bind fun r23 =>
   (ascii_Fold p_name r23).bind fun r28 =>
   (bif r28 then
    some 3
   else
    (accept_Name 4).bind fun r34 =>
    (ascii_Fold p_name r34).bind fun r39 =>
    (bif r39 then
     some 4
    else
     some 0))))
noncomputable def vary_Value (p_name : Str) (p_l : (List GField)) : Option Str :=
 (fieldline_Has p_l p_name).bind fun r1 =>
 (bif !r1 then
  some []
 else
  (list_All p_l p_name).bind fun r7 =>
  (accept_Kind p_name).bind fun r13 =>
  (bif ((r13 != 0) && (decide ((r7.length : Int) < 64))) then
   (list_Join r7).bind fun r21 =>
   (ascii_Lower r21).bind fun r26 =>
   (xcat [61] r26).bind fun s31 =>
   some s31
  else
   (fieldline_Get p_l p_name).bind fun r32 =>
   (strings_Join r32 [44, 32]).bind fun r38 =>
   (xcat [61] r38).bind fun s43 =>
   some s43))
noncomputable def ref10_Name (p_kind : Int) : Option Str :=
 (bif p_kind == 1 then
  some [65, 99, 99, 101, 112, 116]
 else
  (bif p_kind == 2 then
   some [65, 99, 99, 101, 112, 116, 45, 76, 97, 110, 103, 117, 97, 103, 101]
  else
   (bif p_kind == 3 then
    some [65, 99, 99, 101, 112, 116, 45, 67, 104, 97, 114, 115, 101, 116]
   else
    (bif p_kind == 4 then
     some [65, 99, 99, 101, 112, 116, 45, 69, 110, 99, 111, 100, 105, 110, 103]
    else
     some []))))
noncomputable def ref10_Kind (p_name : Str) : Option Int :=
 (ref10_Name 1).bind fun r1 =>
 (ref01_Fold p_name r1).bind fun r6 =>
 (bif r6 then
  some 1
 else
  (ref10_Name 2).bind fun r12 =>
  (ref01_Fold p_name r12).bind fun r17 =>
  (bif r17 then
   some 2
  else
   (ref10_Name 3).bind fun r23 =>
   (ref01_Fold p_name r23).bind fun r28 =>
   (bif r28 then
    some 3
   else
    (ref10_Name 4).bind fun r34 =>
    (ref01_Fold p_name r34).bind fun r39 =>
    (bif r39 then
     some 4
    else
     some 0))))
noncomputable def ref19_VaryValue (p_name : Str) (p_l : (List GField)) : Option Str :=
 (ref01_Get p_l p_name).bind fun r1 =>
 (bif (r1.length : Int) == 0 then
  some []
 else
  (ref10_Kind p_name).bind fun r8 =>
  ((bif r8 != 0 then
   (ref01_All p_l p_name).bind fun r18 =>
   (bif decide ((r18.length : Int) < 64) then
    (ref01_Join r18).bind fun r25 =>
    (ref01_Lower r25).bind fun r30 =>
    (xcat [61] r30).bind fun s35 =>
    some (.inr s35)
   else
    some (.inl ()))
  else
   some (.inl ()))).bind fun (j16 : (Unit ⊕ Str)) => match j16 with
  | .inr e => some e
  | .inl _ =>
   (ref01_Join r1).bind fun r36 =>
   (xcat [61] r36).bind fun s41 =>
   some s41)
noncomputable def vary_Snapshot_L0 (p_names : (List Str)) (p_l : (List GField)) : ((List Str) × Int) → Option (((List Str) × Int) ⊕ (List Str))
 | (out_3, y_9) =>
  (bif decide (y_9 < (p_names.length : Int)) then
   (xnth p_names y_9).bind fun x22 =>
   (vary_Value x22 p_l).bind fun r25 =>
   (xapp out_3 ([r25] : List Str)).bind fun l35 =>
   some (.inl (l35, wr (y_9 + 1)))
  else
   some (.inr out_3))
noncomputable def vary_Snapshot (p_names : (List Str)) (p_l : (List GField)) : Option (List Str) :=
 (whileO (vary_Snapshot_L0 p_names p_l) (([] : List Str), 0)).bind fun out_12 =>
 some out_12
noncomputable def ref19_Snapshot_L0 (p_names : (List Str)) (p_l : (List GField)) : ((List Str) × Int) → Option (((List Str) × Int) ⊕ (List Str))
 | (out_4, i_8) =>
  (bif decide (i_8 < (p_names.length : Int)) then
   (xnth p_names i_8).bind fun x21 =>
   (ref19_VaryValue x21 p_l).bind fun r24 =>
   (xapp out_4 ([r24] : List Str)).bind fun l34 =>
   some (.inl (l34, wr (i_8 + 1)))
  else
   some (.inr out_4))
noncomputable def ref19_Snapshot (p_names : (List Str)) (p_l : (List GField)) : Option (List Str) :=
 (whileO (ref19_Snapshot_L0 p_names p_l) (([] : List Str), 0)).bind fun out_11 =>
 some out_11
noncomputable def slices_Equal_string_string_L0 (p_s1 : (List Str)) (p_s2 : (List Str)) (y_6 : Int) : Option (Int ⊕ (Unit ⊕ Bool)) :=
  (bif decide (y_6 < (p_s1.length : Int)) then
   (xnth p_s1 y_6).bind fun x18 =>
   (xnth p_s2 y_6).bind fun x21 =>
   (bif x18 != x21 then
    some (.inr (.inr false))
   else
    some (.inl (wr (y_6 + 1))))
  else
   some (.inr (.inl ())))
noncomputable def slices_Equal_string_string (p_s1 : (List Str)) (p_s2 : (List Str)) : Option Bool :=
 (bif (p_s1.length : Int) != (p_s2.length : Int) then
  some false
 else
  (whileO (slices_Equal_string_string_L0 p_s1 p_s2) 0).bind fun r12 => match r12 with
  | .inr e => some e
  | .inl _ =>
   some true)
noncomputable def entry_lengths_L0 (p_l : (List Str)) : (Int × Int) → Option ((Int × Int) ⊕ Int)
 | (n_2, y_6) =>
  (bif decide (y_6 < (p_l.length : Int)) then
   (xnth p_l y_6).bind fun x17 =>
   some (.inl (wr (n_2 + (wr (4 + (x17.length : Int)))), wr (y_6 + 1)))
  else
   some (.inr n_2))
noncomputable def entry_lengths (p_l : (List Str)) : Option Int :=
 (whileO (entry_lengths_L0 p_l) (0, 0)).bind fun n_9 =>
 some n_9
noncomputable def entry_Size_L0 (p_e : GEntry) : (Int × Int) → Option ((Int × Int) ⊕ Int)
 | (n_18, y_22) =>
  (bif decide (y_22 < (p_e.fFields.length : Int)) then
   (xnth p_e.fFields y_22).bind fun x34 =>
   some (.inl (wr (n_18 + (wr ((wr (4 + (x34.fName.length : Int))) + (x34.fValue.length : Int)))), wr (y_22 + 1)))
  else
   some (.inr n_18))
noncomputable def entry_Size_L1 (p_e : GEntry) : (Int × Int) → Option ((Int × Int) ⊕ Int)
 | (n_41, y_45) =>
  (bif decide (y_45 < (p_e.fKeys.length : Int)) then
   (xnth p_e.fKeys y_45).bind fun x56 =>
   (entry_lengths x56).bind fun r61 =>
   some (.inl (wr (n_41 + r61), wr (y_45 + 1)))
  else
   some (.inr n_41))
noncomputable def entry_Size (p_e : GEntry) : Option Int :=
 (entry_lengths p_e.fVary).bind fun r6 =>
 (entry_lengths p_e.fSnapshot).bind fun r11 =>
 (whileO (entry_Size_L0 p_e) (wr ((wr ((wr ((wr (100 + (p_e.fReason.length : Int))) + (p_e.fBody.length : Int))) + r6)) + r11), 0)).bind fun n_26 =>
 (whileO (entry_Size_L1 p_e) (n_26, 0)).bind fun n_48 =>
 some n_48
noncomputable def entry_Age (p_e : GEntry) (p_now : Int) : Option Int :=
 (freshness_Age p_e.fFields p_e.fRequested p_e.fReceived p_now).bind fun r3 =>
 some r3
end Go.Eng.Pure
