/- A part of the proof of laws of the seat: written by program over the translation. -/
import Derived.Test.YtggmjoffcdnplaaEng9
namespace Go.Eng.Pure
open Go Go.Eng
set_option linter.unusedVariables false
structure GETag where
  fWeak : Bool
  fTag : Str
deriving DecidableEq
instance : Enc GETag where
  sz := 2
  cells H cs x := cs = [(boo x.fWeak), (str x.fTag)]
  pos := by decide
  len := fun h => by rw [h]; rfl
  mono := fun h _ => h
  one := by
    intro H cs x h v hv
    rw [h] at hv
    exact List.all_eq_true.1 (show List.all [(boo x.fWeak), (str x.fTag)] Value.oneCell' = true from rfl) v hv
/-- variantproxy/etag.both -/
noncomputable def etag_both (p_a : GETag) (p_b : GETag) (p_test : (GETag → Option Bool)) : Option Bool :=
  (p_test p_a).bind fun r5 =>
  (bif r5 then
    (p_test p_b).bind fun r12 =>
    some (r12)
  else
    some false).bind fun b17 =>
  some (b17 && (p_a.fTag == p_b.fTag))
/-- variantproxy/etag.Strong$1 -/
noncomputable def etag_Strong_1 (p_e : GETag) : Option Bool :=
  some (!p_e.fWeak)
/-- variantproxy/etag.Strong -/
noncomputable def etag_Strong (p_a : GETag) (p_b : GETag) : Option Bool :=
  (etag_both p_a p_b etag_Strong_1).bind fun r5 =>
  some r5
/-- variantproxy/variantproxyref19.Strong -/
noncomputable def ref19_Strong (p_a : GETag) (p_b : GETag) : Option Bool :=
  some (((p_a.fTag == p_b.fTag) && (!p_a.fWeak)) && (!p_b.fWeak))
/-- variantproxy/etag.Weak$1 -/
noncomputable def etag_Weak_1 (p_e : GETag) : Option Bool :=
  some true
/-- variantproxy/etag.Weak -/
noncomputable def etag_Weak (p_a : GETag) (p_b : GETag) : Option Bool :=
  (etag_both p_a p_b etag_Weak_1).bind fun r5 =>
  some r5
/-- variantproxy/variantproxyref19.Weak -/
noncomputable def ref19_Weak (p_a : GETag) (p_b : GETag) : Option Bool :=
  some (p_a.fTag == p_b.fTag)
/-- internal/stringslite.HasPrefix -/
noncomputable def stringslite_HasPrefix (p_s : Str) (p_prefix : Str) : Option Bool :=
  (bif decide ((p_prefix.length : Int) ≤ (p_s.length : Int)) then
    (xsub p_s 0 (p_prefix.length : Int)).bind fun s3 =>
    some (s3 == p_prefix)
  else
    some false).bind fun b4 =>
  some b4
/-- internal/stringslite.CutPrefix -/
noncomputable def stringslite_CutPrefix (p_s : Str) (p_prefix : Str) : Option (Str × Bool) :=
  (stringslite_HasPrefix p_s p_prefix).bind fun r1 =>
  (bif !r1 then
    some (p_s, false)
  else
    (xsub p_s (p_prefix.length : Int) p_s.length).bind fun s7 =>
    some (s7, true))
/-- strings.CutPrefix -/
noncomputable def strings_CutPrefix (p_s : Str) (p_prefix : Str) : Option (Str × Bool) :=
  (stringslite_CutPrefix p_s p_prefix).bind fun r1 =>
  some (r1.1, r1.2)
/-- variantproxy/etag.permitted -/
noncomputable def etag_permitted_L0 (p_s : Str) (y_4 : Int) : Option (Int ⊕ (Unit ⊕ Bool)) :=
    (bif decide (y_4 < (p_s.length : Int)) then
      (xnth p_s y_4).bind fun c13 =>
      (bif (((decide (c13 < 33)) || (c13 == 34)) || (c13 == 127)) then
        some (.inr (.inr false))
      else
        some (.inl (wr (y_4 + 1))))
    else
      some (.inr (.inl ())))
noncomputable def etag_permitted (p_s : Str) : Option Bool :=
  (whileO (etag_permitted_L0 p_s) 0).bind fun r10 => match r10 with
  | .inr e => some e
  | .inl _ =>
    some true
/-- variantproxy/etag.Parse -/
noncomputable def etag_Parse (p_s : Str) : Option (GETag × Bool) :=
  (strings_CutPrefix p_s [87, 47]).bind fun r3 =>
  (bif decide ((r3.1.length : Int) < 2) then
    some true
  else
    (xnth r3.1 0).bind fun c10 =>
    some (c10 != 34)).bind fun b11 =>
  (bif b11 then
    some true
  else
    (xnth r3.1 (wr ((r3.1.length : Int) - 1))).bind fun c14 =>
    some (c14 != 34)).bind fun b15 =>
  (bif b15 then
    some true
  else
    (xsub r3.1 1 (wr ((r3.1.length : Int) - 1))).bind fun s18 =>
    (etag_permitted s18).bind fun r19 =>
    some (!r19)).bind fun b24 =>
  (bif b24 then
    some ((⟨false, []⟩ : GETag), false)
  else
    (xsub r3.1 1 (wr ((r3.1.length : Int) - 1))).bind fun s30 =>
    some ((⟨r3.2, s30⟩ : GETag), true))
/-- variantproxy/variantproxylaw21.awake -/
noncomputable def law21_awake : Option Bool :=
  (etag_Parse [87, 47, 34, 97, 34]).bind fun r1 =>
  (etag_Parse [34, 97, 34]).bind fun r9 =>
  (bif ((r1.2 && r9.2) && r1.1.fWeak) then
    (etag_Weak r1.1 r9.1).bind fun r23 =>
    some (r23)
  else
    some false).bind fun b28 =>
  (bif b28 then
    (etag_Strong r1.1 r9.1).bind fun r34 =>
    some (!r34)
  else
    some false).bind fun b39 =>
  (bif b39 then
    (etag_Strong r9.1 r9.1).bind fun r45 =>
    some (r45)
  else
    some false).bind fun b50 =>
  some b50
/-- variantproxy/variantproxylaw21.EtagCompares -/
noncomputable def law21_EtagCompares (p_x : GETag) (p_y : GETag) : Option Bool :=
  (bif ((decide (1000 < (p_x.fTag.length : Int))) || (decide (1000 < (p_y.fTag.length : Int)))) then
    some true
  else
    (etag_Strong p_x p_y).bind fun r11 =>
    (ref19_Strong p_x p_y).bind fun r16 =>
    (bif r11 == r16 then
      (etag_Weak p_x p_y).bind fun r23 =>
      (ref19_Weak p_x p_y).bind fun r28 =>
      some (r23 == r28)
    else
      some false).bind fun b33 =>
    (bif b33 then
      (etag_Strong p_x p_y).bind fun r36 =>
      (bif !r36 then
        some true
      else
        (etag_Weak p_x p_y).bind fun r43 =>
        some (r43)).bind fun b48 =>
      some (b48)
    else
      some false).bind fun b49 =>
    (bif b49 then
      (etag_Weak p_x p_y).bind fun r52 =>
      (etag_Weak p_y p_x).bind fun r57 =>
      some (r52 == r57)
    else
      some false).bind fun b62 =>
    (bif b62 then
      (law21_awake).bind fun r65 =>
      some (r65)
    else
      some false).bind fun b70 =>
    some b70)
/-- variantproxy/variantproxyref19.tagText -/
noncomputable def ref19_tagText_L0 (p_s : Str) (i_3 : Int) : Option (Int ⊕ (Unit ⊕ Bool)) :=
    (bif decide (i_3 < (p_s.length : Int)) then
      (xnth p_s i_3).bind fun c12 =>
      (bif decide (c12 < 33) then
        some true
      else
        (xnth p_s i_3).bind fun c15 =>
        some (c15 == 34)).bind fun b16 =>
      (bif b16 then
        some true
      else
        (xnth p_s i_3).bind fun c19 =>
        some (c19 == 127)).bind fun b20 =>
      (bif b20 then
        some (.inr (.inr false))
      else
        some (.inl (wr (i_3 + 1))))
    else
      some (.inr (.inl ())))
noncomputable def ref19_tagText (p_s : Str) : Option Bool :=
  (whileO (ref19_tagText_L0 p_s) 0).bind fun r9 => match r9 with
  | .inr e => some e
  | .inl _ =>
    some true
/-- variantproxy/variantproxyref19.ParseETag -/
noncomputable def ref19_ParseETag (p_s : Str) : Option (GETag × Bool) :=
  (bif decide (2 < (p_s.length : Int)) then
    (xsub p_s 0 2).bind fun s7 =>
    some (s7 == [87, 47])
  else
    some false).bind fun b8 =>
  ((bif b8 then
    (xsub p_s 2 p_s.length).bind fun s19 =>
    some (s19, true, [])
  else
    some (p_s, false, []))).bind fun (j17 : (Str × Bool × Str)) =>
  match j17 with
  | (s_10, m14, m15) =>
    (bif decide ((s_10.length : Int) < 2) then
      some true
    else
      (xnth s_10 0).bind fun c23 =>
      some (c23 != 34)).bind fun b24 =>
    (bif b24 then
      some true
    else
      (xnth s_10 (wr ((s_10.length : Int) - 1))).bind fun c27 =>
      some (c27 != 34)).bind fun b28 =>
    (bif b28 then
      some true
    else
      (xsub s_10 1 (wr ((s_10.length : Int) - 1))).bind fun s31 =>
      (ref19_tagText s31).bind fun r32 =>
      some (!r32)).bind fun b37 =>
    (bif b37 then
      some ((⟨false, []⟩ : GETag), false)
    else
      (xsub s_10 1 (wr ((s_10.length : Int) - 1))).bind fun s43 =>
      some ((⟨m14, s43⟩ : GETag), true))
/-- variantproxy/etag.Format -/
noncomputable def etag_Format (p_e : GETag) : Option Str :=
  (etag_permitted p_e.fTag).bind fun r3 =>
  (bif !r3 then
    some []
  else
    (xcat [34] p_e.fTag).bind fun s9 =>
    (xcat s9 [34]).bind fun s10 =>
    (bif p_e.fWeak then
      (xcat [87, 47] s10).bind fun s12 =>
      some s12
    else
      some s10))
/-- variantproxy/variantproxyref19.FormatETag -/
noncomputable def ref19_FormatETag (p_e : GETag) : Option Str :=
  (ref19_tagText p_e.fTag).bind fun r3 =>
  (bif !r3 then
    some []
  else
    (bif p_e.fWeak then
      (xcat [87, 47, 34] p_e.fTag).bind fun s10 =>
      (xcat s10 [34]).bind fun s11 =>
      some s11
    else
      (xcat [34] p_e.fTag).bind fun s12 =>
      (xcat s12 [34]).bind fun s13 =>
      some s13))
/-- variantproxy/variantproxylaw21.EtagParses -/
noncomputable def law21_EtagParses (p_s : Str) (p_e : GETag) : Option Bool :=
  (bif ((decide (1000 < (p_s.length : Int))) || (decide (1000 < (p_e.fTag.length : Int)))) then
    some true
  else
    (etag_Parse p_s).bind fun r6 =>
    (ref19_ParseETag p_s).bind fun r14 =>
    (bif (((r6.1.fWeak == r14.1.fWeak) && ((r6.1.fTag == r14.1.fTag) && true)) && (r6.2 == r14.2)) then
      (etag_Format p_e).bind fun r29 =>
      (ref19_FormatETag p_e).bind fun r34 =>
      some (r29 == r34)
    else
      some false).bind fun b39 =>
    (bif b39 then
      (law21_awake).bind fun r42 =>
      some (r42)
    else
      some false).bind fun b47 =>
    some b47)
/-- variantproxy/variantproxylaw21.EtagBack -/
noncomputable def law21_EtagBack (p_s : Str) (p_e : GETag) : Option Bool :=
  (bif ((decide (1000 < (p_s.length : Int))) || (decide (1000 < (p_e.fTag.length : Int)))) then
    some true
  else
    (etag_Parse p_s).bind fun r6 =>
    (bif r6.2 then
      (etag_Format r6.1).bind fun r16 =>
      some (r16 != p_s)
    else
      some false).bind fun b21 =>
    (bif b21 then
      some false
    else
      (etag_Format p_e).bind fun r26 =>
      (bif r26 == [] then
        (ref19_FormatETag p_e).bind fun r32 =>
        (bif r26 == r32 then
          (law21_awake).bind fun r39 =>
          some (r39)
        else
          some false).bind fun b44 =>
        some b44
      else
        (etag_Parse r26).bind fun r48 =>
        (bif (r48.2 && ((r48.1.fWeak == p_e.fWeak) && ((r48.1.fTag == p_e.fTag) && true))) then
          (law21_awake).bind fun r60 =>
          some (r60)
        else
          some false).bind fun b65 =>
        some b65)))
end Go.Eng.Pure
