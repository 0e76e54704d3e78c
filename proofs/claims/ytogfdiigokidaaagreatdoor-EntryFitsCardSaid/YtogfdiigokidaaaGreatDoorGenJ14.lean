/- A part of the proof of laws of the seat: written by program over the translation. -/
import Derived.Test.YtogfdiigokidaaaGreatDoorPure1
import Derived.Test.YtogfdiigokidaaaGreatDoorGenJ13
namespace Go.Proofs
set_option maxHeartbeats 4000000
set_option maxRecDepth 10000
open Go.Eng Go.Eng.Pure
set_option linter.unusedVariables false
theorem law26_EntryFits_ok {w0 : World} {H0 : Hp} (hw : Holds w0 H0) (hG : Tryz.Gl w0) (p_ppend : GRequest) (p_x1 : GResponse) (p_x2 : Int) (p_x3 : Int) {vp_ppend3 : Value} {vp_x13 : Value} (Rp_ppend3 : Sl (α := GField) H0 vp_ppend3 p_ppend.fFields) (Rp_x13 : Sl (α := GField) H0 vp_x13 p_x1.fFields) {r : Bool} (h : law26_EntryFits p_ppend p_x1 p_x2 p_x3 = some r) :
  Con Tryz.prog 7 [(agg [(str p_ppend.fMethod), (str p_ppend.fTarget), (int p_ppend.fMinor), vp_ppend3, (str p_ppend.fBody)]), (agg [(int p_x1.fMinor), (int p_x1.fStatus), (str p_x1.fReason), vp_x13, (str p_x1.fBody)]), (int p_x2), (int p_x3)] w0 H0 (fun H' v => v = (boo r)) := by
 refine Con.mk (N := 69) Tryz.func7 rfl rfl (by kernel_rfl) rfl ?_
 have S := St.start hw
 refine WP.s<|WP.g<|W.box [(str p_ppend.fMethod), (str p_ppend.fTarget), (int p_ppend.fMinor), vp_ppend3, (str p_ppend.fBody)] S rfl rfl ?_
 intro b1 w2 S
 refine W.box [(int p_x1.fMinor), (int p_x1.fStatus), (str p_x1.fReason), vp_x13, (str p_x1.fBody)] S rfl rfl ?_
 intro b3 w4 S
 refine WL.a (boo false) rfl<|WL.e<|WP.s<|WP.s<|WP.g<|WL.w (R.loadBN (i := 1) (vs := [(str p_ppend.fMethod), (str p_ppend.fTarget), (int p_ppend.fMinor), vp_ppend3, (str p_ppend.fBody)]) S rfl rfl lay40 rfl rfl) ?_
 obtain ⟨r5, hr5, h⟩ := bindE h
 refine W.call S rfl (keep_Request_ok S.holds (hG.post S.post) p_ppend Rp_ppend3 hr5) ?_
 rintro v6 w7 H8 hle9 S rfl
 have Rp_ppend3 := Sl.mono Rp_ppend3 hle9
 have Rp_x13 := Sl.mono Rp_x13 hle9
 refine WL.w (R.not rfl)<|WL.m (boo (!r5)) rfl ?_
 obtain ⟨b17, hg11, h⟩ := bindE h
 refine WL.grpw 4 [15, 16, 17] 18 (boo b17) (fun w => ∃ H' : Hp, H8.le H' ∧ St w0 H0 w H' [.box b3 30 [(int p_x1.fMinor), (int p_x1.fStatus), (str p_x1.fReason), vp_x13, (str p_x1.fBody)], .box b1 40 [(str p_ppend.fMethod), (str p_ppend.fTarget), (int p_ppend.fMinor), vp_ppend3, (str p_ppend.fBody)]]) ?_ ?_
 ·rcases boolE (!r5) with hb10 | hb10
  ·replace hg11 := condT hg11 hb10
   refine WL.n rfl rfl hb10<|WL.n rfl rfl hb10<|WL.n rfl rfl hb10<|WL.w (R.pickT rfl hb10 rfl) ?_
   exact WL.e ⟨(congrArg boo (oi hg11)), ag, ⟨H8, (Hp.le.refl _), S⟩⟩
  ·replace hg11 := condF hg11 hb10
   refine WL.y rfl rfl hb10<|WL.w (R.loadBN (i := 0) (vs := [(int p_x1.fMinor), (int p_x1.fStatus), (str p_x1.fReason), vp_x13, (str p_x1.fBody)]) S rfl rfl lay30 rfl rfl)<|WL.y rfl rfl hb10 ?_
   obtain ⟨r12, hr12, hg11⟩ := bindE hg11
   refine W.call S rfl (keep_Response_ok S.holds (hG.post S.post) p_x1 Rp_x13 hr12) ?_
   rintro v13 w14 H15 hle16 S rfl
   have Rp_ppend3 := Sl.mono Rp_ppend3 hle16
   have Rp_x13 := Sl.mono Rp_x13 hle16
   refine WL.y rfl rfl hb10<|WL.w (R.not rfl)<|WL.w (R.pickF rfl hb10 rfl) ?_
   exact WL.e ⟨(congrArg boo (oi hg11)), ag, ⟨H15, hle16, S⟩⟩
 ·intro us w19 ⟨H18, hle20, S⟩
  have Rp_ppend3 := Sl.mono Rp_ppend3 hle20
  have Rp_x13 := Sl.mono Rp_x13 hle20
  refine WL.e ?_
  rcases condE h with ⟨hc21, h⟩ | ⟨hc21, h⟩
  ·refine WP.condT rfl hc21<|WP.s<|WP.g<|WL.a (boo true) rfl<|WL.e ?_
   obtain rfl := oi h
   refine WP.ret (Out.one rfl S rfl ?_)
   exact rfl
  ·refine WP.condF rfl hc21<|WP.skip<|WP.s<|WP.g<|WL.w (R.loadBN (i := 1) (vs := [(str p_ppend.fMethod), (str p_ppend.fTarget), (int p_ppend.fMinor), vp_ppend3, (str p_ppend.fBody)]) S rfl rfl lay40 rfl rfl)<|WL.w (R.loadBN (i := 0) (vs := [(int p_x1.fMinor), (int p_x1.fStatus), (str p_x1.fReason), vp_x13, (str p_x1.fBody)]) S rfl rfl lay30 rfl rfl)<|WL.m (int p_x2) rfl<|WL.m (int p_x3) rfl ?_
   obtain ⟨r22, hr22, h⟩ := bindE h
   refine W.call S rfl (entry_Make_ok S.holds (hG.post S.post) p_ppend p_x1 p_x2 p_x3 Rp_ppend3 Rp_x13 hr22) ?_
   rintro v23 w24 H25 hle26 S ⟨u27, u29, u31, u33, u35, rfl, R28, R30, R32, R34, R36⟩
   have Rp_ppend3 := Sl.mono Rp_ppend3 hle26
   refine WL.m (.tuple ⟨[(agg [u27, u29, u31, (str r22.1.fReason), u33, (str r22.1.fBody), (int r22.1.fRequested), (int r22.1.fReceived)]), u35]⟩) rfl<|WL.w (R.ext rfl rfl)<|WL.w (R.ext rfl rfl)<|W.alloc [(.slice none 0 0), (.slice none 0 0), (.slice none 0 0), (str []), (.slice none 0 0), (str []), (int 0), (int 0)] S zer26 ?_
   intro b37 w38 S
   refine W.store (i := 0) [u27, u29, u31, (str r22.1.fReason), u33, (str r22.1.fBody), (int r22.1.fRequested), (int r22.1.fReceived)] S rfl rfl rfl lay26 rfl (AllOne.all (l := [u27, u29, u31, (str r22.1.fReason), u33, (str r22.1.fBody), (int r22.1.fRequested), (int r22.1.fReceived)]) (.cons (Sl.oneC R28) (.cons (Sl.oneC R30) (.cons (Sl.oneC R32) (.cons rfl (.cons (Sl.oneC R34) (.cons rfl (.cons rfl (.cons rfl .nil))))))))) (Nat.le_of_ble_eq_true rfl) rfl ?_
   intro w39 S
   refine WL.a (u35) rfl<|WL.e<|WP.s<|WP.s<|WP.g<|WL.m (u35) rfl<|WL.w (R.lenL (α := GAxis) (xs := r22.2) (H := H25) R36 rfl Tryz.underlying43)<|WL.w (R.gtr rfl rfl)<|WL.e ?_
   rcases condE h with ⟨hc40, h⟩ | ⟨hc40, h⟩
   ·refine WP.condT rfl hc40<|WP.s<|WP.g<|WL.w (R.fieldB rfl fld26_0)<|WL.w (R.loadB (i := 0) (v := u27) S rfl rfl lay22 rfl)<|WL.w (R.lenL (α := (List Str)) (xs := r22.1.fKeys) (H := H25) R28 rfl Tryz.underlying22)<|WL.w (R.gtr rfl rfl)<|WL.m (boo (decide (0 < (r22.1.fKeys.length : Int)))) rfl ?_
    refine WL.grp 5 [35, 36, 37, 38] 39 (boo ((decide (0 < (r22.1.fKeys.length : Int))) && ((r22.1.fVary.length : Int) == 0))) ?_ ?_
    ·rcases boolE (decide (0 < (r22.1.fKeys.length : Int))) with hb41 | hb41
     ·refine WL.y rfl rfl hb41<|WL.w (R.fieldB rfl fld26_1)<|WL.y rfl rfl hb41<|WL.w (R.loadB (i := 0) (v := u29) S rfl rfl lay23 rfl)<|WL.y rfl rfl hb41<|WL.w (R.lenL (α := Str) (xs := r22.1.fVary) (H := H25) R30 rfl Tryz.underlying23)<|WL.y rfl rfl hb41<|WL.w (R.eql rfl rfl)<|WL.w (R.pickT rfl hb41 rfl) ?_
      exact WL.e ⟨(andT hb41), ag, rfl⟩
     ·refine WL.n rfl rfl hb41<|WL.n rfl rfl hb41<|WL.n rfl rfl hb41<|WL.n rfl rfl hb41<|WL.w (R.pickF rfl hb41 rfl) ?_
      exact WL.e ⟨(andF hb41), ag, rfl⟩
    ·intro us
     refine WL.m (boo ((decide (0 < (r22.1.fKeys.length : Int))) && ((r22.1.fVary.length : Int) == 0))) rfl ?_
     refine WL.grp 5 [41, 42, 43, 44] 45 (boo (((decide (0 < (r22.1.fKeys.length : Int))) && ((r22.1.fVary.length : Int) == 0)) && ((r22.1.fSnapshot.length : Int) == 0))) ?_ ?_
     ·rcases boolE ((decide (0 < (r22.1.fKeys.length : Int))) && ((r22.1.fVary.length : Int) == 0)) with hb43 | hb43
      ·refine WL.y rfl rfl hb43<|WL.w (R.fieldB rfl fld26_2)<|WL.y rfl rfl hb43<|WL.w (R.loadB (i := 0) (v := u31) S rfl rfl lay23 rfl)<|WL.y rfl rfl hb43<|WL.w (R.lenL (α := Str) (xs := r22.1.fSnapshot) (H := H25) R32 rfl Tryz.underlying23)<|WL.y rfl rfl hb43<|WL.w (R.eql rfl rfl)<|WL.w (R.pickT rfl hb43 rfl) ?_
       exact WL.e ⟨(andT hb43), ag, rfl⟩
      ·refine WL.n rfl rfl hb43<|WL.n rfl rfl hb43<|WL.n rfl rfl hb43<|WL.n rfl rfl hb43<|WL.w (R.pickF rfl hb43 rfl) ?_
       exact WL.e ⟨(andF hb43), ag, rfl⟩
     ·intro us
      refine WL.m (boo (((decide (0 < (r22.1.fKeys.length : Int))) && ((r22.1.fVary.length : Int) == 0)) && ((r22.1.fSnapshot.length : Int) == 0))) rfl ?_
      obtain ⟨b52, hg46, h⟩ := bindE h
      refine WL.grpw 3 [47, 48] 49 (boo b52) (fun w => ∃ H' : Hp, H25.le H' ∧ St w0 H0 w H' [.box b37 26 [u27, u29, u31, (str r22.1.fReason), u33, (str r22.1.fBody), (int r22.1.fRequested), (int r22.1.fReceived)], .box b3 30 [(int p_x1.fMinor), (int p_x1.fStatus), (str p_x1.fReason), vp_x13, (str p_x1.fBody)], .box b1 40 [(str p_ppend.fMethod), (str p_ppend.fTarget), (int p_ppend.fMinor), vp_ppend3, (str p_ppend.fBody)]]) ?_ ?_
      ·rcases boolE (((decide (0 < (r22.1.fKeys.length : Int))) && ((r22.1.fVary.length : Int) == 0)) && ((r22.1.fSnapshot.length : Int) == 0)) with hb45 | hb45
       ·replace hg46 := condT hg46 hb45
        refine WL.y rfl rfl hb45<|WL.m (u35) rfl<|WL.y rfl rfl hb45 ?_
        obtain ⟨r47, hr47, hg46⟩ := bindE hg46
        refine W.call S rfl (ref10_Valid_ok S.holds (hG.post S.post) r22.2 R36 hr47) ?_
        rintro v48 w49 H50 hle51 S rfl
        have Rp_ppend3 := Sl.mono Rp_ppend3 hle51
        have R28 := Sl.mono R28 hle51
        have R30 := Sl.mono R30 hle51
        have R32 := Sl.mono R32 hle51
        refine WL.w (R.pickT rfl hb45 rfl) ?_
        exact WL.e ⟨(congrArg boo (oi hg46)), ag, ⟨H50, hle51, S⟩⟩
       ·replace hg46 := condF hg46 hb45
        refine WL.n rfl rfl hb45<|WL.n rfl rfl hb45<|WL.w (R.pickF rfl hb45 rfl) ?_
        exact WL.e ⟨(congrArg boo (oi hg46)), ag, ⟨H25, (Hp.le.refl _), S⟩⟩
      ·intro us w54 ⟨H53, hle55, S⟩
       have Rp_ppend3 := Sl.mono Rp_ppend3 hle55
       have R28 := Sl.mono R28 hle55
       have R30 := Sl.mono R30 hle55
       have R32 := Sl.mono R32 hle55
       refine WL.m (boo b52) rfl ?_
       obtain ⟨b63, hg57, h⟩ := bindE h
       refine WL.grpw 2 [51] 52 (boo b63) (fun w => ∃ H' : Hp, H53.le H' ∧ St w0 H0 w H' [.box b37 26 [u27, u29, u31, (str r22.1.fReason), u33, (str r22.1.fBody), (int r22.1.fRequested), (int r22.1.fReceived)], .box b3 30 [(int p_x1.fMinor), (int p_x1.fStatus), (str p_x1.fReason), vp_x13, (str p_x1.fBody)], .box b1 40 [(str p_ppend.fMethod), (str p_ppend.fTarget), (int p_ppend.fMinor), vp_ppend3, (str p_ppend.fBody)]]) ?_ ?_
       ·rcases boolE b52 with hb56 | hb56
        ·replace hg57 := condT hg57 hb56
         refine WL.y rfl rfl hb56 ?_
         obtain ⟨r58, hr58, hg57⟩ := bindE hg57
         refine W.call S rfl (law26_awake_ok S.holds (hG.post S.post)  hr58) ?_
         rintro v59 w60 H61 hle62 S rfl
         have Rp_ppend3 := Sl.mono Rp_ppend3 hle62
         have R28 := Sl.mono R28 hle62
         have R30 := Sl.mono R30 hle62
         have R32 := Sl.mono R32 hle62
         refine WL.w (R.pickT rfl hb56 rfl) ?_
         exact WL.e ⟨(congrArg boo (oi hg57)), ag, ⟨H61, hle62, S⟩⟩
        ·replace hg57 := condF hg57 hb56
         refine WL.n rfl rfl hb56<|WL.w (R.pickF rfl hb56 rfl) ?_
         exact WL.e ⟨(congrArg boo (oi hg57)), ag, ⟨H53, (Hp.le.refl _), S⟩⟩
       ·intro us w65 ⟨H64, hle66, S⟩
        have Rp_ppend3 := Sl.mono Rp_ppend3 hle66
        have R28 := Sl.mono R28 hle66
        have R30 := Sl.mono R30 hle66
        have R32 := Sl.mono R32 hle66
        refine WL.a (boo b63) rfl<|WL.e ?_
        obtain rfl := oi h
        refine WP.ret (Out.one rfl S rfl ?_)
        exact rfl
   ·refine WP.condF rfl hc40<|WP.skip<|WP.s<|WP.g<|WL.w (R.fieldB rfl fld26_0)<|WL.w (R.loadB (i := 0) (v := u27) S rfl rfl lay22 rfl)<|WL.w (R.lenL (α := (List Str)) (xs := r22.1.fKeys) (H := H25) R28 rfl Tryz.underlying22)<|WL.w (R.eql rfl rfl)<|WL.m (boo ((r22.1.fKeys.length : Int) == 0)) rfl ?_
    obtain ⟨b74, hg68, h⟩ := bindE h
    refine WL.grpw 8 [58, 59, 60, 61, 62, 63, 64] 65 (boo b74) (fun w => ∃ H' : Hp, H25.le H' ∧ St w0 H0 w H' [.box b37 26 [u27, u29, u31, (str r22.1.fReason), u33, (str r22.1.fBody), (int r22.1.fRequested), (int r22.1.fReceived)], .box b3 30 [(int p_x1.fMinor), (int p_x1.fStatus), (str p_x1.fReason), vp_x13, (str p_x1.fBody)], .box b1 40 [(str p_ppend.fMethod), (str p_ppend.fTarget), (int p_ppend.fMinor), vp_ppend3, (str p_ppend.fBody)]]) ?_ ?_
    ·rcases boolE ((r22.1.fKeys.length : Int) == 0) with hb67 | hb67
     ·replace hg68 := condT hg68 hb67
      refine WL.y rfl rfl hb67<|WL.w (R.fieldB rfl fld26_1)<|WL.y rfl rfl hb67<|WL.w (R.loadB (i := 0) (v := u29) S rfl rfl lay23 rfl)<|WL.y rfl rfl hb67<|WL.w (R.fieldB rfl fld26_2)<|WL.y rfl rfl hb67<|WL.w (R.loadB (i := 0) (v := u31) S rfl rfl lay23 rfl)<|WL.y rfl rfl hb67<|WL.w (R.fieldB rfl fld40_3)<|WL.y rfl rfl hb67<|WL.w (R.loadB (i := 2) (v := vp_ppend3) S rfl rfl lay24 rfl) ?_
      refine WL.y rfl rfl hb67 ?_
      obtain ⟨r69, hr69, hg68⟩ := bindE hg68
      refine W.call S rfl (ref19_VaryMatch_ok S.holds (hG.post S.post) r22.1.fVary r22.1.fSnapshot p_ppend.fFields R30 R32 Rp_ppend3 hr69) ?_
      rintro v70 w71 H72 hle73 S rfl
      refine WL.w (R.pickT rfl hb67 rfl) ?_
      exact WL.e ⟨(congrArg boo (oi hg68)), ag, ⟨H72, hle73, S⟩⟩
     ·replace hg68 := condF hg68 hb67
      refine WL.n rfl rfl hb67<|WL.n rfl rfl hb67<|WL.n rfl rfl hb67<|WL.n rfl rfl hb67<|WL.n rfl rfl hb67<|WL.n rfl rfl hb67<|WL.n rfl rfl hb67<|WL.w (R.pickF rfl hb67 rfl) ?_
      exact WL.e ⟨(congrArg boo (oi hg68)), ag, ⟨H25, (Hp.le.refl _), S⟩⟩
    ·intro us w76 ⟨H75, hle77, S⟩
     refine WL.m (boo b74) rfl ?_
     obtain ⟨b85, hg79, h⟩ := bindE h
     refine WL.grpw 2 [67] 68 (boo b85) (fun w => ∃ H' : Hp, H75.le H' ∧ St w0 H0 w H' [.box b37 26 [u27, u29, u31, (str r22.1.fReason), u33, (str r22.1.fBody), (int r22.1.fRequested), (int r22.1.fReceived)], .box b3 30 [(int p_x1.fMinor), (int p_x1.fStatus), (str p_x1.fReason), vp_x13, (str p_x1.fBody)], .box b1 40 [(str p_ppend.fMethod), (str p_ppend.fTarget), (int p_ppend.fMinor), vp_ppend3, (str p_ppend.fBody)]]) ?_ ?_
     ·rcases boolE b74 with hb78 | hb78
      ·replace hg79 := condT hg79 hb78
       refine WL.y rfl rfl hb78 ?_
       obtain ⟨r80, hr80, hg79⟩ := bindE hg79
       refine W.call S rfl (law26_awake_ok S.holds (hG.post S.post)  hr80) ?_
       rintro v81 w82 H83 hle84 S rfl
       refine WL.w (R.pickT rfl hb78 rfl) ?_
       exact WL.e ⟨(congrArg boo (oi hg79)), ag, ⟨H83, hle84, S⟩⟩
      ·replace hg79 := condF hg79 hb78
       refine WL.n rfl rfl hb78<|WL.w (R.pickF rfl hb78 rfl) ?_
       exact WL.e ⟨(congrArg boo (oi hg79)), ag, ⟨H75, (Hp.le.refl _), S⟩⟩
     ·intro us w87 ⟨H86, hle88, S⟩
      refine WL.a (boo b85) rfl<|WL.e ?_
      obtain rfl := oi h
      refine WP.ret (Out.one rfl S rfl ?_)
      exact rfl
end Go.Proofs
