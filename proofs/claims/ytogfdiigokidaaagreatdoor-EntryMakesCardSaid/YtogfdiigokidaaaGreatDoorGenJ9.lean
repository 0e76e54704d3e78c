/- A part of the proof of laws of the seat: written by program over the translation. -/
import Derived.Test.YtogfdiigokidaaaGreatDoorEng31
import Derived.Test.YtogfdiigokidaaaGreatDoorGenJ8
namespace Go.Proofs
set_option maxHeartbeats 4000000
set_option maxRecDepth 10000
open Go.Eng Go.Eng.Pure
set_option linter.unusedVariables false
theorem ref10_Tag_ok {w0 : World} {H0 : Hp} (hw : Holds w0 H0) (hG : Tryz.Gl w0) (p_ppend : Str) {r : Bool} (h : ref10_Tag p_ppend = some r) :
  Con Tryz.prog 153 [(str p_ppend)] w0 H0 (fun H' v => v = (boo r)) := by
 refine Con.mk (N := 67) Tryz.func153 rfl rfl (by kernel_rfl) rfl ?_
 have S := St.start hw
 refine WP.s<|WP.g<|WL.a (boo false) rfl<|WL.e<|WP.s<|WP.g<|WL.m (str p_ppend) rfl ?_
 obtain ⟨r1, hr1, h⟩ := bindE h
 refine W.call S rfl (ref10_subtags_ok S.holds (hG.post S.post) p_ppend hr1) ?_
 rintro v2 w3 H4 hle5 S R6
 refine WL.a (v2) rfl<|WL.e<|WP.s<|WP.s<|WP.g<|WL.a (int 0) rfl<|WL.e ?_
 obtain ⟨r15, hr16, h⟩ := bindE h
 refine WP.cut (fun f w => match r15 with | .inl _ => ∃ (H11 : Hp), St w0 H0 w H11 [] | .inr _ => False) ?_ ?_
 ·refine WP.block ?_
  refine WP.loopM (ref10_Tag_L1 r1) (fun s f w => match s with | y_9 => ∃ (H7 : Hp), f 3 = v2 ∧ f 4 = (int y_9) ∧ Sl (α := Str) H7 v2 r1 ∧ St w0 H0 w H7 []) 0 r15 hr16 ?_ ?_
  ·exact ⟨H4, rfl, rfl, R6, S⟩
  ·intro y_9 f w hI y12 hy13 hy14
   obtain ⟨H7, h8, h10, R6, S⟩ := hI
   refine WP.s<|WP.s<|WP.g<|WL.m (int y_9) h10<|WL.m (v2) h8<|WL.w (R.lenL (α := Str) (xs := r1) (H := H7) R6 rfl Tryz.underlying23)<|WL.w (R.lss rfl rfl)<|WL.e ?_
   rcases condE hy13 with ⟨hc17, hy13⟩ | ⟨hc17, hy13⟩
   ·refine WP.condT rfl hc17<|WP.skip<|WP.s<|WP.block<|WP.s<|WP.s<|WP.g<|WL.m (v2) h8<|WL.m (int y_9) h10 ?_
    obtain ⟨x18, hx18, hy13⟩ := bindE hy13
    refine W.idx (α := Str) R6 rfl rfl el23 hx18 ?_
    rintro a19 _ hA20 rfl
    refine WL.w (R.loadH (v := str x18) S rfl hA20 lay9 rfl)<|WL.w (R.lenS (a := x18) rfl Tryz.underlying9)<|WL.w (R.lss rfl rfl)<|WL.m (boo (decide ((x18.length : Int) < 1))) rfl ?_
    obtain ⟨b26, hg22, hy13⟩ := bindE hy13
    refine WL.grp 7 [22, 23, 24, 25, 26, 27] 28 (boo b26) ?_ ?_
    ·rcases boolE (decide ((x18.length : Int) < 1)) with hb21 | hb21
     ·replace hg22 := condT hg22 hb21
      refine WL.n rfl rfl hb21<|WL.n rfl rfl hb21<|WL.n rfl rfl hb21<|WL.n rfl rfl hb21<|WL.n rfl rfl hb21<|WL.n rfl rfl hb21<|WL.w (R.pickT rfl hb21 rfl) ?_
      exact WL.e ⟨(congrArg boo (oi hg22)), ag, rfl⟩
     ·replace hg22 := condF hg22 hb21
      refine WL.y rfl rfl hb21<|WL.m (v2) h8<|WL.y rfl rfl hb21<|WL.m (int y_9) h10<|WL.y rfl rfl hb21 ?_
      obtain ⟨x23, hx23, hg22⟩ := bindE hg22
      refine W.idx (α := Str) R6 rfl rfl el23 hx23 ?_
      rintro a24 _ hA25 rfl
      refine WL.y rfl rfl hb21<|WL.w (R.loadH (v := str x23) S rfl hA25 lay9 rfl)<|WL.y rfl rfl hb21<|WL.w (R.lenS (a := x23) rfl Tryz.underlying9)<|WL.y rfl rfl hb21<|WL.w (R.gtr rfl rfl)<|WL.w (R.pickF rfl hb21 rfl) ?_
      exact WL.e ⟨(congrArg boo (oi hg22)), ag, rfl⟩
    ·intro us
     refine WL.e ?_
     rcases condE hy13 with ⟨hc27, hy13⟩ | ⟨hc27, hy13⟩
     ·refine WP.condT rfl hc27<|WP.s<|WP.g<|WL.a (boo false) rfl<|WL.e ?_
      obtain rfl := oi hy13
      obtain rfl := hy14
      obtain rfl := oi h
      refine WP.ret (Out.one rfl S rfl ?_)
      exact rfl
     ·refine WP.condF rfl hc27<|WP.skip<|WP.s<|WP.g<|WL.a (int 0) rfl<|WL.e ?_
      obtain ⟨r39, hr40, hy13⟩ := bindE hy13
      refine WP.cut (fun f w => match r39 with | .inl _ => ∃ (H33 : Hp), f 3 = v2 ∧ f 4 = (int y_9) ∧ Sl (α := Str) H33 v2 r1 ∧ St w0 H0 w H33 [] | .inr _ => False) ?_ ?_
      ·refine WP.block ?_
       refine WP.loopM (ref10_Tag_L0 r1 y_9) (fun s f w => match s with | y_31 => ∃ (H28 : Hp), f 3 = v2 ∧ f 4 = (int y_9) ∧ f 5 = (int y_31) ∧ Sl (α := Str) H28 v2 r1 ∧ St w0 H0 w H28 []) 0 r39 hr40 ?_ ?_
       ·exact ⟨H7, h8, h10, rfl, R6, S⟩
       ·intro y_31 f w hI y36 hy37 hy38
        obtain ⟨H28, h29, h30, h32, R6, S⟩ := hI
        refine WP.s<|WP.s<|WP.g<|WL.m (int y_31) h32<|WL.m (v2) h29<|WL.m (int y_9) h30 ?_
        obtain ⟨x41, hx41, hy37⟩ := bindE hy37
        refine W.idx (α := Str) R6 rfl rfl el23 hx41 ?_
        rintro a42 _ hA43 rfl
        refine WL.w (R.loadH (v := str x41) S rfl hA43 lay9 rfl)<|WL.w (R.lenS (a := x41) rfl Tryz.underlying9)<|WL.w (R.lss rfl rfl)<|WL.e ?_
        rcases condE hy37 with ⟨hc44, hy37⟩ | ⟨hc44, hy37⟩
        ·refine WP.condT rfl hc44<|WP.skip<|WP.s<|WP.block<|WP.s<|WP.g<|WL.m (v2) h29<|WL.m (int y_9) h30 ?_
         obtain ⟨x45, hx45, hy37⟩ := bindE hy37
         refine W.idx (α := Str) R6 rfl rfl el23 hx45 ?_
         rintro a46 _ hA47 rfl
         refine WL.w (R.loadH (v := str x45) S rfl hA47 lay9 rfl)<|WL.m (int y_31) h32 ?_
         obtain ⟨c48, hc48, hy37⟩ := bindE hy37
         refine WL.w (R.idxS rfl rfl Tryz.underlying9 hc48)<|WL.a (byt c48) rfl<|WL.e<|WP.s<|WP.g<|WL.m (byt c48) rfl<|WL.w (R.geq8 (a := c48) (b := 97) rfl rfl)<|WL.m (boo (decide (97 ≤ c48))) rfl ?_
         refine WL.grp 3 [47, 48] 49 (boo ((decide (97 ≤ c48)) && (decide (c48 ≤ 122)))) ?_ ?_
         ·rcases boolE (decide (97 ≤ c48)) with hb49 | hb49
          ·refine WL.y rfl rfl hb49<|WL.m (byt c48) rfl<|WL.y rfl rfl hb49<|WL.w (R.leq8 (a := c48) (b := 122) rfl rfl)<|WL.w (R.pickT rfl hb49 rfl) ?_
           exact WL.e ⟨(andT hb49), ag, rfl⟩
          ·refine WL.n rfl rfl hb49<|WL.n rfl rfl hb49<|WL.w (R.pickF rfl hb49 rfl) ?_
           exact WL.e ⟨(andF hb49), ag, rfl⟩
         ·intro us
          refine WL.m (boo ((decide (97 ≤ c48)) && (decide (c48 ≤ 122)))) rfl ?_
          refine WL.grp 7 [51, 52, 53, 54, 55, 56] 57 (boo (((decide (97 ≤ c48)) && (decide (c48 ≤ 122))) || ((decide (65 ≤ c48)) && (decide (c48 ≤ 90))))) ?_ ?_
          ·rcases boolE ((decide (97 ≤ c48)) && (decide (c48 ≤ 122))) with hb51 | hb51
           ·refine WL.n rfl rfl hb51<|WL.n rfl rfl hb51<|WL.n rfl rfl hb51<|WL.gund rfl rfl<|WL.gund rfl rfl<|WL.n rfl rfl hb51<|WL.w (R.pickT rfl hb51 rfl) ?_
            exact WL.e ⟨(orT hb51), ag, rfl⟩
           ·refine WL.y rfl rfl hb51<|WL.m (byt c48) rfl<|WL.y rfl rfl hb51<|WL.w (R.geq8 (a := c48) (b := 65) rfl rfl)<|WL.y rfl rfl hb51<|WL.m (boo (decide (65 ≤ c48))) rfl ?_
            refine WL.grp 3 [54, 55] 56 (boo ((decide (65 ≤ c48)) && (decide (c48 ≤ 90)))) ?_ ?_
            ·rcases boolE (decide (65 ≤ c48)) with hb53 | hb53
             ·refine WL.y rfl rfl hb53<|WL.m (byt c48) rfl<|WL.y rfl rfl hb53<|WL.w (R.leq8 (a := c48) (b := 90) rfl rfl)<|WL.y rfl rfl hb51<|WL.w (R.pickT rfl hb53 rfl) ?_
              exact WL.e ⟨(andT hb53), ag, rfl⟩
             ·refine WL.n rfl rfl hb53<|WL.n rfl rfl hb53<|WL.y rfl rfl hb51<|WL.w (R.pickF rfl hb53 rfl) ?_
              exact WL.e ⟨(andF hb53), ag, rfl⟩
            ·intro us
             refine WL.w (R.pickF rfl hb51 rfl) ?_
             exact WL.e ⟨(orF hb51), ag, rfl⟩
          ·intro us
           refine WL.m (boo (((decide (97 ≤ c48)) && (decide (c48 ≤ 122))) || ((decide (65 ≤ c48)) && (decide (c48 ≤ 90))))) rfl ?_
           obtain ⟨b68, hg56, hy37⟩ := bindE hy37
           refine WL.grpw 7 [59, 60, 61, 62, 63, 64] 65 (boo b68) (fun w => ∃ H' : Hp, H28.le H' ∧ St w0 H0 w H' []) ?_ ?_
           ·rcases boolE (((decide (97 ≤ c48)) && (decide (c48 ≤ 122))) || ((decide (65 ≤ c48)) && (decide (c48 ≤ 90)))) with hb55 | hb55
            ·replace hg56 := condT hg56 hb55
             refine WL.n rfl rfl hb55<|WL.n rfl rfl hb55<|WL.n rfl rfl hb55<|WL.gund rfl rfl<|WL.gund rfl rfl<|WL.n rfl rfl hb55<|WL.w (R.pickT rfl hb55 rfl) ?_
             exact WL.e ⟨(congrArg boo (oi hg56)), ag, ⟨H28, (Hp.le.refl _), S⟩⟩
            ·replace hg56 := condF hg56 hb55
             refine WL.y rfl rfl hb55<|WL.m (int y_9) h30<|WL.y rfl rfl hb55<|WL.w (R.gtr rfl rfl)<|WL.y rfl rfl hb55<|WL.m (boo (decide (0 < y_9))) rfl ?_
             obtain ⟨b64, hg58, hg56⟩ := bindE hg56
             refine WL.grpw 3 [62, 63] 64 (boo b64) (fun w => ∃ H' : Hp, H28.le H' ∧ St w0 H0 w H' []) ?_ ?_
             ·rcases boolE (decide (0 < y_9)) with hb57 | hb57
              ·replace hg58 := condT hg58 hb57
               refine WL.y rfl rfl hb57<|WL.m (byt c48) rfl<|WL.y rfl rfl hb57 ?_
               obtain ⟨r59, hr59, hg58⟩ := bindE hg58
               refine W.call S rfl (ref01_Digit_ok S.holds (hG.post S.post) c48 hr59) ?_
               rintro v60 w61 H62 hle63 S rfl
               have R6 := Sl.mono R6 hle63
               refine WL.y rfl rfl hb55<|WL.w (R.pickT rfl hb57 rfl) ?_
               exact WL.e ⟨(congrArg boo (oi hg58)), ag, ⟨H62, hle63, S⟩⟩
              ·replace hg58 := condF hg58 hb57
               refine WL.n rfl rfl hb57<|WL.n rfl rfl hb57<|WL.y rfl rfl hb55<|WL.w (R.pickF rfl hb57 rfl) ?_
               exact WL.e ⟨(congrArg boo (oi hg58)), ag, ⟨H28, (Hp.le.refl _), S⟩⟩
             ·intro us w66 ⟨H65, hle67, S⟩
              have R6 := Sl.mono R6 hle67
              refine WL.w (R.pickF rfl hb55 rfl) ?_
              exact WL.e ⟨(congrArg boo (oi hg56)), ag, ⟨H65, hle67, S⟩⟩
           ·intro us w70 ⟨H69, hle71, S⟩
            have R6 := Sl.mono R6 hle71
            refine WL.w (R.not rfl)<|WL.e ?_
            rcases condE hy37 with ⟨hc72, hy37⟩ | ⟨hc72, hy37⟩
            ·refine WP.condT rfl hc72<|WP.s<|WP.g<|WL.a (boo false) rfl<|WL.e ?_
             obtain rfl := oi hy37
             obtain rfl := hy38
             obtain rfl := oi hy13
             obtain rfl := hy14
             obtain rfl := oi h
             refine WP.ret (Out.one rfl S rfl ?_)
             exact rfl
            ·refine WP.condF rfl hc72<|WP.skip<|WP.g<|WL.m (int y_31) h32<|WL.w (R.add rfl rfl)<|WL.a (int (wr (y_31 + 1))) rfl<|WL.e ?_
             obtain rfl := oi hy37
             exact ⟨rfl, ⟨H69, h29, h30, rfl, R6, S⟩⟩
        ·refine WP.condF rfl hc44<|WP.exit ?_
         obtain rfl := oi hy37
         obtain rfl := hy38
         exact ⟨H28, h29, h30, R6, S⟩
      ·intro f w hM
       rcases r39 with _ | e
       ·obtain ⟨H33, h34, h35, R6, S⟩ := hM
        refine WP.g<|WL.m (int y_9) h35<|WL.w (R.add rfl rfl)<|WL.a (int (wr (y_9 + 1))) rfl<|WL.e ?_
        obtain rfl := oi hy13
        exact ⟨rfl, ⟨H33, h34, rfl, R6, S⟩⟩
       ·exact hM.elim
   ·refine WP.condF rfl hc17<|WP.exit ?_
    obtain rfl := oi hy13
    obtain rfl := hy14
    exact ⟨H7, S⟩
 ·intro f w hM
  rcases r15 with _ | e
  ·obtain ⟨H11, S⟩ := hM
   refine WP.s<|WP.g<|WL.a (boo true) rfl<|WL.e ?_
   obtain rfl := oi h
   refine WP.ret (Out.one rfl S rfl ?_)
   exact rfl
  ·exact hM.elim
theorem ref01_Text_ok {w0 : World} {H0 : Hp} (hw : Holds w0 H0) (hG : Tryz.Gl w0) (p_s : Str) {r : Bool} (h : ref01_Text p_s = some r) :
  Con Tryz.prog 77 [(str p_s)] w0 H0 (fun H' v => v = (boo r)) := by
 refine Con.mk (N := 15) Tryz.func77 rfl rfl (by kernel_rfl) rfl ?_
 have S := St.start hw
 refine WP.s<|WP.g<|WL.a (boo false) rfl<|WL.e<|WP.s<|WP.s<|WP.g<|WL.a (int 0) rfl<|WL.e ?_
 obtain ⟨r9, hr10, h⟩ := bindE h
 refine WP.cut (fun f w => match r9 with | .inl _ => ∃ (H5 : Hp), St w0 H0 w H5 [] | .inr _ => False) ?_ ?_
 ·refine WP.block ?_
  refine WP.loopM (ref01_Text_L0 p_s) (fun s f w => match s with | i_3 => ∃ (H1 : Hp), f 0 = (str p_s) ∧ f 3 = (int i_3) ∧ St w0 H0 w H1 []) 0 r9 hr10 ?_ ?_
  ·exact ⟨H0, rfl, rfl, S⟩
  ·intro i_3 f w hI y6 hy7 hy8
   obtain ⟨H1, h2, h4, S⟩ := hI
   refine WP.s<|WP.s<|WP.g<|WL.m (int i_3) h4<|WL.m (str p_s) h2<|WL.w (R.lenS (a := p_s) rfl Tryz.underlying9)<|WL.w (R.lss rfl rfl)<|WL.e ?_
   rcases condE hy7 with ⟨hc11, hy7⟩ | ⟨hc11, hy7⟩
   ·refine WP.condT rfl hc11<|WP.skip<|WP.s<|WP.block<|WP.s<|WP.g<|WL.m (str p_s) h2<|WL.m (int i_3) h4 ?_
    obtain ⟨c12, hc12, hy7⟩ := bindE hy7
    refine WL.w (R.idxS rfl rfl Tryz.underlying9 hc12) ?_
    obtain ⟨r13, hr13, hy7⟩ := bindE hy7
    refine W.call S rfl (ref01_textByte_ok S.holds (hG.post S.post) c12 hr13) ?_
    rintro v14 w15 H16 hle17 S rfl
    refine WL.w (R.not rfl)<|WL.e ?_
    rcases condE hy7 with ⟨hc18, hy7⟩ | ⟨hc18, hy7⟩
    ·refine WP.condT rfl hc18<|WP.s<|WP.g<|WL.a (boo false) rfl<|WL.e ?_
     obtain rfl := oi hy7
     obtain rfl := hy8
     obtain rfl := oi h
     refine WP.ret (Out.one rfl S rfl ?_)
     exact rfl
    ·refine WP.condF rfl hc18<|WP.skip<|WP.g<|WL.m (int i_3) h4<|WL.w (R.add rfl rfl)<|WL.a (int (wr (i_3 + 1))) rfl<|WL.e ?_
     obtain rfl := oi hy7
     exact ⟨rfl, ⟨H16, h2, rfl, S⟩⟩
   ·refine WP.condF rfl hc11<|WP.exit ?_
    obtain rfl := oi hy7
    obtain rfl := hy8
    exact ⟨H1, S⟩
 ·intro f w hM
  rcases r9 with _ | e
  ·obtain ⟨H5, S⟩ := hM
   refine WP.s<|WP.g<|WL.a (boo true) rfl<|WL.e ?_
   obtain rfl := oi h
   refine WP.ret (Out.one rfl S rfl ?_)
   exact rfl
  ·exact hM.elim
theorem ref10_Value_ok {w0 : World} {H0 : Hp} (hw : Holds w0 H0) (hG : Tryz.Gl w0) (p_ppend : Str) (p_x1 : Str) {r : Bool} (h : ref10_Value p_ppend p_x1 = some r) :
  Con Tryz.prog 105 [(str p_ppend), (str p_x1)] w0 H0 (fun H' v => v = (boo r)) := by
 refine Con.mk (N := 88) Tryz.func105 rfl rfl (by kernel_rfl) rfl ?_
 have S := St.start hw
 refine WP.s<|WP.g<|WL.a (boo false) rfl<|WL.e<|WP.s<|WP.s<|WP.g<|WL.m (str p_ppend) rfl ?_
 obtain ⟨r1, hr1, h⟩ := bindE h
 refine W.call S rfl (ref10_Kind_ok S.holds (hG.post S.post) p_ppend hr1) ?_
 rintro v2 w3 H4 hle5 S rfl
 refine WL.e ?_
 obtain ⟨j9, hj8, h⟩ := bindE h
 refine WP.cut (fun f w => match j9 with | .inl _ => ∃ (H6 : Hp), f 1 = (str p_x1) ∧ St w0 H0 w H6 [] | .inr _ => False) ?_ ?_
 ·refine WP.block<|WP.s<|WP.g<|WL.w (R.eql rfl rfl)<|WL.a (boo (r1 == 1)) rfl<|WL.e ?_
  rcases condE hj8 with ⟨hc10, hj8⟩ | ⟨hc10, hj8⟩
  ·refine WP.condT rfl hc10<|WP.s<|WP.g<|WL.m (str p_x1) rfl ?_
   obtain ⟨r11, hr11, hj8⟩ := bindE hj8
   refine W.call S rfl (ref10_ParseType_ok S.holds (hG.post S.post) p_x1 hr11) ?_
   rintro v12 w13 H14 hle15 S ⟨u16, rfl, R17⟩
   refine WL.m (.tuple ⟨[(agg [(str r11.1.fType), (str r11.1.fSub), u16]), (boo r11.2)]⟩) rfl<|WL.w (R.ext rfl rfl)<|WL.w (R.ext rfl rfl)<|W.alloc [(str []), (str []), (.slice none 0 0)] S zer155 ?_
   intro b18 w19 S
   refine W.store (i := 0) [(str r11.1.fType), (str r11.1.fSub), u16] S rfl rfl rfl lay155 rfl (AllOne.all (l := [(str r11.1.fType), (str r11.1.fSub), u16]) (.cons rfl (.cons rfl (.cons (Sl.oneC R17) .nil)))) (Nat.le_of_ble_eq_true rfl) rfl ?_
   intro w20 S
   refine WL.a (boo r11.2) rfl<|WL.e<|WP.s<|WP.s<|WP.g<|WL.a (int 0) rfl<|WL.e ?_
   obtain ⟨y_28, hr34, hj8⟩ := bindE hj8
   refine WP.cut (fun f w => ∃ (H27 : Hp), f 6 = (boo y_28) ∧ St w0 H0 w H27 []) ?_ ?_
   ·refine WP.block ?_
    refine WP.loopM (ref10_Value_L1 r11) (fun s f w => match s with | (y_23, y_25) => ∃ (H21 : Hp), f 5 = (ptr b18 0) ∧ f 6 = (boo y_23) ∧ f 7 = (int y_25) ∧ Sl (α := GParam) H21 u16 r11.1.fParams ∧ St w0 H0 w H21 [.box b18 155 [(str r11.1.fType), (str r11.1.fSub), u16]]) (r11.2, 0) y_28 hr34 ?_ ?_
    ·exact ⟨H14, rfl, rfl, rfl, R17, S⟩
    ·intro s f w hI y30 hy31 hy32
     obtain ⟨y_23, y_25⟩ := s
     obtain ⟨H21, h22, h24, h26, R17, S⟩ := hI
     refine WP.s<|WP.s<|WP.g<|WL.m (int y_25) h26<|WL.w (R.fieldB h22 fld155_2)<|WL.w (R.loadB (i := 0) (v := u16) S rfl rfl lay153 rfl)<|WL.w (R.lenL (α := GParam) (xs := r11.1.fParams) (H := H21) R17 rfl Tryz.underlying153)<|WL.w (R.lss rfl rfl)<|WL.e ?_
     rcases condE hy31 with ⟨hc35, hy31⟩ | ⟨hc35, hy31⟩
     ·refine WP.condT rfl hc35<|WP.skip<|WP.s<|WP.block<|WP.s<|WP.s<|WP.g<|WL.a (int 0) rfl<|WL.e ?_
      obtain ⟨y_45, hr52, hy31⟩ := bindE hy31
      refine WP.cut (fun f w => ∃ (H43 : Hp), f 5 = (ptr b18 0) ∧ f 6 = (boo y_45) ∧ f 7 = (int y_25) ∧ Sl (α := GParam) H43 u16 r11.1.fParams ∧ St w0 H0 w H43 [.box b18 155 [(str r11.1.fType), (str r11.1.fSub), u16]]) ?_ ?_
      ·refine WP.block ?_
       refine WP.loopM (ref10_Value_L0 r11 y_25) (fun s f w => match s with | (y_38, y_41) => ∃ (H36 : Hp), f 5 = (ptr b18 0) ∧ f 6 = (boo y_38) ∧ f 7 = (int y_25) ∧ f 8 = (int y_41) ∧ Sl (α := GParam) H36 u16 r11.1.fParams ∧ St w0 H0 w H36 [.box b18 155 [(str r11.1.fType), (str r11.1.fSub), u16]]) (y_23, 0) y_45 hr52 ?_ ?_
       ·exact ⟨H21, h22, h24, h26, rfl, R17, S⟩
       ·intro s f w hI y48 hy49 hy50
        obtain ⟨y_38, y_41⟩ := s
        obtain ⟨H36, h37, h39, h40, h42, R17, S⟩ := hI
        refine WP.s<|WP.s<|WP.g<|WL.m (int y_41) h42<|WL.m (int y_25) h40<|WL.w (R.lss rfl rfl)<|WL.e ?_
        rcases condE hy49 with ⟨hc53, hy49⟩ | ⟨hc53, hy49⟩
        ·refine WP.condT rfl hc53<|WP.skip<|WP.s<|WP.block<|WP.quiet S (by kernel_rfl) (by kernel_rfl)<|WQ.val (fun _ _ => (R.mv (v := boo y_38) h39))<|WQ.val (fun _ _ => (R.mv (v := boo y_38) rfl)) ?_
         obtain ⟨b67, hg58, hy49⟩ := bindE hy49
         refine WQ.grp 14 [32, 33, 34, 35, 36, 37, 38, 39, 40, 41, 42, 43, 44] 45 (boo b67) ?_ ?_
         ·rcases boolE y_38 with hb57 | hb57
          ·replace hg58 := condT hg58 hb57
           refine WQ.gyes rfl rfl hb57<|WQ.val (fun _ _ => (R.fieldB h37 fld155_2))<|WQ.gyes rfl rfl hb57<|WQ.val (fun w hw => by obtain ⟨_, hq, S⟩ := hw; exact (R.loadB (i := 0) (v := u16) S rfl rfl lay153 rfl))<|WQ.gyes rfl rfl hb57<|WQ.val (fun _ _ => (R.mv (v := int y_25) h40))<|WQ.gyes rfl rfl hb57 ?_
           obtain ⟨x59, hx59, hg58⟩ := bindE hg58
           refine WQ.idx (α := GParam) R17 rfl rfl el153 hx59 ?_
           rintro a60 _ hA61 rfl
           refine WQ.gyes rfl rfl hb57<|WQ.val (fun _ _ => (R.field rfl fld158_0)) ?_
           have hA62 := At.add hA61 0 (by simp)
           refine WQ.gyes rfl rfl hb57<|WQ.val (fun w hw => by obtain ⟨_, hq, S⟩ := hw; exact (R.loadH (v := str x59.fName) S rfl (At.mono hA62 hq (by simp)) lay9 rfl))<|WQ.gyes rfl rfl hb57<|WQ.val (fun _ _ => (R.fieldB h37 fld155_2))<|WQ.gyes rfl rfl hb57<|WQ.val (fun w hw => by obtain ⟨_, hq, S⟩ := hw; exact (R.loadB (i := 0) (v := u16) S rfl rfl lay153 rfl))<|WQ.gyes rfl rfl hb57<|WQ.val (fun _ _ => (R.mv (v := int y_41) h42))<|WQ.gyes rfl rfl hb57 ?_
           obtain ⟨x63, hx63, hg58⟩ := bindE hg58
           refine WQ.idx (α := GParam) R17 rfl rfl el153 hx63 ?_
           rintro a64 _ hA65 rfl
           refine WQ.gyes rfl rfl hb57<|WQ.val (fun _ _ => (R.field rfl fld158_0)) ?_
           have hA66 := At.add hA65 0 (by simp)
           refine WQ.gyes rfl rfl hb57<|WQ.val (fun w hw => by obtain ⟨_, hq, S⟩ := hw; exact (R.loadH (v := str x63.fName) S rfl (At.mono hA66 hq (by simp)) lay9 rfl))<|WQ.gyes rfl rfl hb57<|WQ.val (fun _ _ => (R.neqS (a := x59.fName) (b := x63.fName) rfl rfl))<|WQ.val (fun _ _ => (R.pickT rfl hb57 rfl)) ?_
           exact WQ.nil ⟨(congrArg boo (oi hg58)), ag⟩
          ·replace hg58 := condF hg58 hb57
           refine WQ.gno rfl rfl hb57<|WQ.gno rfl rfl hb57<|WQ.gno rfl rfl hb57<|WQ.gno rfl rfl hb57<|WQ.gno rfl rfl hb57<|WQ.gno rfl rfl hb57<|WQ.gno rfl rfl hb57<|WQ.gno rfl rfl hb57<|WQ.gno rfl rfl hb57<|WQ.gno rfl rfl hb57<|WQ.gno rfl rfl hb57<|WQ.gno rfl rfl hb57 ?_
           refine WQ.gno rfl rfl hb57<|WQ.val (fun _ _ => (R.pickF rfl hb57 rfl)) ?_
           exact WQ.nil ⟨(congrArg boo (oi hg58)), ag⟩
         ·intro us
          refine WQ.val (fun _ _ => (R.as (v := boo b67) rfl))<|WQ.nil ?_
          intro w54 H55 hle56 S
          have R17 := Sl.mono R17 hle56
          refine WP.g<|WL.m (int y_41) h42<|WL.w (R.add rfl rfl)<|WL.a (int (wr (y_41 + 1))) rfl<|WL.e ?_
          obtain rfl := oi hy49
          exact ⟨rfl, ⟨H55, h37, rfl, h40, rfl, R17, S⟩⟩
        ·refine WP.condF rfl hc53<|WP.exit ?_
         obtain rfl := oi hy49
         obtain rfl := hy50
         exact ⟨H36, h37, h39, h40, R17, S⟩
      ·rintro f w ⟨H43, h44, h46, h47, R17, S⟩
       refine WP.g<|WL.m (boo y_45) h46<|WL.m (boo y_45) rfl ?_
       obtain ⟨b74, hg69, hy31⟩ := bindE hy31
       refine WL.grp 8 [48, 49, 50, 51, 52, 53, 54] 55 (boo b74) ?_ ?_
       ·rcases boolE y_45 with hb68 | hb68
        ·replace hg69 := condT hg69 hb68
         refine WL.y rfl rfl hb68<|WL.w (R.fieldB h44 fld155_2)<|WL.y rfl rfl hb68<|WL.w (R.loadB (i := 0) (v := u16) S rfl rfl lay153 rfl)<|WL.y rfl rfl hb68<|WL.m (int y_25) h47<|WL.y rfl rfl hb68 ?_
         obtain ⟨x70, hx70, hg69⟩ := bindE hg69
         refine W.idx (α := GParam) R17 rfl rfl el153 hx70 ?_
         rintro a71 _ hA72 rfl
         refine WL.y rfl rfl hb68<|WL.w (R.field rfl fld158_0) ?_
         have hA73 := At.add hA72 0 (by simp)
         refine WL.y rfl rfl hb68<|WL.w (R.loadH (v := str x70.fName) S rfl hA73 lay9 rfl)<|WL.y rfl rfl hb68<|WL.w (R.neqS (a := x70.fName) (b := [113]) rfl rfl)<|WL.w (R.pickT rfl hb68 rfl) ?_
         exact WL.e ⟨(congrArg boo (oi hg69)), ag, rfl⟩
        ·replace hg69 := condF hg69 hb68
         refine WL.n rfl rfl hb68<|WL.n rfl rfl hb68<|WL.n rfl rfl hb68<|WL.n rfl rfl hb68<|WL.n rfl rfl hb68<|WL.n rfl rfl hb68<|WL.n rfl rfl hb68<|WL.w (R.pickF rfl hb68 rfl) ?_
         exact WL.e ⟨(congrArg boo (oi hg69)), ag, rfl⟩
       ·intro us
        refine WL.a (boo b74) rfl<|WL.e<|WP.g<|WL.m (int y_25) h47<|WL.w (R.add rfl rfl)<|WL.a (int (wr (y_25 + 1))) rfl<|WL.e ?_
        obtain rfl := oi hy31
        exact ⟨rfl, ⟨H43, h44, rfl, rfl, R17, S⟩⟩
     ·refine WP.condF rfl hc35<|WP.exit ?_
      obtain rfl := oi hy31
      obtain rfl := hy32
      exact ⟨H21, h24, (S.drop _ (.cons _ .slnil))⟩
   ·rintro f w ⟨H27, h29, S⟩
    refine WP.s<|WP.g<|WL.m (boo y_28) h29<|WL.a (boo y_28) rfl<|WL.e ?_
    obtain rfl := oi hj8
    obtain rfl := oi h
    refine WP.ret (Out.one rfl S rfl ?_)
    exact rfl
  ·refine WP.condF rfl hc10<|WP.s<|WP.g<|WL.w (R.eql rfl rfl)<|WL.a (boo (r1 == 2)) rfl<|WL.e ?_
   rcases condE hj8 with ⟨hc75, hj8⟩ | ⟨hc75, hj8⟩
   ·refine WP.condT rfl hc75<|WP.s<|WP.g<|WL.m (str p_x1) rfl ?_
    obtain ⟨r76, hr76, hj8⟩ := bindE hj8
    refine W.call S rfl (ref10_Tag_ok S.holds (hG.post S.post) p_x1 hr76) ?_
    rintro v77 w78 H79 hle80 S rfl
    refine WL.a (boo r76) rfl<|WL.e ?_
    obtain rfl := oi hj8
    obtain rfl := oi h
    refine WP.ret (Out.one rfl S rfl ?_)
    exact rfl
   ·refine WP.condF rfl hc75<|WP.s<|WP.s<|WP.g<|WL.w (R.eql rfl rfl)<|WL.a (boo (r1 == 3)) rfl<|WL.e ?_
    obtain ⟨y_83, hj85, hj8⟩ := bindE hj8
    refine WP.cut (fun f w => ∃ (H81 : Hp), f 1 = (str p_x1) ∧ f 61 = (boo y_83) ∧ St w0 H0 w H81 []) ?_ ?_
    ·rcases condE hj85 with ⟨hc87, hj85⟩ | ⟨hc87, hj85⟩
     ·refine WP.condT rfl hc87<|WP.skip ?_
      obtain rfl := oi hj85
      exact ⟨H4, rfl, rfl, S⟩
     ·refine WP.condF rfl hc87<|WP.g<|WL.w (R.eql rfl rfl)<|WL.a (boo (r1 == 4)) rfl<|WL.e ?_
      obtain rfl := oi hj85
      exact ⟨H4, rfl, rfl, S⟩
    ·rintro f w ⟨H81, h82, h84, S⟩
     rcases condE hj8 with ⟨hc88, hj8⟩ | ⟨hc88, hj8⟩
     ·refine WP.condT h84 hc88<|WP.s<|WP.g<|WL.m (str p_x1) h82 ?_
      obtain ⟨r89, hr89, hj8⟩ := bindE hj8
      refine W.call S rfl (ref01_Token_ok S.holds (hG.post S.post) p_x1 hr89) ?_
      rintro v90 w91 H92 hle93 S rfl
      refine WL.m (boo r89) rfl ?_
      refine WL.grp 3 [67, 68] 69 (boo (r89 && (p_x1 != [42]))) ?_ ?_
      ·rcases boolE r89 with hb94 | hb94
       ·refine WL.y rfl rfl hb94<|WL.m (str p_x1) h82<|WL.y rfl rfl hb94<|WL.w (R.neqS (a := p_x1) (b := [42]) rfl rfl)<|WL.w (R.pickT rfl hb94 rfl) ?_
        exact WL.e ⟨(andT hb94), ag, rfl⟩
       ·refine WL.n rfl rfl hb94<|WL.n rfl rfl hb94<|WL.w (R.pickF rfl hb94 rfl) ?_
        exact WL.e ⟨(andF hb94), ag, rfl⟩
      ·intro us
       refine WL.a (boo (r89 && (p_x1 != [42]))) rfl<|WL.e ?_
       obtain rfl := oi hj8
       obtain rfl := oi h
       refine WP.ret (Out.one rfl S rfl ?_)
       exact rfl
     ·refine WP.condF h84 hc88<|WP.skip ?_
      obtain rfl := oi hj8
      exact ⟨H81, h82, S⟩
 ·intro f w hM
  rcases j9 with _ | e
  ·obtain ⟨H6, h7, S⟩ := hM
   refine WP.s<|WP.g<|WL.m (str p_x1) h7<|WL.w (R.lenS (a := p_x1) rfl Tryz.underlying9)<|WL.w (R.geq rfl rfl)<|WL.m (boo (decide (1 ≤ (p_x1.length : Int)))) rfl ?_
   refine WL.grp 4 [74, 75, 76] 77 (boo ((decide (1 ≤ (p_x1.length : Int))) && (decide ((p_x1.length : Int) ≤ 100)))) ?_ ?_
   ·rcases boolE (decide (1 ≤ (p_x1.length : Int))) with hb96 | hb96
    ·refine WL.y rfl rfl hb96<|WL.m (str p_x1) h7<|WL.y rfl rfl hb96<|WL.w (R.lenS (a := p_x1) rfl Tryz.underlying9)<|WL.y rfl rfl hb96<|WL.w (R.leq rfl rfl)<|WL.w (R.pickT rfl hb96 rfl) ?_
     exact WL.e ⟨(andT hb96), ag, rfl⟩
    ·refine WL.n rfl rfl hb96<|WL.n rfl rfl hb96<|WL.n rfl rfl hb96<|WL.w (R.pickF rfl hb96 rfl) ?_
     exact WL.e ⟨(andF hb96), ag, rfl⟩
   ·intro us
    refine WL.m (boo ((decide (1 ≤ (p_x1.length : Int))) && (decide ((p_x1.length : Int) ≤ 100)))) rfl ?_
    obtain ⟨b105, hg99, h⟩ := bindE h
    refine WL.grpw 3 [79, 80] 81 (boo b105) (fun w => ∃ H' : Hp, H6.le H' ∧ St w0 H0 w H' []) ?_ ?_
    ·rcases boolE ((decide (1 ≤ (p_x1.length : Int))) && (decide ((p_x1.length : Int) ≤ 100))) with hb98 | hb98
     ·replace hg99 := condT hg99 hb98
      refine WL.y rfl rfl hb98<|WL.m (str p_x1) h7<|WL.y rfl rfl hb98 ?_
      obtain ⟨r100, hr100, hg99⟩ := bindE hg99
      refine W.call S rfl (ref01_Text_ok S.holds (hG.post S.post) p_x1 hr100) ?_
      rintro v101 w102 H103 hle104 S rfl
      refine WL.w (R.pickT rfl hb98 rfl) ?_
      exact WL.e ⟨(congrArg boo (oi hg99)), ag, ⟨H103, hle104, S⟩⟩
     ·replace hg99 := condF hg99 hb98
      refine WL.n rfl rfl hb98<|WL.n rfl rfl hb98<|WL.w (R.pickF rfl hb98 rfl) ?_
      exact WL.e ⟨(congrArg boo (oi hg99)), ag, ⟨H6, (Hp.le.refl _), S⟩⟩
    ·intro us w107 ⟨H106, hle108, S⟩
     refine WL.m (boo b105) rfl ?_
     obtain ⟨b116, hg110, h⟩ := bindE h
     refine WL.grpw 5 [83, 84, 85, 86] 87 (boo b116) (fun w => ∃ H' : Hp, H106.le H' ∧ St w0 H0 w H' []) ?_ ?_
     ·rcases boolE b105 with hb109 | hb109
      ·replace hg110 := condT hg110 hb109
       refine WL.y rfl rfl hb109<|WL.m (str p_x1) h7<|WL.y rfl rfl hb109 ?_
       obtain ⟨r111, hr111, hg110⟩ := bindE hg110
       refine W.call S rfl (ref01_Trim_ok S.holds (hG.post S.post) p_x1 hr111) ?_
       rintro v112 w113 H114 hle115 S rfl
       refine WL.y rfl rfl hb109<|WL.m (str p_x1) h7<|WL.y rfl rfl hb109<|WL.w (R.eqlS (a := r111) (b := p_x1) rfl rfl)<|WL.w (R.pickT rfl hb109 rfl) ?_
       exact WL.e ⟨(congrArg boo (oi hg110)), ag, ⟨H114, hle115, S⟩⟩
      ·replace hg110 := condF hg110 hb109
       refine WL.n rfl rfl hb109<|WL.n rfl rfl hb109<|WL.n rfl rfl hb109<|WL.n rfl rfl hb109<|WL.w (R.pickF rfl hb109 rfl) ?_
       exact WL.e ⟨(congrArg boo (oi hg110)), ag, ⟨H106, (Hp.le.refl _), S⟩⟩
     ·intro us w118 ⟨H117, hle119, S⟩
      refine WL.a (boo b116) rfl<|WL.e ?_
      obtain rfl := oi h
      refine WP.ret (Out.one rfl S rfl ?_)
      exact rfl
  ·exact hM.elim
theorem ref10_Canonical_ok {w0 : World} {H0 : Hp} (hw : Holds w0 H0) (hG : Tryz.Gl w0) (p_kind : Int) (p_s : Str) {r : Str} (h : ref10_Canonical p_kind p_s = some r) :
  Con Tryz.prog 149 [(int p_kind), (str p_s)] w0 H0 (fun H' v => v = (str r)) := by
 refine Con.mk (N := 20) Tryz.func149 rfl rfl (by kernel_rfl) rfl ?_
 have S := St.start hw
 refine WP.s<|WP.g<|WL.a (str []) rfl<|WL.e<|WP.s<|WP.g<|WL.m (str p_s) rfl ?_
 obtain ⟨r1, hr1, h⟩ := bindE h
 refine W.call S rfl (ref01_Lower_ok S.holds (hG.post S.post) p_s hr1) ?_
 rintro v2 w3 H4 hle5 S rfl
 refine WL.a (str r1) rfl<|WL.e<|WP.s<|WP.s<|WP.g<|WL.m (int p_kind) rfl<|WL.w (R.eql rfl rfl)<|WL.m (boo (p_kind == 4)) rfl ?_
 refine WL.grp 3 [10, 11] 12 (boo ((p_kind == 4) && (r1 == [120, 45, 103, 122, 105, 112]))) ?_ ?_
 ·rcases boolE (p_kind == 4) with hb6 | hb6
  ·refine WL.y rfl rfl hb6<|WL.m (str r1) rfl<|WL.y rfl rfl hb6<|WL.w (R.eqlS (a := r1) (b := [120, 45, 103, 122, 105, 112]) rfl rfl)<|WL.w (R.pickT rfl hb6 rfl) ?_
   exact WL.e ⟨(andT hb6), ag, rfl⟩
  ·refine WL.n rfl rfl hb6<|WL.n rfl rfl hb6<|WL.w (R.pickF rfl hb6 rfl) ?_
   exact WL.e ⟨(andF hb6), ag, rfl⟩
 ·intro us
  refine WL.e ?_
  rcases condE h with ⟨hc8, h⟩ | ⟨hc8, h⟩
  ·refine WP.condT rfl hc8<|WP.s<|WP.g<|WL.a (str [103, 122, 105, 112]) rfl<|WL.e ?_
   obtain rfl := oi h
   refine WP.ret (Out.one rfl S rfl ?_)
   exact rfl
  ·refine WP.condF rfl hc8<|WP.skip<|WP.s<|WP.s<|WP.g<|WL.m (int p_kind) rfl<|WL.w (R.eql rfl rfl)<|WL.m (boo (p_kind == 4)) rfl ?_
   refine WL.grp 3 [16, 17] 18 (boo ((p_kind == 4) && (r1 == [120, 45, 99, 111, 109, 112, 114, 101, 115, 115]))) ?_ ?_
   ·rcases boolE (p_kind == 4) with hb9 | hb9
    ·refine WL.y rfl rfl hb9<|WL.m (str r1) rfl<|WL.y rfl rfl hb9<|WL.w (R.eqlS (a := r1) (b := [120, 45, 99, 111, 109, 112, 114, 101, 115, 115]) rfl rfl)<|WL.w (R.pickT rfl hb9 rfl) ?_
     exact WL.e ⟨(andT hb9), ag, rfl⟩
    ·refine WL.n rfl rfl hb9<|WL.n rfl rfl hb9<|WL.w (R.pickF rfl hb9 rfl) ?_
     exact WL.e ⟨(andF hb9), ag, rfl⟩
   ·intro us
    refine WL.e ?_
    rcases condE h with ⟨hc11, h⟩ | ⟨hc11, h⟩
    ·refine WP.condT rfl hc11<|WP.s<|WP.g<|WL.a (str [99, 111, 109, 112, 114, 101, 115, 115]) rfl<|WL.e ?_
     obtain rfl := oi h
     refine WP.ret (Out.one rfl S rfl ?_)
     exact rfl
    ·refine WP.condF rfl hc11<|WP.skip<|WP.s<|WP.g<|WL.m (str r1) rfl<|WL.a (str r1) rfl<|WL.e ?_
     obtain rfl := oi h
     refine WP.ret (Out.one rfl S rfl ?_)
     exact rfl
theorem ref10_Same_ok {w0 : World} {H0 : Hp} (hw : Holds w0 H0) (hG : Tryz.Gl w0) (p_axis : Str) (p_a : Str) (p_b : Str) {r : Bool} (h : ref10_Same p_axis p_a p_b = some r) :
  Con Tryz.prog 102 [(str p_axis), (str p_a), (str p_b)] w0 H0 (fun H' v => v = (boo r)) := by
 refine Con.mk (N := 30) Tryz.func102 rfl rfl (by kernel_rfl) rfl ?_
 have S := St.start hw
 refine WP.s<|WP.g<|WL.a (boo false) rfl<|WL.e<|WP.s<|WP.s<|WP.g<|WL.m (str p_axis) rfl ?_
 obtain ⟨r1, hr1, h⟩ := bindE h
 refine W.call S rfl (ref10_Kind_ok S.holds (hG.post S.post) p_axis hr1) ?_
 rintro v2 w3 H4 hle5 S rfl
 refine WL.a (int r1) rfl<|WL.e<|WP.s<|WP.g<|WL.m (int r1) rfl<|WL.e ?_
 obtain ⟨j10, hj9, h⟩ := bindE h
 refine WP.cut (fun f w => match j10 with | .inl _ => ∃ (H6 : Hp), f 1 = (str p_a) ∧ f 2 = (str p_b) ∧ St w0 H0 w H6 [] | .inr _ => False) ?_ ?_
 ·refine WP.block<|WP.s<|WP.s<|WP.g<|WL.w (R.eql rfl rfl)<|WL.a (boo (r1 == 1)) rfl<|WL.e ?_
  obtain ⟨y_16, hj18, hj9⟩ := bindE hj9
  refine WP.cut (fun f w => ∃ (H11 : Hp), f 1 = (str p_a) ∧ f 2 = (str p_b) ∧ f 7 = (int r1) ∧ f 10 = (int r1) ∧ f 11 = (boo y_16) ∧ St w0 H0 w H11 []) ?_ ?_
  ·rcases condE hj18 with ⟨hc20, hj18⟩ | ⟨hc20, hj18⟩
   ·refine WP.condT rfl hc20<|WP.skip ?_
    obtain rfl := oi hj18
    exact ⟨H4, rfl, rfl, rfl, rfl, rfl, S⟩
   ·refine WP.condF rfl hc20<|WP.g<|WL.w (R.eql rfl rfl)<|WL.a (boo (r1 == 2)) rfl<|WL.e ?_
    obtain rfl := oi hj18
    exact ⟨H4, rfl, rfl, rfl, rfl, rfl, S⟩
  ·rintro f w ⟨H11, h12, h13, h14, h15, h17, S⟩
   rcases condE hj9 with ⟨hc21, hj9⟩ | ⟨hc21, hj9⟩
   ·refine WP.condT h17 hc21<|WP.s<|WP.g<|WL.m (str p_a) h12<|WL.m (str p_b) h13 ?_
    obtain ⟨r22, hr22, hj9⟩ := bindE hj9
    refine W.call S rfl (ref01_Fold_ok S.holds (hG.post S.post) p_a p_b hr22) ?_
    rintro v23 w24 H25 hle26 S rfl
    refine WL.a (boo r22) rfl<|WL.e ?_
    obtain rfl := oi hj9
    obtain rfl := oi h
    refine WP.ret (Out.one rfl S rfl ?_)
    exact rfl
   ·refine WP.condF h17 hc21<|WP.s<|WP.s<|WP.g<|WL.w (R.eql h15 rfl)<|WL.a (boo (r1 == 3)) rfl<|WL.e ?_
    obtain ⟨y_31, hj33, hj9⟩ := bindE hj9
    refine WP.cut (fun f w => ∃ (H27 : Hp), f 1 = (str p_a) ∧ f 2 = (str p_b) ∧ f 7 = (int r1) ∧ f 17 = (boo y_31) ∧ St w0 H0 w H27 []) ?_ ?_
    ·rcases condE hj33 with ⟨hc35, hj33⟩ | ⟨hc35, hj33⟩
     ·refine WP.condT rfl hc35<|WP.skip ?_
      obtain rfl := oi hj33
      exact ⟨H11, h12, h13, h14, rfl, S⟩
     ·refine WP.condF rfl hc35<|WP.g<|WL.w (R.eql h15 rfl)<|WL.a (boo (r1 == 4)) rfl<|WL.e ?_
      obtain rfl := oi hj33
      exact ⟨H11, h12, h13, h14, rfl, S⟩
    ·rintro f w ⟨H27, h28, h29, h30, h32, S⟩
     rcases condE hj9 with ⟨hc36, hj9⟩ | ⟨hc36, hj9⟩
     ·refine WP.condT h32 hc36<|WP.s<|WP.g<|WL.m (int r1) h30<|WL.m (str p_a) h28 ?_
      obtain ⟨r37, hr37, hj9⟩ := bindE hj9
      refine W.call S rfl (ref10_Canonical_ok S.holds (hG.post S.post) r1 p_a hr37) ?_
      rintro v38 w39 H40 hle41 S rfl
      refine WL.m (int r1) h30<|WL.m (str p_b) h29 ?_
      obtain ⟨r42, hr42, hj9⟩ := bindE hj9
      refine W.call S rfl (ref10_Canonical_ok S.holds (hG.post S.post) r1 p_b hr42) ?_
      rintro v43 w44 H45 hle46 S rfl
      refine WL.w (R.eqlS (a := r37) (b := r42) rfl rfl)<|WL.a (boo (r37 == r42)) rfl<|WL.e ?_
      obtain rfl := oi hj9
      obtain rfl := oi h
      refine WP.ret (Out.one rfl S rfl ?_)
      exact rfl
     ·refine WP.condF h32 hc36<|WP.skip ?_
      obtain rfl := oi hj9
      exact ⟨H27, h28, h29, S⟩
 ·intro f w hM
  rcases j10 with _ | e
  ·obtain ⟨H6, h7, h8, S⟩ := hM
   refine WP.s<|WP.g<|WL.m (str p_a) h7<|WL.m (str p_b) h8<|WL.w (R.eqlS (a := p_a) (b := p_b) rfl rfl)<|WL.a (boo (p_a == p_b)) rfl<|WL.e ?_
   obtain rfl := oi h
   refine WP.ret (Out.one rfl S rfl ?_)
   exact rfl
  ·exact hM.elim
theorem ref10_validAxis_ok {w0 : World} {H0 : Hp} (hw : Holds w0 H0) (hG : Tryz.Gl w0) (p_x : GAxis) {vp_x1 : Value} (Rp_x1 : Sl (α := Str) H0 vp_x1 p_x.fValues) {r : Bool} (h : ref10_validAxis p_x = some r) :
  Con Tryz.prog 59 [(agg [(str p_x.fName), vp_x1])] w0 H0 (fun H' v => v = (boo r)) := by
 refine Con.mk (N := 63) Tryz.func59 rfl rfl (by kernel_rfl) rfl ?_
 have S := St.start hw
 refine WP.s<|WP.g<|W.box [(str p_x.fName), vp_x1] S rfl rfl ?_
 intro b1 w2 S
 refine WL.a (boo false) rfl<|WL.e<|WP.s<|WP.s<|WP.quiet S (by kernel_rfl) (by kernel_rfl)<|WQ.val (fun _ _ => (R.fieldB rfl fld84_0))<|WQ.val (fun w hw => by obtain ⟨_, hq, S⟩ := hw; exact (R.loadB (i := 0) (v := str p_x.fName) S rfl rfl lay9 rfl)) ?_
 obtain ⟨r6, hr6, h⟩ := bindE h
 refine WQ.call (v := boo r6) rfl (fun w H' hq S => ref01_Token_ok S.holds (hG.post S.post) p_x.fName hr6)<|WQ.val (fun _ _ => (R.not rfl))<|WQ.val (fun _ _ => (R.mv (v := boo (!r6)) rfl)) ?_
 obtain ⟨b18, hg12, h⟩ := bindE h
 refine WQ.grp 7 [10, 11, 12, 13, 14, 15] 16 (boo b18) ?_ ?_
 ·rcases boolE (!r6) with hb11 | hb11
  ·replace hg12 := condT hg12 hb11
   refine WQ.gno rfl rfl hb11<|WQ.gno rfl rfl hb11<|WQ.gno rfl rfl hb11<|WQ.gno rfl rfl hb11<|WQ.gno rfl rfl hb11<|WQ.gno rfl rfl hb11<|WQ.val (fun _ _ => (R.pickT rfl hb11 rfl)) ?_
   exact WQ.nil ⟨(congrArg boo (oi hg12)), ag⟩
  ·replace hg12 := condF hg12 hb11
   refine WQ.gyes rfl rfl hb11<|WQ.val (fun _ _ => (R.fieldB rfl fld84_0))<|WQ.gyes rfl rfl hb11<|WQ.val (fun w hw => by obtain ⟨_, hq, S⟩ := hw; exact (R.loadB (i := 0) (v := str p_x.fName) S rfl rfl lay9 rfl))<|WQ.gyes rfl rfl hb11 ?_
   obtain ⟨r13, hr13, hg12⟩ := bindE hg12
   refine WQ.call (v := str r13) rfl (fun w H' hq S => ref01_Lower_ok S.holds (hG.post S.post) p_x.fName hr13)<|WQ.gyes rfl rfl hb11<|WQ.val (fun _ _ => (R.fieldB rfl fld84_0))<|WQ.gyes rfl rfl hb11<|WQ.val (fun w hw => by obtain ⟨_, hq, S⟩ := hw; exact (R.loadB (i := 0) (v := str p_x.fName) S rfl rfl lay9 rfl))<|WQ.gyes rfl rfl hb11<|WQ.val (fun _ _ => (R.neqS (a := r13) (b := p_x.fName) rfl rfl))<|WQ.val (fun _ _ => (R.pickF rfl hb11 rfl)) ?_
   exact WQ.nil ⟨(congrArg boo (oi hg12)), ag⟩
 ·intro us
  refine WQ.val (fun _ _ => (R.mv (v := boo b18) rfl)) ?_
  refine WQ.grp 5 [18, 19, 20, 21] 22 (boo (b18 || (decide ((p_x.fValues.length : Int) < 1)))) ?_ ?_
  ·rcases boolE b18 with hb19 | hb19
   ·refine WQ.gno rfl rfl hb19<|WQ.gno rfl rfl hb19<|WQ.gno rfl rfl hb19<|WQ.gno rfl rfl hb19<|WQ.val (fun _ _ => (R.pickT rfl hb19 rfl)) ?_
    exact WQ.nil ⟨(orT hb19), ag⟩
   ·refine WQ.gyes rfl rfl hb19<|WQ.val (fun _ _ => (R.fieldB rfl fld84_1))<|WQ.gyes rfl rfl hb19<|WQ.val (fun w hw => by obtain ⟨_, hq, S⟩ := hw; exact (R.loadB (i := 0) (v := vp_x1) S rfl rfl lay23 rfl))<|WQ.gyes rfl rfl hb19<|WQ.val (fun _ _ => (R.lenL (α := Str) (xs := p_x.fValues) (H := H0) Rp_x1 rfl Tryz.underlying23))<|WQ.gyes rfl rfl hb19<|WQ.val (fun _ _ => (R.lss rfl rfl))<|WQ.val (fun _ _ => (R.pickF rfl hb19 rfl)) ?_
    exact WQ.nil ⟨(orF hb19), ag⟩
  ·intro us
   refine WQ.val (fun _ _ => (R.mv (v := boo (b18 || (decide ((p_x.fValues.length : Int) < 1)))) rfl)) ?_
   refine WQ.grp 5 [24, 25, 26, 27] 28 (boo ((b18 || (decide ((p_x.fValues.length : Int) < 1))) || (decide (16 < (p_x.fValues.length : Int))))) ?_ ?_
   ·rcases boolE (b18 || (decide ((p_x.fValues.length : Int) < 1))) with hb21 | hb21
    ·refine WQ.gno rfl rfl hb21<|WQ.gno rfl rfl hb21<|WQ.gno rfl rfl hb21<|WQ.gno rfl rfl hb21<|WQ.val (fun _ _ => (R.pickT rfl hb21 rfl)) ?_
     exact WQ.nil ⟨(orT hb21), ag⟩
    ·refine WQ.gyes rfl rfl hb21<|WQ.val (fun _ _ => (R.fieldB rfl fld84_1))<|WQ.gyes rfl rfl hb21<|WQ.val (fun w hw => by obtain ⟨_, hq, S⟩ := hw; exact (R.loadB (i := 0) (v := vp_x1) S rfl rfl lay23 rfl))<|WQ.gyes rfl rfl hb21<|WQ.val (fun _ _ => (R.lenL (α := Str) (xs := p_x.fValues) (H := H0) Rp_x1 rfl Tryz.underlying23))<|WQ.gyes rfl rfl hb21<|WQ.val (fun _ _ => (R.gtr rfl rfl))<|WQ.val (fun _ _ => (R.pickF rfl hb21 rfl)) ?_
     exact WQ.nil ⟨(orF hb21), ag⟩
   ·intro us
    refine WQ.nil ?_
    intro w3 H4 hle5 S
    have Rp_x1 := Sl.mono Rp_x1 hle5
    rcases condE h with ⟨hc23, h⟩ | ⟨hc23, h⟩
    ·refine WP.condT rfl hc23<|WP.s<|WP.g<|WL.a (boo false) rfl<|WL.e ?_
     obtain rfl := oi h
     refine WP.ret (Out.one rfl S rfl ?_)
     exact rfl
    ·refine WP.condF rfl hc23<|WP.skip<|WP.s<|WP.s<|WP.g<|WL.a (int 0) rfl<|WL.e ?_
     obtain ⟨r32, hr33, h⟩ := bindE h
     refine WP.cut (fun f w => match r32 with | .inl _ => ∃ (H28 : Hp), St w0 H0 w H28 [] | .inr _ => False) ?_ ?_
     ·refine WP.block ?_
      refine WP.loopM (ref10_validAxis_L1 p_x) (fun s f w => match s with | i_26 => ∃ (H24 : Hp), f 1 = (ptr b1 0) ∧ f 3 = (int i_26) ∧ Sl (α := Str) H24 vp_x1 p_x.fValues ∧ St w0 H0 w H24 [.box b1 84 [(str p_x.fName), vp_x1]]) 0 r32 hr33 ?_ ?_
      ·exact ⟨H4, rfl, rfl, Rp_x1, S⟩
      ·intro i_26 f w hI y29 hy30 hy31
       obtain ⟨H24, h25, h27, Rp_x1, S⟩ := hI
       refine WP.s<|WP.s<|WP.g<|WL.m (int i_26) h27<|WL.w (R.fieldB h25 fld84_1)<|WL.w (R.loadB (i := 0) (v := vp_x1) S rfl rfl lay23 rfl)<|WL.w (R.lenL (α := Str) (xs := p_x.fValues) (H := H24) Rp_x1 rfl Tryz.underlying23)<|WL.w (R.lss rfl rfl)<|WL.e ?_
       rcases condE hy30 with ⟨hc34, hy30⟩ | ⟨hc34, hy30⟩
       ·refine WP.condT rfl hc34<|WP.skip<|WP.s<|WP.block<|WP.s<|WP.s<|WP.quiet S (by kernel_rfl) (by kernel_rfl)<|WQ.val (fun _ _ => (R.fieldB h25 fld84_0))<|WQ.val (fun w hw => by obtain ⟨_, hq, S⟩ := hw; exact (R.loadB (i := 0) (v := str p_x.fName) S rfl rfl lay9 rfl))<|WQ.val (fun _ _ => (R.fieldB h25 fld84_1))<|WQ.val (fun w hw => by obtain ⟨_, hq, S⟩ := hw; exact (R.loadB (i := 0) (v := vp_x1) S rfl rfl lay23 rfl))<|WQ.val (fun _ _ => (R.mv (v := int i_26) h27)) ?_
        obtain ⟨x38, hx38, hy30⟩ := bindE hy30
        refine WQ.idx (α := Str) Rp_x1 rfl rfl el23 hx38 ?_
        rintro a39 _ hA40 rfl
        refine WQ.val (fun w hw => by obtain ⟨_, hq, S⟩ := hw; exact (R.loadH (v := str x38) S rfl (At.mono hA40 hq (by simp)) lay9 rfl)) ?_
        obtain ⟨r41, hr41, hy30⟩ := bindE hy30
        refine WQ.call (v := boo r41) rfl (fun w H' hq S => ref10_Value_ok S.holds (hG.post S.post) p_x.fName x38 hr41)<|WQ.val (fun _ _ => (R.not rfl))<|WQ.nil ?_
        intro w35 H36 hle37 S
        have Rp_x1 := Sl.mono Rp_x1 hle37
        rcases condE hy30 with ⟨hc46, hy30⟩ | ⟨hc46, hy30⟩
        ·refine WP.condT rfl hc46<|WP.s<|WP.g<|WL.a (boo false) rfl<|WL.e ?_
         obtain rfl := oi hy30
         obtain rfl := hy31
         obtain rfl := oi h
         refine WP.ret (Out.one rfl S rfl ?_)
         exact rfl
        ·refine WP.condF rfl hc46<|WP.skip<|WP.s<|WP.g<|WL.a (int 0) rfl<|WL.e ?_
         obtain ⟨r58, hr59, hy30⟩ := bindE hy30
         refine WP.cut (fun f w => match r58 with | .inl _ => ∃ (H52 : Hp), f 1 = (ptr b1 0) ∧ f 3 = (int i_26) ∧ Sl (α := Str) H52 vp_x1 p_x.fValues ∧ St w0 H0 w H52 [.box b1 84 [(str p_x.fName), vp_x1]] | .inr _ => False) ?_ ?_
         ·refine WP.block ?_
          refine WP.loopM (ref10_validAxis_L0 p_x i_26) (fun s f w => match s with | k_50 => ∃ (H47 : Hp), f 1 = (ptr b1 0) ∧ f 3 = (int i_26) ∧ f 4 = (int k_50) ∧ Sl (α := Str) H47 vp_x1 p_x.fValues ∧ St w0 H0 w H47 [.box b1 84 [(str p_x.fName), vp_x1]]) 0 r58 hr59 ?_ ?_
          ·exact ⟨H36, h25, h27, rfl, Rp_x1, S⟩
          ·intro k_50 f w hI y55 hy56 hy57
           obtain ⟨H47, h48, h49, h51, Rp_x1, S⟩ := hI
           refine WP.s<|WP.s<|WP.g<|WL.m (int k_50) h51<|WL.m (int i_26) h49<|WL.w (R.lss rfl rfl)<|WL.e ?_
           rcases condE hy56 with ⟨hc60, hy56⟩ | ⟨hc60, hy56⟩
           ·refine WP.condT rfl hc60<|WP.skip<|WP.s<|WP.block<|WP.s<|WP.quiet S (by kernel_rfl) (by kernel_rfl)<|WQ.val (fun _ _ => (R.fieldB h48 fld84_0))<|WQ.val (fun w hw => by obtain ⟨_, hq, S⟩ := hw; exact (R.loadB (i := 0) (v := str p_x.fName) S rfl rfl lay9 rfl))<|WQ.val (fun _ _ => (R.fieldB h48 fld84_1))<|WQ.val (fun w hw => by obtain ⟨_, hq, S⟩ := hw; exact (R.loadB (i := 0) (v := vp_x1) S rfl rfl lay23 rfl))<|WQ.val (fun _ _ => (R.mv (v := int i_26) h49)) ?_
            obtain ⟨x64, hx64, hy56⟩ := bindE hy56
            refine WQ.idx (α := Str) Rp_x1 rfl rfl el23 hx64 ?_
            rintro a65 _ hA66 rfl
            refine WQ.val (fun w hw => by obtain ⟨_, hq, S⟩ := hw; exact (R.loadH (v := str x64) S rfl (At.mono hA66 hq (by simp)) lay9 rfl))<|WQ.val (fun _ _ => (R.fieldB h48 fld84_1))<|WQ.val (fun w hw => by obtain ⟨_, hq, S⟩ := hw; exact (R.loadB (i := 0) (v := vp_x1) S rfl rfl lay23 rfl))<|WQ.val (fun _ _ => (R.mv (v := int k_50) h51)) ?_
            obtain ⟨x67, hx67, hy56⟩ := bindE hy56
            refine WQ.idx (α := Str) Rp_x1 rfl rfl el23 hx67 ?_
            rintro a68 _ hA69 rfl
            refine WQ.val (fun w hw => by obtain ⟨_, hq, S⟩ := hw; exact (R.loadH (v := str x67) S rfl (At.mono hA69 hq (by simp)) lay9 rfl)) ?_
            obtain ⟨r70, hr70, hy56⟩ := bindE hy56
            refine WQ.call (v := boo r70) rfl (fun w H' hq S => ref10_Same_ok S.holds (hG.post S.post) p_x.fName x64 x67 hr70)<|WQ.nil ?_
            intro w61 H62 hle63 S
            have Rp_x1 := Sl.mono Rp_x1 hle63
            rcases condE hy56 with ⟨hc75, hy56⟩ | ⟨hc75, hy56⟩
            ·refine WP.condT rfl hc75<|WP.s<|WP.g<|WL.a (boo false) rfl<|WL.e ?_
             obtain rfl := oi hy56
             obtain rfl := hy57
             obtain rfl := oi hy30
             obtain rfl := hy31
             obtain rfl := oi h
             refine WP.ret (Out.one rfl S rfl ?_)
             exact rfl
            ·refine WP.condF rfl hc75<|WP.skip<|WP.g<|WL.m (int k_50) h51<|WL.w (R.add rfl rfl)<|WL.a (int (wr (k_50 + 1))) rfl<|WL.e ?_
             obtain rfl := oi hy56
             exact ⟨rfl, ⟨H62, h48, h49, rfl, Rp_x1, S⟩⟩
           ·refine WP.condF rfl hc60<|WP.exit ?_
            obtain rfl := oi hy56
            obtain rfl := hy57
            exact ⟨H47, h48, h49, Rp_x1, S⟩
         ·intro f w hM
          rcases r58 with _ | e
          ·obtain ⟨H52, h53, h54, Rp_x1, S⟩ := hM
           refine WP.g<|WL.m (int i_26) h54<|WL.w (R.add rfl rfl)<|WL.a (int (wr (i_26 + 1))) rfl<|WL.e ?_
           obtain rfl := oi hy30
           exact ⟨rfl, ⟨H52, h53, rfl, Rp_x1, S⟩⟩
          ·exact hM.elim
       ·refine WP.condF rfl hc34<|WP.exit ?_
        obtain rfl := oi hy30
        obtain rfl := hy31
        exact ⟨H24, (S.drop _ (.cons _ .slnil))⟩
     ·intro f w hM
      rcases r32 with _ | e
      ·obtain ⟨H28, S⟩ := hM
       refine WP.s<|WP.g<|WL.a (boo true) rfl<|WL.e ?_
       obtain rfl := oi h
       refine WP.ret (Out.one rfl S rfl ?_)
       exact rfl
      ·exact hM.elim
theorem ref10_Valid_ok {w0 : World} {H0 : Hp} (hw : Holds w0 H0) (hG : Tryz.Gl w0) (p_l : (List GAxis)) {vp_l : Value} (Rp_l : Sl (α := GAxis) H0 vp_l p_l) {r : Bool} (h : ref10_Valid p_l = some r) :
  Con Tryz.prog 26 [vp_l] w0 H0 (fun H' v => v = (boo r)) := by
 refine Con.mk (N := 41) Tryz.func26 rfl rfl (by kernel_rfl) rfl ?_
 have S := St.start hw
 refine WP.s<|WP.g<|WL.a (boo false) rfl<|WL.e<|WP.s<|WP.s<|WP.g<|WL.m (vp_l) rfl<|WL.w (R.lenL (α := GAxis) (xs := p_l) (H := H0) Rp_l rfl Tryz.underlying43)<|WL.w (R.lss rfl rfl)<|WL.m (boo (decide ((p_l.length : Int) < 1))) rfl ?_
 refine WL.grp 4 [9, 10, 11] 12 (boo ((decide ((p_l.length : Int) < 1)) || (decide (4 < (p_l.length : Int))))) ?_ ?_
 ·rcases boolE (decide ((p_l.length : Int) < 1)) with hb1 | hb1
  ·refine WL.n rfl rfl hb1<|WL.n rfl rfl hb1<|WL.n rfl rfl hb1<|WL.w (R.pickT rfl hb1 rfl) ?_
   exact WL.e ⟨(orT hb1), ag, rfl⟩
  ·refine WL.y rfl rfl hb1<|WL.m (vp_l) rfl<|WL.y rfl rfl hb1<|WL.w (R.lenL (α := GAxis) (xs := p_l) (H := H0) Rp_l rfl Tryz.underlying43)<|WL.y rfl rfl hb1<|WL.w (R.gtr rfl rfl)<|WL.w (R.pickF rfl hb1 rfl) ?_
   exact WL.e ⟨(orF hb1), ag, rfl⟩
 ·intro us
  refine WL.e ?_
  rcases condE h with ⟨hc3, h⟩ | ⟨hc3, h⟩
  ·refine WP.condT rfl hc3<|WP.s<|WP.g<|WL.a (boo false) rfl<|WL.e ?_
   obtain rfl := oi h
   refine WP.ret (Out.one rfl S rfl ?_)
   exact rfl
  ·refine WP.condF rfl hc3<|WP.skip<|WP.s<|WP.s<|WP.g<|WL.a (int 0) rfl<|WL.e ?_
   obtain ⟨r12, hr13, h⟩ := bindE h
   refine WP.cut (fun f w => match r12 with | .inl _ => ∃ (H8 : Hp), St w0 H0 w H8 [] | .inr _ => False) ?_ ?_
   ·refine WP.block ?_
    refine WP.loopM (ref10_Valid_L1 p_l) (fun s f w => match s with | i_6 => ∃ (H4 : Hp), f 0 = vp_l ∧ f 3 = (int i_6) ∧ Sl (α := GAxis) H4 vp_l p_l ∧ St w0 H0 w H4 []) 0 r12 hr13 ?_ ?_
    ·exact ⟨H0, rfl, rfl, Rp_l, S⟩
    ·intro i_6 f w hI y9 hy10 hy11
     obtain ⟨H4, h5, h7, Rp_l, S⟩ := hI
     refine WP.s<|WP.s<|WP.g<|WL.m (int i_6) h7<|WL.m (vp_l) h5<|WL.w (R.lenL (α := GAxis) (xs := p_l) (H := H4) Rp_l rfl Tryz.underlying43)<|WL.w (R.lss rfl rfl)<|WL.e ?_
     rcases condE hy10 with ⟨hc14, hy10⟩ | ⟨hc14, hy10⟩
     ·refine WP.condT rfl hc14<|WP.skip<|WP.s<|WP.block<|WP.s<|WP.s<|WP.g<|WL.m (vp_l) h5<|WL.m (int i_6) h7 ?_
      obtain ⟨x15, hx15, hy10⟩ := bindE hy10
      refine W.idx (α := GAxis) Rp_l rfl rfl el43 hx15 ?_
      rintro a16 _ hA17 ⟨v18, rfl, R19⟩
      refine WL.w (R.loadHN (vs := [(str x15.fName), v18]) S rfl hA17 lay84 rfl rfl) ?_
      obtain ⟨r20, hr20, hy10⟩ := bindE hy10
      refine W.call S rfl (ref10_validAxis_ok S.holds (hG.post S.post) x15 R19 hr20) ?_
      rintro v21 w22 H23 hle24 S rfl
      have Rp_l := Sl.mono Rp_l hle24
      refine WL.w (R.not rfl)<|WL.e ?_
      rcases condE hy10 with ⟨hc25, hy10⟩ | ⟨hc25, hy10⟩
      ·refine WP.condT rfl hc25<|WP.s<|WP.g<|WL.a (boo false) rfl<|WL.e ?_
       obtain rfl := oi hy10
       obtain rfl := hy11
       obtain rfl := oi h
       refine WP.ret (Out.one rfl S rfl ?_)
       exact rfl
      ·refine WP.condF rfl hc25<|WP.skip<|WP.s<|WP.g<|WL.a (int 0) rfl<|WL.e ?_
       obtain ⟨r37, hr38, hy10⟩ := bindE hy10
       refine WP.cut (fun f w => match r37 with | .inl _ => ∃ (H31 : Hp), f 0 = vp_l ∧ f 3 = (int i_6) ∧ Sl (α := GAxis) H31 vp_l p_l ∧ St w0 H0 w H31 [] | .inr _ => False) ?_ ?_
       ·refine WP.block ?_
        refine WP.loopM (ref10_Valid_L0 p_l i_6) (fun s f w => match s with | k_29 => ∃ (H26 : Hp), f 0 = vp_l ∧ f 3 = (int i_6) ∧ f 4 = (int k_29) ∧ Sl (α := GAxis) H26 vp_l p_l ∧ St w0 H0 w H26 []) 0 r37 hr38 ?_ ?_
        ·exact ⟨H23, h5, h7, rfl, Rp_l, S⟩
        ·intro k_29 f w hI y34 hy35 hy36
         obtain ⟨H26, h27, h28, h30, Rp_l, S⟩ := hI
         refine WP.s<|WP.s<|WP.g<|WL.m (int k_29) h30<|WL.m (int i_6) h28<|WL.w (R.lss rfl rfl)<|WL.e ?_
         rcases condE hy35 with ⟨hc39, hy35⟩ | ⟨hc39, hy35⟩
         ·refine WP.condT rfl hc39<|WP.skip<|WP.s<|WP.block<|WP.s<|WP.quiet S (by kernel_rfl) (by kernel_rfl)<|WQ.val (fun _ _ => (R.mv (v := vp_l) h27))<|WQ.val (fun _ _ => (R.mv (v := int i_6) h28)) ?_
          obtain ⟨x43, hx43, hy35⟩ := bindE hy35
          refine WQ.idx (α := GAxis) Rp_l rfl rfl el43 hx43 ?_
          rintro a44 _ hA45 ⟨v46, rfl, R47⟩
          refine WQ.val (fun _ _ => (R.field rfl fld84_0)) ?_
          have hA48 := At.add hA45 0 (by simp)
          refine WQ.val (fun w hw => by obtain ⟨_, hq, S⟩ := hw; exact (R.loadH (v := str x43.fName) S rfl (At.mono hA48 hq (by simp)) lay9 rfl))<|WQ.val (fun _ _ => (R.mv (v := vp_l) h27))<|WQ.val (fun _ _ => (R.mv (v := int k_29) h30)) ?_
          obtain ⟨x49, hx49, hy35⟩ := bindE hy35
          refine WQ.idx (α := GAxis) Rp_l rfl rfl el43 hx49 ?_
          rintro a50 _ hA51 ⟨v52, rfl, R53⟩
          refine WQ.val (fun _ _ => (R.field rfl fld84_0)) ?_
          have hA54 := At.add hA51 0 (by simp)
          refine WQ.val (fun w hw => by obtain ⟨_, hq, S⟩ := hw; exact (R.loadH (v := str x49.fName) S rfl (At.mono hA54 hq (by simp)) lay9 rfl))<|WQ.val (fun _ _ => (R.eqlS (a := x43.fName) (b := x49.fName) rfl rfl))<|WQ.nil ?_
          intro w40 H41 hle42 S
          have Rp_l := Sl.mono Rp_l hle42
          rcases condE hy35 with ⟨hc55, hy35⟩ | ⟨hc55, hy35⟩
          ·refine WP.condT rfl hc55<|WP.s<|WP.g<|WL.a (boo false) rfl<|WL.e ?_
           obtain rfl := oi hy35
           obtain rfl := hy36
           obtain rfl := oi hy10
           obtain rfl := hy11
           obtain rfl := oi h
           refine WP.ret (Out.one rfl S rfl ?_)
           exact rfl
          ·refine WP.condF rfl hc55<|WP.skip<|WP.g<|WL.m (int k_29) h30<|WL.w (R.add rfl rfl)<|WL.a (int (wr (k_29 + 1))) rfl<|WL.e ?_
           obtain rfl := oi hy35
           exact ⟨rfl, ⟨H41, h27, h28, rfl, Rp_l, S⟩⟩
         ·refine WP.condF rfl hc39<|WP.exit ?_
          obtain rfl := oi hy35
          obtain rfl := hy36
          exact ⟨H26, h27, h28, Rp_l, S⟩
       ·intro f w hM
        rcases r37 with _ | e
        ·obtain ⟨H31, h32, h33, Rp_l, S⟩ := hM
         refine WP.g<|WL.m (int i_6) h33<|WL.w (R.add rfl rfl)<|WL.a (int (wr (i_6 + 1))) rfl<|WL.e ?_
         obtain rfl := oi hy10
         exact ⟨rfl, ⟨H31, h32, rfl, Rp_l, S⟩⟩
        ·exact hM.elim
     ·refine WP.condF rfl hc14<|WP.exit ?_
      obtain rfl := oi hy10
      obtain rfl := hy11
      exact ⟨H4, S⟩
   ·intro f w hM
    rcases r12 with _ | e
    ·obtain ⟨H8, S⟩ := hM
     refine WP.s<|WP.g<|WL.a (boo true) rfl<|WL.e ?_
     obtain rfl := oi h
     refine WP.ret (Out.one rfl S rfl ?_)
     exact rfl
    ·exact hM.elim
end Go.Proofs
