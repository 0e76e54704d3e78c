/- A part of the proof of laws of the seat: written by program over the translation. -/
import Derived.Test.YtogfdiigokidaaaGreatDoorEng31
import Derived.Test.YtogfdiigokidaaaGreatDoorGenJ2
namespace Go.Proofs
set_option maxHeartbeats 4000000
set_option maxRecDepth 10000
open Go.Eng Go.Eng.Pure
set_option linter.unusedVariables false
theorem ascii_part_ok {w0 : World} {H0 : Hp} (hw : Holds w0 H0) (hG : Tryz.Gl w0) (p_c : UInt8) {r : Bool} (h : ascii_part p_c = some r) :
  Con Tryz.prog 134 [(byt p_c)] w0 H0 (fun H' v => v = (boo r)) := by
 refine Con.mk (N := 42) Tryz.func134 rfl rfl (by kernel_rfl) rfl ?_
 have S := St.start hw
 refine WP.s<|WP.g<|WL.a (boo false) rfl<|WL.e<|WP.s<|WP.s<|WP.g<|WL.m (byt p_c) rfl<|WL.e ?_
 obtain ⟨j4, hj3, h⟩ := bindE h
 refine WP.cut (fun f w => match j4 with | .inl _ => ∃ (H1 : Hp), f 0 = (byt p_c) ∧ St w0 H0 w H1 [] | .inr _ => False) ?_ ?_
 ·refine WP.block<|WP.s<|WP.s<|WP.g<|WL.w (R.eql8 (a := p_c) (b := 33) rfl rfl)<|WL.a (boo (p_c == 33)) rfl<|WL.e ?_
  obtain ⟨y_7, hj9, hj3⟩ := bindE hj3
  refine WP.cut (fun f w => ∃ (H5 : Hp), f 0 = (byt p_c) ∧ f 4 = (boo y_7) ∧ St w0 H0 w H5 []) ?_ ?_
  ·rcases condE hj9 with ⟨hc11, hj9⟩ | ⟨hc11, hj9⟩
   ·refine WP.condT rfl hc11<|WP.skip ?_
    obtain rfl := oi hj9
    exact ⟨H0, rfl, rfl, S⟩
   ·refine WP.condF rfl hc11<|WP.s<|WP.g<|WL.w (R.eql8 (a := p_c) (b := 35) rfl rfl)<|WL.a (boo (p_c == 35)) rfl<|WL.e ?_
    rcases condE hj9 with ⟨hc12, hj9⟩ | ⟨hc12, hj9⟩
    ·refine WP.condT rfl hc12<|WP.skip ?_
     obtain rfl := oi hj9
     exact ⟨H0, rfl, rfl, S⟩
    ·refine WP.condF rfl hc12<|WP.s<|WP.g<|WL.w (R.eql8 (a := p_c) (b := 36) rfl rfl)<|WL.a (boo (p_c == 36)) rfl<|WL.e ?_
     rcases condE hj9 with ⟨hc13, hj9⟩ | ⟨hc13, hj9⟩
     ·refine WP.condT rfl hc13<|WP.skip ?_
      obtain rfl := oi hj9
      exact ⟨H0, rfl, rfl, S⟩
     ·refine WP.condF rfl hc13<|WP.s<|WP.g<|WL.w (R.eql8 (a := p_c) (b := 37) rfl rfl)<|WL.a (boo (p_c == 37)) rfl<|WL.e ?_
      rcases condE hj9 with ⟨hc14, hj9⟩ | ⟨hc14, hj9⟩
      ·refine WP.condT rfl hc14<|WP.skip ?_
       obtain rfl := oi hj9
       exact ⟨H0, rfl, rfl, S⟩
      ·refine WP.condF rfl hc14<|WP.s<|WP.g<|WL.w (R.eql8 (a := p_c) (b := 38) rfl rfl)<|WL.a (boo (p_c == 38)) rfl<|WL.e ?_
       rcases condE hj9 with ⟨hc15, hj9⟩ | ⟨hc15, hj9⟩
       ·refine WP.condT rfl hc15<|WP.skip ?_
        obtain rfl := oi hj9
        exact ⟨H0, rfl, rfl, S⟩
       ·refine WP.condF rfl hc15<|WP.s<|WP.g<|WL.w (R.eql8 (a := p_c) (b := 39) rfl rfl)<|WL.a (boo (p_c == 39)) rfl<|WL.e ?_
        rcases condE hj9 with ⟨hc16, hj9⟩ | ⟨hc16, hj9⟩
        ·refine WP.condT rfl hc16<|WP.skip ?_
         obtain rfl := oi hj9
         exact ⟨H0, rfl, rfl, S⟩
        ·refine WP.condF rfl hc16<|WP.s<|WP.g<|WL.w (R.eql8 (a := p_c) (b := 42) rfl rfl)<|WL.a (boo (p_c == 42)) rfl<|WL.e ?_
         rcases condE hj9 with ⟨hc17, hj9⟩ | ⟨hc17, hj9⟩
         ·refine WP.condT rfl hc17<|WP.skip ?_
          obtain rfl := oi hj9
          exact ⟨H0, rfl, rfl, S⟩
         ·refine WP.condF rfl hc17<|WP.s<|WP.g<|WL.w (R.eql8 (a := p_c) (b := 43) rfl rfl)<|WL.a (boo (p_c == 43)) rfl<|WL.e ?_
          rcases condE hj9 with ⟨hc18, hj9⟩ | ⟨hc18, hj9⟩
          ·refine WP.condT rfl hc18<|WP.skip ?_
           obtain rfl := oi hj9
           exact ⟨H0, rfl, rfl, S⟩
          ·refine WP.condF rfl hc18<|WP.s<|WP.g<|WL.w (R.eql8 (a := p_c) (b := 45) rfl rfl)<|WL.a (boo (p_c == 45)) rfl<|WL.e ?_
           rcases condE hj9 with ⟨hc19, hj9⟩ | ⟨hc19, hj9⟩
           ·refine WP.condT rfl hc19<|WP.skip ?_
            obtain rfl := oi hj9
            exact ⟨H0, rfl, rfl, S⟩
           ·refine WP.condF rfl hc19<|WP.s<|WP.g<|WL.w (R.eql8 (a := p_c) (b := 46) rfl rfl)<|WL.a (boo (p_c == 46)) rfl<|WL.e ?_
            rcases condE hj9 with ⟨hc20, hj9⟩ | ⟨hc20, hj9⟩
            ·refine WP.condT rfl hc20<|WP.skip ?_
             obtain rfl := oi hj9
             exact ⟨H0, rfl, rfl, S⟩
            ·refine WP.condF rfl hc20<|WP.s<|WP.g<|WL.w (R.eql8 (a := p_c) (b := 94) rfl rfl)<|WL.a (boo (p_c == 94)) rfl<|WL.e ?_
             rcases condE hj9 with ⟨hc21, hj9⟩ | ⟨hc21, hj9⟩
             ·refine WP.condT rfl hc21<|WP.skip ?_
              obtain rfl := oi hj9
              exact ⟨H0, rfl, rfl, S⟩
             ·refine WP.condF rfl hc21<|WP.s<|WP.g<|WL.w (R.eql8 (a := p_c) (b := 95) rfl rfl)<|WL.a (boo (p_c == 95)) rfl<|WL.e ?_
              rcases condE hj9 with ⟨hc22, hj9⟩ | ⟨hc22, hj9⟩
              ·refine WP.condT rfl hc22<|WP.skip ?_
               obtain rfl := oi hj9
               exact ⟨H0, rfl, rfl, S⟩
              ·refine WP.condF rfl hc22<|WP.s<|WP.g<|WL.w (R.eql8 (a := p_c) (b := 96) rfl rfl)<|WL.a (boo (p_c == 96)) rfl<|WL.e ?_
               rcases condE hj9 with ⟨hc23, hj9⟩ | ⟨hc23, hj9⟩
               ·refine WP.condT rfl hc23<|WP.skip ?_
                obtain rfl := oi hj9
                exact ⟨H0, rfl, rfl, S⟩
               ·refine WP.condF rfl hc23<|WP.s<|WP.g<|WL.w (R.eql8 (a := p_c) (b := 124) rfl rfl)<|WL.a (boo (p_c == 124)) rfl<|WL.e ?_
                rcases condE hj9 with ⟨hc24, hj9⟩ | ⟨hc24, hj9⟩
                ·refine WP.condT rfl hc24<|WP.skip ?_
                 obtain rfl := oi hj9
                 exact ⟨H0, rfl, rfl, S⟩
                ·refine WP.condF rfl hc24<|WP.g<|WL.w (R.eql8 (a := p_c) (b := 126) rfl rfl)<|WL.a (boo (p_c == 126)) rfl<|WL.e ?_
                 obtain rfl := oi hj9
                 exact ⟨H0, rfl, rfl, S⟩
  ·rintro f w ⟨H5, h6, h8, S⟩
   rcases condE hj3 with ⟨hc25, hj3⟩ | ⟨hc25, hj3⟩
   ·refine WP.condT h8 hc25<|WP.s<|WP.g<|WL.a (boo true) rfl<|WL.e ?_
    obtain rfl := oi hj3
    obtain rfl := oi h
    refine WP.ret (Out.one rfl S rfl ?_)
    exact rfl
   ·refine WP.condF h8 hc25<|WP.skip ?_
    obtain rfl := oi hj3
    exact ⟨H5, h6, S⟩
 ·intro f w hM
  rcases j4 with _ | e
  ·obtain ⟨H1, h2, S⟩ := hM
   refine WP.s<|WP.g<|WL.m (byt p_c) h2<|WL.w (R.geq8 (a := p_c) (b := 48) rfl rfl)<|WL.m (boo (decide (48 ≤ p_c))) rfl ?_
   refine WL.grp 3 [23, 24] 25 (boo ((decide (48 ≤ p_c)) && (decide (p_c ≤ 57)))) ?_ ?_
   ·rcases boolE (decide (48 ≤ p_c)) with hb26 | hb26
    ·refine WL.y rfl rfl hb26<|WL.m (byt p_c) h2<|WL.y rfl rfl hb26<|WL.w (R.leq8 (a := p_c) (b := 57) rfl rfl)<|WL.w (R.pickT rfl hb26 rfl) ?_
     exact WL.e ⟨(andT hb26), ag, rfl⟩
    ·refine WL.n rfl rfl hb26<|WL.n rfl rfl hb26<|WL.w (R.pickF rfl hb26 rfl) ?_
     exact WL.e ⟨(andF hb26), ag, rfl⟩
   ·intro us
    refine WL.m (boo ((decide (48 ≤ p_c)) && (decide (p_c ≤ 57)))) rfl ?_
    refine WL.grp 7 [27, 28, 29, 30, 31, 32] 33 (boo (((decide (48 ≤ p_c)) && (decide (p_c ≤ 57))) || ((decide (65 ≤ p_c)) && (decide (p_c ≤ 90))))) ?_ ?_
    ·rcases boolE ((decide (48 ≤ p_c)) && (decide (p_c ≤ 57))) with hb28 | hb28
     ·refine WL.n rfl rfl hb28<|WL.n rfl rfl hb28<|WL.n rfl rfl hb28<|WL.gund rfl rfl<|WL.gund rfl rfl<|WL.n rfl rfl hb28<|WL.w (R.pickT rfl hb28 rfl) ?_
      exact WL.e ⟨(orT hb28), ag, rfl⟩
     ·refine WL.y rfl rfl hb28<|WL.m (byt p_c) h2<|WL.y rfl rfl hb28<|WL.w (R.geq8 (a := p_c) (b := 65) rfl rfl)<|WL.y rfl rfl hb28<|WL.m (boo (decide (65 ≤ p_c))) rfl ?_
      refine WL.grp 3 [30, 31] 32 (boo ((decide (65 ≤ p_c)) && (decide (p_c ≤ 90)))) ?_ ?_
      ·rcases boolE (decide (65 ≤ p_c)) with hb30 | hb30
       ·refine WL.y rfl rfl hb30<|WL.m (byt p_c) h2<|WL.y rfl rfl hb30<|WL.w (R.leq8 (a := p_c) (b := 90) rfl rfl)<|WL.y rfl rfl hb28<|WL.w (R.pickT rfl hb30 rfl) ?_
        exact WL.e ⟨(andT hb30), ag, rfl⟩
       ·refine WL.n rfl rfl hb30<|WL.n rfl rfl hb30<|WL.y rfl rfl hb28<|WL.w (R.pickF rfl hb30 rfl) ?_
        exact WL.e ⟨(andF hb30), ag, rfl⟩
      ·intro us
       refine WL.w (R.pickF rfl hb28 rfl) ?_
       exact WL.e ⟨(orF hb28), ag, rfl⟩
    ·intro us
     refine WL.m (boo (((decide (48 ≤ p_c)) && (decide (p_c ≤ 57))) || ((decide (65 ≤ p_c)) && (decide (p_c ≤ 90))))) rfl ?_
     refine WL.grp 7 [35, 36, 37, 38, 39, 40] 41 (boo ((((decide (48 ≤ p_c)) && (decide (p_c ≤ 57))) || ((decide (65 ≤ p_c)) && (decide (p_c ≤ 90)))) || ((decide (97 ≤ p_c)) && (decide (p_c ≤ 122))))) ?_ ?_
     ·rcases boolE (((decide (48 ≤ p_c)) && (decide (p_c ≤ 57))) || ((decide (65 ≤ p_c)) && (decide (p_c ≤ 90)))) with hb32 | hb32
      ·refine WL.n rfl rfl hb32<|WL.n rfl rfl hb32<|WL.n rfl rfl hb32<|WL.gund rfl rfl<|WL.gund rfl rfl<|WL.n rfl rfl hb32<|WL.w (R.pickT rfl hb32 rfl) ?_
       exact WL.e ⟨(orT hb32), ag, rfl⟩
      ·refine WL.y rfl rfl hb32<|WL.m (byt p_c) h2<|WL.y rfl rfl hb32<|WL.w (R.geq8 (a := p_c) (b := 97) rfl rfl)<|WL.y rfl rfl hb32<|WL.m (boo (decide (97 ≤ p_c))) rfl ?_
       refine WL.grp 3 [38, 39] 40 (boo ((decide (97 ≤ p_c)) && (decide (p_c ≤ 122)))) ?_ ?_
       ·rcases boolE (decide (97 ≤ p_c)) with hb34 | hb34
        ·refine WL.y rfl rfl hb34<|WL.m (byt p_c) h2<|WL.y rfl rfl hb34<|WL.w (R.leq8 (a := p_c) (b := 122) rfl rfl)<|WL.y rfl rfl hb32<|WL.w (R.pickT rfl hb34 rfl) ?_
         exact WL.e ⟨(andT hb34), ag, rfl⟩
        ·refine WL.n rfl rfl hb34<|WL.n rfl rfl hb34<|WL.y rfl rfl hb32<|WL.w (R.pickF rfl hb34 rfl) ?_
         exact WL.e ⟨(andF hb34), ag, rfl⟩
       ·intro us
        refine WL.w (R.pickF rfl hb32 rfl) ?_
        exact WL.e ⟨(orF hb32), ag, rfl⟩
     ·intro us
      refine WL.a (boo ((((decide (48 ≤ p_c)) && (decide (p_c ≤ 57))) || ((decide (65 ≤ p_c)) && (decide (p_c ≤ 90)))) || ((decide (97 ≤ p_c)) && (decide (p_c ≤ 122))))) rfl<|WL.e ?_
      obtain rfl := oi h
      refine WP.ret (Out.one rfl S rfl ?_)
      exact rfl
  ·exact hM.elim
theorem ascii_Token_ok {w0 : World} {H0 : Hp} (hw : Holds w0 H0) (hG : Tryz.Gl w0) (p_s : Str) {r : Bool} (h : ascii_Token p_s = some r) :
  Con Tryz.prog 88 [(str p_s)] w0 H0 (fun H' v => v = (boo r)) := by
 refine Con.mk (N := 17) Tryz.func88 rfl rfl (by kernel_rfl) rfl ?_
 have S := St.start hw
 refine WP.s<|WP.g<|WL.a (boo false) rfl<|WL.e<|WP.s<|WP.s<|WP.g<|WL.m (str p_s) rfl<|WL.w (R.lenS (a := p_s) rfl Tryz.underlying9)<|WL.m (int 0) rfl<|WL.e ?_
 obtain ⟨r11, hr12, h⟩ := bindE h
 refine WP.cut (fun f w => match r11 with | .inl _ => ∃ (H6 : Hp), f 0 = (str p_s) ∧ St w0 H0 w H6 [] | .inr _ => False) ?_ ?_
 ·refine WP.block ?_
  refine WP.loopM (ascii_Token_L0 p_s) (fun s f w => match s with | y_4 => ∃ (H1 : Hp), f 0 = (str p_s) ∧ f 5 = (int (p_s.length : Int)) ∧ f 6 = (int y_4) ∧ St w0 H0 w H1 []) 0 r11 hr12 ?_ ?_
  ·exact ⟨H0, rfl, rfl, rfl, S⟩
  ·intro y_4 f w hI y8 hy9 hy10
   obtain ⟨H1, h2, h3, h5, S⟩ := hI
   refine WP.s<|WP.g<|WL.w (R.lss h5 h3)<|WL.e<|WP.s ?_
   rcases condE hy9 with ⟨hc13, hy9⟩ | ⟨hc13, hy9⟩
   ·refine WP.condT rfl hc13<|WP.skip<|WP.s<|WP.block<|WP.s<|WP.g<|WL.m (int y_4) h5<|WL.a (int y_4) rfl<|WL.e<|WP.s<|WP.g<|WL.m (str p_s) h2 ?_
    refine WL.m (int y_4) rfl ?_
    obtain ⟨c14, hc14, hy9⟩ := bindE hy9
    refine WL.w (R.idxS rfl rfl Tryz.underlying9 hc14) ?_
    obtain ⟨r15, hr15, hy9⟩ := bindE hy9
    refine W.call S rfl (ascii_part_ok S.holds (hG.post S.post) c14 hr15) ?_
    rintro v16 w17 H18 hle19 S rfl
    refine WL.w (R.not rfl)<|WL.e ?_
    rcases condE hy9 with ⟨hc20, hy9⟩ | ⟨hc20, hy9⟩
    ·refine WP.condT rfl hc20<|WP.s<|WP.g<|WL.a (boo false) rfl<|WL.e ?_
     obtain rfl := oi hy9
     obtain rfl := hy10
     obtain rfl := oi h
     refine WP.ret (Out.one rfl S rfl ?_)
     exact rfl
    ·refine WP.condF rfl hc20<|WP.skip<|WP.g<|WL.w (R.add h5 rfl)<|WL.m (int (wr (y_4 + 1))) rfl<|WL.e ?_
     obtain rfl := oi hy9
     exact ⟨rfl, ⟨H18, h2, h3, rfl, S⟩⟩
   ·refine WP.condF rfl hc13<|WP.exit ?_
    obtain rfl := oi hy9
    obtain rfl := hy10
    exact ⟨H1, h2, S⟩
 ·intro f w hM
  rcases r11 with _ | e
  ·obtain ⟨H6, h7, S⟩ := hM
   refine WP.s<|WP.g<|WL.m (str p_s) h7<|WL.w (R.neqS (a := p_s) (b := []) rfl rfl)<|WL.a (boo (p_s != [])) rfl<|WL.e ?_
   obtain rfl := oi h
   refine WP.ret (Out.one rfl S rfl ?_)
   exact rfl
  ·exact hM.elim
theorem accept_Name_ok {w0 : World} {H0 : Hp} (hw : Holds w0 H0) (hG : Tryz.Gl w0) (p_kind : Int) {r : Str} (h : accept_Name p_kind = some r) :
  Con Tryz.prog 190 [(int p_kind)] w0 H0 (fun H' v => v = (str r)) := by
 refine Con.mk (N := 12) Tryz.func190 rfl rfl (by kernel_rfl) rfl ?_
 have S := St.start hw
 refine WP.s<|WP.g<|WL.a (str []) rfl<|WL.e<|WP.s<|WP.s<|WP.g<|WL.m (int p_kind) rfl<|WL.e<|WP.block<|WP.s<|WP.g ?_
 refine WL.w (R.eql rfl rfl)<|WL.a (boo (p_kind == 1)) rfl<|WL.e ?_
 rcases condE h with ⟨hc1, h⟩ | ⟨hc1, h⟩
 ·refine WP.condT rfl hc1<|WP.s<|WP.g<|WL.a (str [65, 99, 99, 101, 112, 116]) rfl<|WL.e ?_
  obtain rfl := oi h
  refine WP.ret (Out.one rfl S rfl ?_)
  exact rfl
 ·refine WP.condF rfl hc1<|WP.s<|WP.g<|WL.w (R.eql rfl rfl)<|WL.a (boo (p_kind == 2)) rfl<|WL.e ?_
  rcases condE h with ⟨hc2, h⟩ | ⟨hc2, h⟩
  ·refine WP.condT rfl hc2<|WP.s<|WP.g<|WL.a (str [65, 99, 99, 101, 112, 116, 45, 76, 97, 110, 103, 117, 97, 103, 101]) rfl<|WL.e ?_
   obtain rfl := oi h
   refine WP.ret (Out.one rfl S rfl ?_)
   exact rfl
  ·refine WP.condF rfl hc2<|WP.s<|WP.g<|WL.w (R.eql rfl rfl)<|WL.a (boo (p_kind == 3)) rfl<|WL.e ?_
   rcases condE h with ⟨hc3, h⟩ | ⟨hc3, h⟩
   ·refine WP.condT rfl hc3<|WP.s<|WP.g<|WL.a (str [65, 99, 99, 101, 112, 116, 45, 67, 104, 97, 114, 115, 101, 116]) rfl<|WL.e ?_
    obtain rfl := oi h
    refine WP.ret (Out.one rfl S rfl ?_)
    exact rfl
   ·refine WP.condF rfl hc3<|WP.s<|WP.g<|WL.w (R.eql rfl rfl)<|WL.a (boo (p_kind == 4)) rfl<|WL.e ?_
    rcases condE h with ⟨hc4, h⟩ | ⟨hc4, h⟩
    ·refine WP.condT rfl hc4<|WP.s<|WP.g<|WL.a (str [65, 99, 99, 101, 112, 116, 45, 69, 110, 99, 111, 100, 105, 110, 103]) rfl<|WL.e ?_
     obtain rfl := oi h
     refine WP.ret (Out.one rfl S rfl ?_)
     exact rfl
    ·refine WP.condF rfl hc4<|WP.skip<|WP.s<|WP.g<|WL.a (str []) rfl<|WL.e ?_
     obtain rfl := oi h
     refine WP.ret (Out.one rfl S rfl ?_)
     exact rfl
theorem ascii_Fold_ok {w0 : World} {H0 : Hp} (hw : Holds w0 H0) (hG : Tryz.Gl w0) (p_a : Str) (p_b : Str) {r : Bool} (h : ascii_Fold p_a p_b = some r) :
  Con Tryz.prog 118 [(str p_a), (str p_b)] w0 H0 (fun H' v => v = (boo r)) := by
 refine Con.mk (N := 17) Tryz.func118 rfl rfl (by kernel_rfl) rfl ?_
 have S := St.start hw
 refine WP.s<|WP.g<|WL.a (boo false) rfl<|WL.e<|WP.s<|WP.g<|WL.m (str p_a) rfl<|WL.w (R.lenS (a := p_a) rfl Tryz.underlying9)<|WL.m (str p_b) rfl<|WL.w (R.lenS (a := p_b) rfl Tryz.underlying9)<|WL.w (R.eql rfl rfl)<|WL.m (boo ((p_a.length : Int) == (p_b.length : Int))) rfl ?_
 obtain ⟨b13, hg2, h⟩ := bindE h
 refine WL.grpw 6 [11, 12, 13, 14, 15] 16 (boo b13) (fun w => ∃ H' : Hp, H0.le H' ∧ St w0 H0 w H' []) ?_ ?_
 ·rcases boolE ((p_a.length : Int) == (p_b.length : Int)) with hb1 | hb1
  ·replace hg2 := condT hg2 hb1
   refine WL.y rfl rfl hb1<|WL.m (str p_a) rfl<|WL.y rfl rfl hb1 ?_
   obtain ⟨r3, hr3, hg2⟩ := bindE hg2
   refine W.call S rfl (ascii_Lower_ok S.holds (hG.post S.post) p_a hr3) ?_
   rintro v4 w5 H6 hle7 S rfl
   refine WL.y rfl rfl hb1<|WL.m (str p_b) rfl<|WL.y rfl rfl hb1 ?_
   obtain ⟨r8, hr8, hg2⟩ := bindE hg2
   refine W.call S rfl (ascii_Lower_ok S.holds (hG.post S.post) p_b hr8) ?_
   rintro v9 w10 H11 hle12 S rfl
   refine WL.y rfl rfl hb1<|WL.w (R.eqlS (a := r3) (b := r8) rfl rfl)<|WL.w (R.pickT rfl hb1 rfl) ?_
   exact WL.e ⟨(congrArg boo (oi hg2)), ag, ⟨H11, (hle7.trans hle12), S⟩⟩
  ·replace hg2 := condF hg2 hb1
   refine WL.n rfl rfl hb1<|WL.n rfl rfl hb1<|WL.n rfl rfl hb1<|WL.n rfl rfl hb1<|WL.n rfl rfl hb1<|WL.w (R.pickF rfl hb1 rfl) ?_
   exact WL.e ⟨(congrArg boo (oi hg2)), ag, ⟨H0, (Hp.le.refl _), S⟩⟩
 ·intro us w15 ⟨H14, hle16, S⟩
  refine WL.a (boo b13) rfl<|WL.e ?_
  obtain rfl := oi h
  refine WP.ret (Out.one rfl S rfl ?_)
  exact rfl
theorem accept_Kind_ok {w0 : World} {H0 : Hp} (hw : Holds w0 H0) (hG : Tryz.Gl w0) (p_name : Str) {r : Int} (h : accept_Kind p_name = some r) :
  Con Tryz.prog 142 [(str p_name)] w0 H0 (fun H' v => v = (int r)) := by
 refine Con.mk (N := 13) Tryz.func142 rfl rfl (by kernel_rfl) rfl ?_
 have S := St.start hw
 refine WP.s<|WP.g<|WL.a (int 0) rfl<|WL.e<|WP.s<|WP.s<|WP.g<|WL.a (int 1) rfl<|WL.e<|WP.block<|WP.loopRd 5<|RD.succ ?_
 refine WP.s<|WP.s<|WP.g<|WL.m (int 1) rfl<|WL.w (v := boo true) (R.ofEq (R.leq rfl rfl) rfl)<|WL.e<|WP.condT (b := true) rfl rfl<|WP.skip<|WP.s<|WP.block<|WP.s<|WP.g ?_
 refine WL.m (str p_name) rfl<|WL.m (int 1) rfl ?_
 obtain ⟨r1, hr1, h⟩ := bindE h
 refine W.call S rfl (accept_Name_ok S.holds (hG.post S.post) 1 hr1) ?_
 rintro v2 w3 H4 hle5 S rfl
 obtain ⟨r6, hr6, h⟩ := bindE h
 refine W.call S rfl (ascii_Fold_ok S.holds (hG.post S.post) p_name r1 hr6) ?_
 rintro v7 w8 H9 hle10 S rfl
 refine WL.e ?_
 rcases condE h with ⟨hc11, h⟩ | ⟨hc11, h⟩
 ·refine WP.condT rfl hc11<|WP.s<|WP.g<|WL.m (int 1) rfl<|WL.a (int 1) rfl<|WL.e ?_
  obtain rfl := oi h
  refine WP.ret (Out.one rfl S rfl ?_)
  exact rfl
 ·refine WP.condF rfl hc11<|WP.skip<|WP.g<|WL.m (int 1) rfl<|WL.w (v := int 2) (R.ofEq (R.add rfl rfl) rfl)<|WL.a (int 2) rfl<|WL.e<|RD.succ<|WP.s<|WP.s<|WP.g<|WL.m (int 2) rfl ?_
  refine WL.w (v := boo true) (R.ofEq (R.leq rfl rfl) rfl)<|WL.e<|WP.condT (b := true) rfl rfl<|WP.skip<|WP.s<|WP.block<|WP.s<|WP.g<|WL.m (str p_name) rfl<|WL.m (int 2) rfl ?_
  obtain ⟨r12, hr12, h⟩ := bindE h
  refine W.call S rfl (accept_Name_ok S.holds (hG.post S.post) 2 hr12) ?_
  rintro v13 w14 H15 hle16 S rfl
  obtain ⟨r17, hr17, h⟩ := bindE h
  refine W.call S rfl (ascii_Fold_ok S.holds (hG.post S.post) p_name r12 hr17) ?_
  rintro v18 w19 H20 hle21 S rfl
  refine WL.e ?_
  rcases condE h with ⟨hc22, h⟩ | ⟨hc22, h⟩
  ·refine WP.condT rfl hc22<|WP.s<|WP.g<|WL.m (int 2) rfl<|WL.a (int 2) rfl<|WL.e ?_
   obtain rfl := oi h
   refine WP.ret (Out.one rfl S rfl ?_)
   exact rfl
  ·refine WP.condF rfl hc22<|WP.skip<|WP.g<|WL.m (int 2) rfl<|WL.w (v := int 3) (R.ofEq (R.add rfl rfl) rfl)<|WL.a (int 3) rfl<|WL.e<|RD.succ<|WP.s<|WP.s<|WP.g<|WL.m (int 3) rfl ?_
   refine WL.w (v := boo true) (R.ofEq (R.leq rfl rfl) rfl)<|WL.e<|WP.condT (b := true) rfl rfl<|WP.skip<|WP.s<|WP.block<|WP.s<|WP.g<|WL.m (str p_name) rfl<|WL.m (int 3) rfl ?_
   obtain ⟨r23, hr23, h⟩ := bindE h
   refine W.call S rfl (accept_Name_ok S.holds (hG.post S.post) 3 hr23) ?_
   rintro v24 w25 H26 hle27 S rfl
   obtain ⟨r28, hr28, h⟩ := bindE h
   refine W.call S rfl (ascii_Fold_ok S.holds (hG.post S.post) p_name r23 hr28) ?_
   rintro v29 w30 H31 hle32 S rfl
   refine WL.e ?_
   rcases condE h with ⟨hc33, h⟩ | ⟨hc33, h⟩
   ·refine WP.condT rfl hc33<|WP.s<|WP.g<|WL.m (int 3) rfl<|WL.a (int 3) rfl<|WL.e ?_
    obtain rfl := oi h
    refine WP.ret (Out.one rfl S rfl ?_)
    exact rfl
   ·refine WP.condF rfl hc33<|WP.skip<|WP.g<|WL.m (int 3) rfl<|WL.w (v := int 4) (R.ofEq (R.add rfl rfl) rfl)<|WL.a (int 4) rfl<|WL.e<|RD.succ<|WP.s<|WP.s<|WP.g<|WL.m (int 4) rfl ?_
    refine WL.w (v := boo true) (R.ofEq (R.leq rfl rfl) rfl)<|WL.e<|WP.condT (b := true) rfl rfl<|WP.skip<|WP.s<|WP.block<|WP.s<|WP.g<|WL.m (str p_name) rfl<|WL.m (int 4) rfl ?_
    obtain ⟨r34, hr34, h⟩ := bindE h
    refine W.call S rfl (accept_Name_ok S.holds (hG.post S.post) 4 hr34) ?_
    rintro v35 w36 H37 hle38 S rfl
    obtain ⟨r39, hr39, h⟩ := bindE h
    refine W.call S rfl (ascii_Fold_ok S.holds (hG.post S.post) p_name r34 hr39) ?_
    rintro v40 w41 H42 hle43 S rfl
    refine WL.e ?_
    rcases condE h with ⟨hc44, h⟩ | ⟨hc44, h⟩
    ·refine WP.condT rfl hc44<|WP.s<|WP.g<|WL.m (int 4) rfl<|WL.a (int 4) rfl<|WL.e ?_
     obtain rfl := oi h
     refine WP.ret (Out.one rfl S rfl ?_)
     exact rfl
    ·refine WP.condF rfl hc44<|WP.skip<|WP.g<|WL.m (int 4) rfl<|WL.w (v := int 5) (R.ofEq (R.add rfl rfl) rfl)<|WL.a (int 5) rfl<|WL.e<|RD.succ<|WP.s<|WP.s<|WP.g<|WL.m (int 5) rfl ?_
     refine WL.w (v := boo false) (R.ofEq (R.leq rfl rfl) rfl)<|WL.e<|WP.condF (b := false) rfl rfl<|WP.exit<|WP.s<|WP.g<|WL.a (int 0) rfl<|WL.e ?_
     obtain rfl := oi h
     refine WP.ret (Out.one rfl S rfl ?_)
     exact rfl
theorem variants_domainOf_ok {w0 : World} {H0 : Hp} (hw : Holds w0 H0) (hG : Tryz.Gl w0) (p_axis : Str) {r : Gvariants_domain} (h : variants_domainOf p_axis = some r) :
  Con Tryz.prog 178 [(str p_axis)] w0 H0 (fun H' v => v = (Tryz.vvariants_domain r)) := by
 refine Con.mk (N := 22) Tryz.func178 rfl rfl (by kernel_rfl) rfl ?_
 have S := St.start hw
 refine WP.s<|WP.g<|WL.a (.nilIface) rfl<|WL.e<|WP.s<|WP.s<|WP.g<|WL.m (str p_axis) rfl ?_
 obtain ⟨r1, hr1, h⟩ := bindE h
 refine W.call S rfl (accept_Kind_ok S.holds (hG.post S.post) p_axis hr1) ?_
 rintro v2 w3 H4 hle5 S rfl
 refine WL.a (int r1) rfl<|WL.e<|WP.s<|WP.g<|WL.m (int r1) rfl<|WL.e ?_
 obtain ⟨j8, hj7, h⟩ := bindE h
 refine WP.cut (fun f w => match j8 with | .inl _ => ∃ (H6 : Hp), St w0 H0 w H6 [] | .inr _ => False) ?_ ?_
 ·refine WP.block<|WP.s<|WP.g<|WL.w (R.eql rfl rfl)<|WL.a (boo (r1 == 1)) rfl<|WL.e ?_
  rcases condE hj7 with ⟨hc9, hj7⟩ | ⟨hc9, hj7⟩
  ·refine WP.condT rfl hc9<|WP.s<|WP.g<|WL.w (R.build [] [] bp203 zer203 rfl rfl)<|WL.w (v := Tryz.vvariants_domain (.media : Gvariants_domain)) (R.ofEq (R.mkIface rfl Tryz.underlying203 (by intro _ h; cases h)) rfl)<|WL.a (Tryz.vvariants_domain (.media : Gvariants_domain)) rfl<|WL.e ?_
   obtain rfl := oi hj7
   obtain rfl := oi h
   refine WP.ret (Out.one rfl S rfl ?_)
   exact rfl
  ·refine WP.condF rfl hc9<|WP.s<|WP.g<|WL.w (R.eql rfl rfl)<|WL.a (boo (r1 == 2)) rfl<|WL.e ?_
   rcases condE hj7 with ⟨hc10, hj7⟩ | ⟨hc10, hj7⟩
   ·refine WP.condT rfl hc10<|WP.s<|WP.g<|WL.w (R.build [] [] bp204 zer204 rfl rfl)<|WL.w (v := Tryz.vvariants_domain (.tags : Gvariants_domain)) (R.ofEq (R.mkIface rfl Tryz.underlying204 (by intro _ h; cases h)) rfl)<|WL.a (Tryz.vvariants_domain (.tags : Gvariants_domain)) rfl<|WL.e ?_
    obtain rfl := oi hj7
    obtain rfl := oi h
    refine WP.ret (Out.one rfl S rfl ?_)
    exact rfl
   ·refine WP.condF rfl hc10<|WP.s<|WP.s<|WP.g<|WL.w (R.eql rfl rfl)<|WL.a (boo (r1 == 3)) rfl<|WL.e ?_
    obtain ⟨y_13, hj15, hj7⟩ := bindE hj7
    refine WP.cut (fun f w => ∃ (H11 : Hp), f 3 = (int r1) ∧ f 15 = (boo y_13) ∧ St w0 H0 w H11 []) ?_ ?_
    ·rcases condE hj15 with ⟨hc17, hj15⟩ | ⟨hc17, hj15⟩
     ·refine WP.condT rfl hc17<|WP.skip ?_
      obtain rfl := oi hj15
      exact ⟨H4, rfl, rfl, S⟩
     ·refine WP.condF rfl hc17<|WP.g<|WL.w (R.eql rfl rfl)<|WL.a (boo (r1 == 4)) rfl<|WL.e ?_
      obtain rfl := oi hj15
      exact ⟨H4, rfl, rfl, S⟩
    ·rintro f w ⟨H11, h12, h14, S⟩
     rcases condE hj7 with ⟨hc18, hj7⟩ | ⟨hc18, hj7⟩
     ·refine WP.condT h14 hc18<|WP.s<|WP.g<|WL.m (int r1) h12<|WL.w (v := Tryz.vvariants_domain (.words r1 : Gvariants_domain)) (R.ofEq (R.mkIface rfl Tryz.underlying205 (by intro _ h; cases h)) rfl)<|WL.a (Tryz.vvariants_domain (.words r1 : Gvariants_domain)) rfl<|WL.e ?_
      obtain rfl := oi hj7
      obtain rfl := oi h
      refine WP.ret (Out.one rfl S rfl ?_)
      exact rfl
     ·refine WP.condF h14 hc18<|WP.skip ?_
      obtain rfl := oi hj7
      exact ⟨H11, S⟩
 ·intro f w hM
  rcases j8 with _ | e
  ·obtain ⟨H6, S⟩ := hM
   refine WP.s<|WP.g<|WL.w (R.build [] [] bp206 zer206 rfl rfl)<|WL.w (v := Tryz.vvariants_domain (.texts : Gvariants_domain)) (R.ofEq (R.mkIface rfl Tryz.underlying206 (by intro _ h; cases h)) rfl)<|WL.a (Tryz.vvariants_domain (.texts : Gvariants_domain)) rfl<|WL.e ?_
   obtain rfl := oi h
   refine WP.ret (Out.one rfl S rfl ?_)
   exact rfl
  ·exact hM.elim
theorem param_cut_ok {w0 : World} {H0 : Hp} (hw : Holds w0 H0) (hG : Tryz.Gl w0) (p_s : Str) {r : (List Str)} (h : param_cut p_s = some r) :
  Con Tryz.prog 278 [(str p_s)] w0 H0 (fun H' v => Sl (α := Str) H' v r) := by
 refine Con.mk (N := 54) Tryz.func278 rfl rfl (by kernel_rfl) rfl ?_
 have S := St.start hw
 refine WP.s<|WP.g<|WL.a (.slice none 0 0) rfl<|WL.e<|WP.s<|WP.g<|WL.a (.slice none 0 0) rfl<|WL.e<|WP.s<|WP.g<|WL.a (boo false) rfl<|WL.a (int 0) rfl ?_
 refine WL.e<|WP.s<|WP.s<|WP.g<|WL.a (int 0) rfl<|WL.e ?_
 have S := S.addNil 9 1
 obtain ⟨r24, hr25, h⟩ := bindE h
 refine WP.cut (fun f w => match r24 with | (out_15, from_19) => ∃ (H13 : Hp) (v16 : Value), f 0 = (str p_s) ∧ f 3 = v16 ∧ f 5 = (int from_19) ∧ Sl (α := Str) H13 v16 out_15 ∧ St w0 H0 w H13 [.row v16 9 1 out_15.length]) ?_ ?_
 ·refine WP.block ?_
  refine WP.loopM (param_cut_L0 p_s) (fun s f w => match s with | (out_3, quoted_7, from_9, i_11) => ∃ (H1 : Hp) (v4 : Value), f 0 = (str p_s) ∧ f 3 = v4 ∧ f 4 = (boo quoted_7) ∧ f 5 = (int from_9) ∧ f 6 = (int i_11) ∧ Sl (α := Str) H1 v4 out_3 ∧ St w0 H0 w H1 [.row v4 9 1 out_3.length]) (([] : List Str), false, 0, 0) r24 hr25 ?_ ?_
  ·exact ⟨H0, .slice none 0 0, rfl, rfl, rfl, rfl, rfl, Sl.nil, S⟩
  ·intro s f w hI y21 hy22 hy23
   obtain ⟨out_3, quoted_7, from_9, i_11⟩ := s
   obtain ⟨H1, v4, h2, h6, h8, h10, h12, R5, S⟩ := hI
   refine WP.s<|WP.s<|WP.g<|WL.m (int i_11) h12<|WL.m (str p_s) h2<|WL.w (R.lenS (a := p_s) rfl Tryz.underlying9)<|WL.w (R.lss rfl rfl)<|WL.e ?_
   rcases condE hy22 with ⟨hc26, hy22⟩ | ⟨hc26, hy22⟩
   ·refine WP.condT rfl hc26<|WP.skip<|WP.s<|WP.block<|WP.block<|WP.s<|WP.g<|WL.m (boo quoted_7) h8<|WL.m (boo quoted_7) rfl ?_
    obtain ⟨b30, hg28, hy22⟩ := bindE hy22
    refine WL.grp 5 [16, 17, 18, 19] 20 (boo b30) ?_ ?_
    ·rcases boolE quoted_7 with hb27 | hb27
     ·replace hg28 := condT hg28 hb27
      refine WL.y rfl rfl hb27<|WL.m (str p_s) h2<|WL.y rfl rfl hb27<|WL.m (int i_11) h12<|WL.y rfl rfl hb27 ?_
      obtain ⟨c29, hc29, hg28⟩ := bindE hg28
      refine WL.w (R.idxS rfl rfl Tryz.underlying9 hc29)<|WL.y rfl rfl hb27<|WL.w (R.eql8 (a := c29) (b := 92) rfl rfl)<|WL.w (R.pickT rfl hb27 rfl) ?_
      exact WL.e ⟨(congrArg boo (oi hg28)), ag, rfl⟩
     ·replace hg28 := condF hg28 hb27
      refine WL.n rfl rfl hb27<|WL.n rfl rfl hb27<|WL.n rfl rfl hb27<|WL.n rfl rfl hb27<|WL.w (R.pickF rfl hb27 rfl) ?_
      exact WL.e ⟨(congrArg boo (oi hg28)), ag, rfl⟩
    ·intro us
     refine WL.a (boo b30) rfl<|WL.e ?_
     rcases condE hy22 with ⟨hc31, hy22⟩ | ⟨hc31, hy22⟩
     ·refine WP.condT rfl hc31<|WP.g<|WL.m (int i_11) h12<|WL.w (R.add rfl rfl)<|WL.a (int (wr (i_11 + 1))) rfl<|WL.e<|WP.g<|WL.m (int (wr (i_11 + 1))) rfl<|WL.w (R.add rfl rfl)<|WL.a (int (wr ((wr (i_11 + 1)) + 1))) rfl<|WL.e ?_
      obtain rfl := oi hy22
      exact ⟨rfl, ⟨H1, v4, h2, h6, h8, h10, rfl, R5, S⟩⟩
     ·refine WP.condF rfl hc31<|WP.s<|WP.g<|WL.m (str p_s) h2<|WL.m (int i_11) h12 ?_
      obtain ⟨c32, hc32, hy22⟩ := bindE hy22
      refine WL.w (R.idxS rfl rfl Tryz.underlying9 hc32)<|WL.w (R.eql8 (a := c32) (b := 34) rfl rfl)<|WL.a (boo (c32 == 34)) rfl<|WL.e ?_
      rcases condE hy22 with ⟨hc33, hy22⟩ | ⟨hc33, hy22⟩
      ·refine WP.condT rfl hc33<|WP.g<|WL.m (boo quoted_7) h8<|WL.w (R.not rfl)<|WL.a (boo (!quoted_7)) rfl<|WL.e<|WP.g<|WL.m (int i_11) h12<|WL.w (R.add rfl rfl)<|WL.a (int (wr (i_11 + 1))) rfl<|WL.e ?_
       obtain rfl := oi hy22
       exact ⟨rfl, ⟨H1, v4, h2, h6, rfl, h10, rfl, R5, S⟩⟩
      ·refine WP.condF rfl hc33<|WP.s<|WP.g<|WL.m (str p_s) h2<|WL.m (int i_11) h12 ?_
       obtain ⟨c34, hc34, hy22⟩ := bindE hy22
       refine WL.w (R.idxS rfl rfl Tryz.underlying9 hc34)<|WL.w (R.eql8 (a := c34) (b := 59) rfl rfl)<|WL.m (boo (c34 == 59)) rfl ?_
       refine WL.grp 3 [36, 37] 38 (boo ((c34 == 59) && (!quoted_7))) ?_ ?_
       ·rcases boolE (c34 == 59) with hb35 | hb35
        ·refine WL.y rfl rfl hb35<|WL.m (boo quoted_7) h8<|WL.y rfl rfl hb35<|WL.w (R.not rfl)<|WL.w (R.pickT rfl hb35 rfl) ?_
         exact WL.e ⟨(andT hb35), ag, rfl⟩
        ·refine WL.n rfl rfl hb35<|WL.n rfl rfl hb35<|WL.w (R.pickF rfl hb35 rfl) ?_
         exact WL.e ⟨(andF hb35), ag, rfl⟩
       ·intro us
        refine WL.a (boo ((c34 == 59) && (!quoted_7))) rfl<|WL.e ?_
        rcases condE hy22 with ⟨hc37, hy22⟩ | ⟨hc37, hy22⟩
        ·refine WP.condT rfl hc37<|WP.s<|WP.g<|WL.m (v4) h6<|WL.m (str p_s) h2<|WL.m (int from_9) h10<|WL.m (int i_11) h12 ?_
         obtain ⟨s38, hs38, hy22⟩ := bindE hy22
         refine WL.w (R.subS rfl rfl rfl Tryz.underlying9 hs38)<|W.bslice (α := Str) [(str s38)] ([s38] : List Str) S el23 rfl rfl rfl (by decide) (Go.Eng.encS ⟨rfl, rfl⟩ enc0) ?_
         intro u39 w40 H41 hle42 R43 S
         have R5 := Sl.mono R5 hle42
         obtain ⟨l44, hl44, hy22⟩ := bindE hy22
         refine W.app (α := Str) (i := 1) S el23 rfl rfl rfl R5 R43 hl44 ?_
         intro v45 w46 H47 hle48 R49 S
         have R5 := Sl.mono R5 hle48
         refine WL.a (v45) rfl<|WL.e<|WP.g<|WL.m (int i_11) h12<|WL.w (R.add rfl rfl)<|WL.a (int (wr (i_11 + 1))) rfl<|WL.e<|WP.g<|WL.m (int i_11) h12<|WL.w (R.add rfl rfl)<|WL.a (int (wr (i_11 + 1))) rfl<|WL.e ?_
         obtain rfl := oi hy22
         exact ⟨rfl, ⟨H47, v45, h2, rfl, h8, rfl, rfl, R49, (S.drop _ (.cons _ (.cons_cons _ .slnil)))⟩⟩
        ·refine WP.condF rfl hc37<|WP.skip<|WP.g<|WL.m (int i_11) h12<|WL.w (R.add rfl rfl)<|WL.a (int (wr (i_11 + 1))) rfl<|WL.e ?_
         obtain rfl := oi hy22
         exact ⟨rfl, ⟨H1, v4, h2, h6, h8, h10, rfl, R5, S⟩⟩
   ·refine WP.condF rfl hc26<|WP.exit ?_
    obtain rfl := oi hy22
    obtain rfl := hy23
    exact ⟨H1, v4, h2, h6, h10, R5, S⟩
 ·intro f w hM
  obtain ⟨out_15, from_19⟩ := r24
  obtain ⟨H13, v16, h14, h18, h20, R17, S⟩ := hM
  refine WP.s<|WP.g<|WL.m (v16) h18<|WL.m (str p_s) h14<|WL.m (int from_19) h20 ?_
  obtain ⟨s50, hs50, h⟩ := bindE h
  refine WL.w (R.subSlo rfl rfl Tryz.underlying9 hs50)<|W.bslice (α := Str) [(str s50)] ([s50] : List Str) S el23 rfl rfl rfl (by decide) (Go.Eng.encS ⟨rfl, rfl⟩ enc0) ?_
  intro u51 w52 H53 hle54 R55 S
  have R17 := Sl.mono R17 hle54
  obtain ⟨l56, hl56, h⟩ := bindE h
  refine W.app (α := Str) (i := 1) S el23 rfl rfl rfl R17 R55 hl56 ?_
  intro v57 w58 H59 hle60 R61 S
  refine WL.a (v57) rfl<|WL.e ?_
  obtain rfl := oi h
  refine WP.ret (Out.one rfl S rfl ?_)
  exact R61
theorem param_one_ok {w0 : World} {H0 : Hp} (hw : Holds w0 H0) (hG : Tryz.Gl w0) (p_s : Str) {r : (Str × Str × Bool)} (h : param_one p_s = some r) :
  Con Tryz.prog 279 [(str p_s)] w0 H0 (fun H' v => v = (.tuple ⟨[(str r.1), (str r.2.1), (boo r.2.2)]⟩)) := by
 refine Con.mk (N := 33) Tryz.func279 rfl rfl (by kernel_rfl) rfl ?_
 have S := St.start hw
 refine WP.s<|WP.g<|WL.a (str []) rfl<|WL.a (str []) rfl<|WL.a (boo false) rfl<|WL.e<|WP.s<|WP.g<|WL.m (str p_s) rfl ?_
 obtain ⟨r1, hr1, h⟩ := bindE h
 refine W.call S rfl (strings_Cut_ok S.holds (hG.post S.post) p_s [61] hr1) ?_
 rintro v2 w3 H4 hle5 S rfl
 refine WL.m (.tuple ⟨[(str r1.1), (str r1.2.1), (boo r1.2.2)]⟩) rfl<|WL.w (R.ext rfl rfl)<|WL.w (R.ext rfl rfl)<|WL.w (R.ext rfl rfl)<|WL.a (str r1.1) rfl<|WL.a (str r1.2.1) rfl<|WL.a (boo r1.2.2) rfl<|WL.e<|WP.s<|WP.s<|WP.g<|WL.m (boo r1.2.2) rfl ?_
 refine WL.w (R.not rfl)<|WL.m (boo (!r1.2.2)) rfl ?_
 obtain ⟨b13, hg7, h⟩ := bindE h
 refine WL.grpw 4 [17, 18, 19] 20 (boo b13) (fun w => ∃ H' : Hp, H4.le H' ∧ St w0 H0 w H' []) ?_ ?_
 ·rcases boolE (!r1.2.2) with hb6 | hb6
  ·replace hg7 := condT hg7 hb6
   refine WL.n rfl rfl hb6<|WL.n rfl rfl hb6<|WL.n rfl rfl hb6<|WL.w (R.pickT rfl hb6 rfl) ?_
   exact WL.e ⟨(congrArg boo (oi hg7)), ag, ⟨H4, (Hp.le.refl _), S⟩⟩
  ·replace hg7 := condF hg7 hb6
   refine WL.y rfl rfl hb6<|WL.m (str r1.1) rfl<|WL.y rfl rfl hb6 ?_
   obtain ⟨r8, hr8, hg7⟩ := bindE hg7
   refine W.call S rfl (ascii_Token_ok S.holds (hG.post S.post) r1.1 hr8) ?_
   rintro v9 w10 H11 hle12 S rfl
   refine WL.y rfl rfl hb6<|WL.w (R.not rfl)<|WL.w (R.pickF rfl hb6 rfl) ?_
   exact WL.e ⟨(congrArg boo (oi hg7)), ag, ⟨H11, hle12, S⟩⟩
 ·intro us w15 ⟨H14, hle16, S⟩
  refine WL.e ?_
  rcases condE h with ⟨hc17, h⟩ | ⟨hc17, h⟩
  ·refine WP.condT rfl hc17<|WP.s<|WP.g<|WL.a (str []) rfl<|WL.a (str []) rfl<|WL.a (boo false) rfl<|WL.e ?_
   obtain rfl := oi h
   refine WP.ret (Out.three rfl S rfl rfl rfl ?_)
   exact rfl
  ·refine WP.condF rfl hc17<|WP.skip<|WP.s<|WP.s<|WP.g<|WL.m (str r1.2.1) rfl ?_
   obtain ⟨r18, hr18, h⟩ := bindE h
   refine W.call S rfl (ascii_Token_ok S.holds (hG.post S.post) r1.2.1 hr18) ?_
   rintro v19 w20 H21 hle22 S rfl
   refine WL.w (R.not rfl)<|WL.e ?_
   obtain ⟨⟨value_25, ok_27⟩, hj29, h⟩ := bindE h
   refine WP.cut (fun f w => ∃ (H23 : Hp), f 5 = (str r1.1) ∧ f 6 = (str value_25) ∧ f 7 = (boo ok_27) ∧ St w0 H0 w H23 []) ?_ ?_
   ·rcases condE hj29 with ⟨hc31, hj29⟩ | ⟨hc31, hj29⟩
    ·refine WP.condT rfl hc31<|WP.g<|WL.m (str r1.2.1) rfl ?_
     obtain ⟨r32, hr32, hj29⟩ := bindE hj29
     refine W.call S rfl (ascii_Unquote_ok S.holds (hG.post S.post) r1.2.1 hr32) ?_
     rintro v33 w34 H35 hle36 S rfl
     refine WL.m (.tuple ⟨[(str r32.1), (boo r32.2)]⟩) rfl<|WL.w (R.ext rfl rfl)<|WL.w (R.ext rfl rfl)<|WL.a (str r32.1) rfl<|WL.a (boo r32.2) rfl<|WL.e ?_
     cases oi hj29
     exact ⟨H35, rfl, rfl, rfl, S⟩
    ·refine WP.condF rfl hc31<|WP.skip ?_
     cases oi hj29
     exact ⟨H21, rfl, rfl, rfl, S⟩
   ·rintro f w ⟨H23, h24, h26, h28, S⟩
    refine WP.s<|WP.g<|WL.m (str r1.1) h24 ?_
    obtain ⟨r37, hr37, h⟩ := bindE h
    refine W.call S rfl (ascii_Lower_ok S.holds (hG.post S.post) r1.1 hr37) ?_
    rintro v38 w39 H40 hle41 S rfl
    refine WL.m (str value_25) h26<|WL.m (boo ok_27) h28<|WL.a (str r37) rfl<|WL.a (str value_25) rfl<|WL.a (boo ok_27) rfl<|WL.e ?_
    obtain rfl := oi h
    refine WP.ret (Out.three rfl S rfl rfl rfl ?_)
    exact rfl
theorem param_Parse_ok {w0 : World} {H0 : Hp} (hw : Holds w0 H0) (hG : Tryz.Gl w0) (p_s : Str) {r : (Str × (List GParam) × Bool)} (h : param_Parse p_s = some r) :
  Con Tryz.prog 277 [(str p_s)] w0 H0 (fun H' v => ∃ u1 : Value, v = (.tuple ⟨[(str r.1), u1, (boo r.2.2)]⟩) ∧ Sl (α := GParam) H' u1 r.2.1) := by
 refine Con.mk (N := 49) Tryz.func277 rfl rfl (by kernel_rfl) rfl ?_
 have S := St.start hw
 refine WP.s<|WP.g<|WL.a (str []) rfl<|WL.a (.slice none 0 0) rfl<|WL.a (boo false) rfl<|WL.e<|WP.s<|WP.g<|WL.m (str p_s) rfl ?_
 obtain ⟨r1, hr1, h⟩ := bindE h
 refine W.call S rfl (param_cut_ok S.holds (hG.post S.post) p_s hr1) ?_
 rintro v2 w3 H4 hle5 S R6
 refine WL.a (v2) rfl<|WL.e<|WP.s<|WP.g<|WL.m (v2) rfl ?_
 obtain ⟨x7, hx7, h⟩ := bindE h
 refine W.idx (α := Str) R6 rfl rfl el23 hx7 ?_
 rintro a8 _ hA9 rfl
 refine WL.w (R.loadH (v := str x7) S rfl hA9 lay9 rfl) ?_
 obtain ⟨r10, hr10, h⟩ := bindE h
 refine W.call S rfl (ascii_Trim_ok S.holds (hG.post S.post) x7 hr10) ?_
 rintro v11 w12 H13 hle14 S rfl
 have R6 := Sl.mono R6 hle14
 refine WL.a (str r10) rfl<|WL.e<|WP.s<|WP.s<|WP.g<|WL.m (str r10) rfl<|WL.w (R.eqlS (a := r10) (b := []) rfl rfl)<|WL.e ?_
 rcases condE h with ⟨hc15, h⟩ | ⟨hc15, h⟩
 ·refine WP.condT rfl hc15<|WP.s<|WP.g<|WL.a (str []) rfl<|WL.a (.slice none 0 0) rfl<|WL.a (boo false) rfl<|WL.e ?_
  obtain rfl := oi h
  refine WP.ret (Out.three rfl S rfl rfl rfl ?_)
  exact ⟨_, rfl, Sl.nil⟩
 ·refine WP.condF rfl hc15<|WP.skip<|WP.s<|WP.g<|WL.a (.slice none 0 0) rfl<|WL.e<|WP.s<|WP.s<|WP.g<|WL.m (v2) rfl ?_
  obtain ⟨l16, hl16, h⟩ := bindE h
  refine W.subLo (α := Str) R6 rfl rfl el23 hl16 ?_
  intro v17 R18
  refine WL.w (R.lenL (α := Str) (xs := l16) (H := H13) R18 rfl Tryz.underlying23)<|WL.m (int 0) rfl<|WL.e ?_
  have S := S.addNil 158 2
  obtain ⟨r38, hr39, h⟩ := bindE h
  refine WP.cut (fun f w => match r38 with | .inl l_31 => ∃ (H29 : Hp) (v32 : Value), f 6 = (str r10) ∧ f 7 = v32 ∧ Sl (α := GParam) H29 v32 l_31 ∧ St w0 H0 w H29 [.row v32 158 2 l_31.length] | .inr _ => False) ?_ ?_
  ·refine WP.block ?_
   refine WP.loopM (param_Parse_L0 l16) (fun s f w => match s with | (l_21, y_27) => ∃ (H19 : Hp) (v22 : Value), f 6 = (str r10) ∧ f 7 = v22 ∧ f 22 = v17 ∧ f 23 = (int (l16.length : Int)) ∧ f 24 = (int y_27) ∧ Sl (α := GParam) H19 v22 l_21 ∧ Sl (α := Str) H19 v17 l16 ∧ St w0 H0 w H19 [.row v22 158 2 l_21.length]) (([] : List GParam), 0) r38 hr39 ?_ ?_
   ·exact ⟨H13, .slice none 0 0, rfl, rfl, rfl, rfl, rfl, Sl.nil, R18, S⟩
   ·intro s f w hI y35 hy36 hy37
    obtain ⟨l_21, y_27⟩ := s
    obtain ⟨H19, v22, h20, h24, h25, h26, h28, R23, R18, S⟩ := hI
    refine WP.s<|WP.g<|WL.w (R.lss h28 h26)<|WL.e<|WP.s ?_
    rcases condE hy36 with ⟨hc40, hy36⟩ | ⟨hc40, hy36⟩
    ·refine WP.condT rfl hc40<|WP.skip<|WP.s<|WP.block<|WP.s<|WP.g ?_
     obtain ⟨x41, hx41, hy36⟩ := bindE hy36
     refine W.idx (α := Str) R18 h25 h28 el23 hx41 ?_
     rintro a42 _ hA43 rfl
     refine WL.w (R.loadH (v := str x41) S rfl hA43 lay9 rfl)<|WL.a (str x41) rfl<|WL.e<|WP.s<|WP.g<|WL.m (str x41) rfl ?_
     obtain ⟨r44, hr44, hy36⟩ := bindE hy36
     refine W.call S rfl (ascii_Trim_ok S.holds (hG.post S.post) x41 hr44) ?_
     rintro v45 w46 H47 hle48 S rfl
     have R23 := Sl.mono R23 hle48
     have R18 := Sl.mono R18 hle48
     refine WL.a (str r44) rfl<|WL.e<|WP.s<|WP.s<|WP.g<|WL.m (str r44) rfl<|WL.w (R.eqlS (a := r44) (b := []) rfl rfl)<|WL.e ?_
     rcases condE hy36 with ⟨hc49, hy36⟩ | ⟨hc49, hy36⟩
     ·refine WP.condT rfl hc49<|WP.exit<|WP.g<|WL.w (R.add h28 rfl)<|WL.m (int (wr (y_27 + 1))) rfl<|WL.e ?_
      obtain rfl := oi hy36
      exact ⟨rfl, ⟨H47, v22, h20, h24, h25, h26, rfl, R23, R18, S⟩⟩
     ·refine WP.condF rfl hc49<|WP.skip<|WP.s<|WP.g<|WL.m (str r44) rfl ?_
      obtain ⟨r50, hr50, hy36⟩ := bindE hy36
      refine W.call S rfl (param_one_ok S.holds (hG.post S.post) r44 hr50) ?_
      rintro v51 w52 H53 hle54 S rfl
      have R23 := Sl.mono R23 hle54
      have R18 := Sl.mono R18 hle54
      refine WL.m (.tuple ⟨[(str r50.1), (str r50.2.1), (boo r50.2.2)]⟩) rfl<|WL.w (R.ext rfl rfl)<|WL.w (R.ext rfl rfl)<|WL.w (R.ext rfl rfl)<|WL.a (str r50.1) rfl<|WL.a (str r50.2.1) rfl<|WL.a (boo r50.2.2) rfl<|WL.e<|WP.s<|WP.s<|WP.g<|WL.m (boo r50.2.2) rfl ?_
      refine WL.w (R.not rfl)<|WL.e ?_
      rcases condE hy36 with ⟨hc55, hy36⟩ | ⟨hc55, hy36⟩
      ·refine WP.condT rfl hc55<|WP.s<|WP.g<|WL.a (str []) rfl<|WL.a (.slice none 0 0) rfl<|WL.a (boo false) rfl<|WL.e ?_
       obtain rfl := oi hy36
       obtain rfl := hy37
       obtain rfl := oi h
       refine WP.ret (Out.three rfl S rfl rfl rfl ?_)
       exact ⟨_, rfl, Sl.nil⟩
      ·refine WP.condF rfl hc55<|WP.skip<|WP.g<|WL.m (v22) h24<|WL.m (str r50.1) rfl<|WL.m (str r50.2.1) rfl<|WL.w (R.build [(0, (str r50.1)), (1, (str r50.2.1))] [(str r50.1), (str r50.2.1)] bp158 zer158 rfl rfl)<|W.bslice (α := GParam) [(agg [(str r50.1), (str r50.2.1)])] ([(⟨r50.1, r50.2.1⟩ : GParam)] : List GParam) S el153 rfl rfl rfl (by decide) (Go.Eng.encS ⟨rfl, rfl⟩ enc0) ?_
       intro u56 w57 H58 hle59 R60 S
       have R23 := Sl.mono R23 hle59
       have R18 := Sl.mono R18 hle59
       obtain ⟨l61, hl61, hy36⟩ := bindE hy36
       refine W.app (α := GParam) (i := 1) S el153 rfl rfl rfl R23 R60 hl61 ?_
       intro v62 w63 H64 hle65 R66 S
       have R23 := Sl.mono R23 hle65
       have R18 := Sl.mono R18 hle65
       refine WL.a (v62) rfl<|WL.e<|WP.g<|WL.w (R.add h28 rfl)<|WL.m (int (wr (y_27 + 1))) rfl<|WL.e ?_
       obtain rfl := oi hy36
       exact ⟨rfl, ⟨H64, v62, h20, rfl, h25, h26, rfl, R66, R18, (S.drop _ (.cons _ (.cons_cons _ .slnil)))⟩⟩
    ·refine WP.condF rfl hc40<|WP.exit ?_
     obtain rfl := oi hy36
     obtain rfl := hy37
     exact ⟨H19, v22, h20, h24, R23, S⟩
  ·intro f w hM
   rcases r38 with l_31 | e
   ·obtain ⟨H29, v32, h30, h34, R33, S⟩ := hM
    refine WP.s<|WP.g<|WL.m (str r10) h30<|WL.m (v32) h34<|WL.a (str r10) rfl<|WL.a (v32) rfl<|WL.a (boo true) rfl<|WL.e ?_
    obtain rfl := oi h
    refine WP.ret (Out.three rfl S rfl rfl rfl ?_)
    exact ⟨_, rfl, R33⟩
   ·exact hM.elim
theorem mediatype_ParseRange_ok {w0 : World} {H0 : Hp} (hw : Holds w0 H0) (hG : Tryz.Gl w0) (p_s : Str) {r : (GMediaType × Bool)} (h : mediatype_ParseRange p_s = some r) :
  Con Tryz.prog 275 [(str p_s)] w0 H0 (fun H' v => ∃ u1 : Value, v = (.tuple ⟨[(agg [(str r.1.fType), (str r.1.fSub), u1]), (boo r.2)]⟩) ∧ Sl (α := GParam) H' u1 r.1.fParams) := by
 refine Con.mk (N := 48) Tryz.func275 rfl rfl (by kernel_rfl) rfl ?_
 have S := St.start hw
 refine WP.s<|WP.g<|W.alloc [(str []), (str []), (.slice none 0 0)] S zer155 ?_
 intro b1 w2 S
 refine WL.a (boo false) rfl<|WL.e<|WP.s<|WP.g<|WL.m (str p_s) rfl ?_
 obtain ⟨r3, hr3, h⟩ := bindE h
 refine W.call S rfl (param_Parse_ok S.holds (hG.post S.post) p_s hr3) ?_
 rintro v4 w5 H6 hle7 S ⟨u8, rfl, R9⟩
 refine WL.m (.tuple ⟨[(str r3.1), u8, (boo r3.2.2)]⟩) rfl<|WL.w (R.ext rfl rfl)<|WL.w (R.ext rfl rfl)<|WL.w (R.ext rfl rfl)<|WL.a (str r3.1) rfl<|WL.a (u8) rfl<|WL.a (boo r3.2.2) rfl<|WL.e<|WP.s<|WP.s<|WP.g<|WL.m (boo r3.2.2) rfl ?_
 refine WL.w (R.not rfl)<|WL.e ?_
 rcases condE h with ⟨hc10, h⟩ | ⟨hc10, h⟩
 ·refine WP.condT rfl hc10<|WP.s<|WP.g<|WL.w (R.build [] [(str []), (str []), (.slice none 0 0)] bp155 zer155 rfl rfl)<|W.store (i := 0) [(str []), (str []), (.slice none 0 0)] S rfl rfl rfl lay155 rfl (AllOne.all (l := [(str []), (str []), (.slice none 0 0)]) (.cons rfl (.cons rfl (.cons rfl .nil)))) (Nat.le_of_ble_eq_true rfl) rfl ?_
  intro w11 S
  refine WL.a (boo false) rfl<|WL.e ?_
  obtain rfl := oi h
  refine WP.ret (Out.two rfl S (Res.cellB (i := 0) (cs := [(str []), (str []), (.slice none 0 0)]) S rfl rfl lay155 rfl rfl) rfl ?_)
  exact ⟨_, rfl, Sl.nil⟩
 ·refine WP.condF rfl hc10<|WP.skip<|WP.s<|WP.g<|WL.m (str r3.1) rfl ?_
  obtain ⟨r12, hr12, h⟩ := bindE h
  refine W.call S rfl (strings_Cut_ok S.holds (hG.post S.post) r3.1 [47] hr12) ?_
  rintro v13 w14 H15 hle16 S rfl
  have R9 := Sl.mono R9 hle16
  refine WL.m (.tuple ⟨[(str r12.1), (str r12.2.1), (boo r12.2.2)]⟩) rfl<|WL.w (R.ext rfl rfl)<|WL.w (R.ext rfl rfl)<|WL.w (R.ext rfl rfl)<|WL.a (str r12.1) rfl<|WL.a (str r12.2.1) rfl<|WL.a (boo r12.2.2) rfl<|WL.e<|WP.s<|WP.s<|WP.g<|WL.m (str r12.1) rfl ?_
  obtain ⟨r17, hr17, h⟩ := bindE h
  refine W.call S rfl (ascii_Token_ok S.holds (hG.post S.post) r12.1 hr17) ?_
  rintro v18 w19 H20 hle21 S rfl
  have R9 := Sl.mono R9 hle21
  refine WL.w (R.not rfl)<|WL.m (boo (!r17)) rfl ?_
  obtain ⟨b29, hg23, h⟩ := bindE h
  refine WL.grpw 4 [29, 30, 31] 32 (boo b29) (fun w => ∃ H' : Hp, H20.le H' ∧ St w0 H0 w H' [.box b1 155 [(str []), (str []), (.slice none 0 0)]]) ?_ ?_
  ·rcases boolE (!r17) with hb22 | hb22
   ·replace hg23 := condT hg23 hb22
    refine WL.n rfl rfl hb22<|WL.n rfl rfl hb22<|WL.n rfl rfl hb22<|WL.w (R.pickT rfl hb22 rfl) ?_
    exact WL.e ⟨(congrArg boo (oi hg23)), ag, ⟨H20, (Hp.le.refl _), S⟩⟩
   ·replace hg23 := condF hg23 hb22
    refine WL.y rfl rfl hb22<|WL.m (str r12.2.1) rfl<|WL.y rfl rfl hb22 ?_
    obtain ⟨r24, hr24, hg23⟩ := bindE hg23
    refine W.call S rfl (ascii_Token_ok S.holds (hG.post S.post) r12.2.1 hr24) ?_
    rintro v25 w26 H27 hle28 S rfl
    have R9 := Sl.mono R9 hle28
    refine WL.y rfl rfl hb22<|WL.w (R.not rfl)<|WL.w (R.pickF rfl hb22 rfl) ?_
    exact WL.e ⟨(congrArg boo (oi hg23)), ag, ⟨H27, hle28, S⟩⟩
  ·intro us w31 ⟨H30, hle32, S⟩
   have R9 := Sl.mono R9 hle32
   refine WL.m (boo b29) rfl ?_
   refine WL.grp 7 [34, 35, 36, 37, 38, 39] 40 (boo (b29 || ((r12.1 == [42]) && (r12.2.1 != [42])))) ?_ ?_
   ·rcases boolE b29 with hb33 | hb33
    ·refine WL.n rfl rfl hb33<|WL.n rfl rfl hb33<|WL.n rfl rfl hb33<|WL.gund rfl rfl<|WL.gund rfl rfl<|WL.n rfl rfl hb33<|WL.w (R.pickT rfl hb33 rfl) ?_
     exact WL.e ⟨(orT hb33), ag, rfl⟩
    ·refine WL.y rfl rfl hb33<|WL.m (str r12.1) rfl<|WL.y rfl rfl hb33<|WL.w (R.eqlS (a := r12.1) (b := [42]) rfl rfl)<|WL.y rfl rfl hb33<|WL.m (boo (r12.1 == [42])) rfl ?_
     refine WL.grp 3 [37, 38] 39 (boo ((r12.1 == [42]) && (r12.2.1 != [42]))) ?_ ?_
     ·rcases boolE (r12.1 == [42]) with hb35 | hb35
      ·refine WL.y rfl rfl hb35<|WL.m (str r12.2.1) rfl<|WL.y rfl rfl hb35<|WL.w (R.neqS (a := r12.2.1) (b := [42]) rfl rfl)<|WL.y rfl rfl hb33<|WL.w (R.pickT rfl hb35 rfl) ?_
       exact WL.e ⟨(andT hb35), ag, rfl⟩
      ·refine WL.n rfl rfl hb35<|WL.n rfl rfl hb35<|WL.y rfl rfl hb33<|WL.w (R.pickF rfl hb35 rfl) ?_
       exact WL.e ⟨(andF hb35), ag, rfl⟩
     ·intro us
      refine WL.w (R.pickF rfl hb33 rfl) ?_
      exact WL.e ⟨(orF hb33), ag, rfl⟩
   ·intro us
    refine WL.e ?_
    rcases condE h with ⟨hc37, h⟩ | ⟨hc37, h⟩
    ·refine WP.condT rfl hc37<|WP.s<|WP.g<|WL.w (R.build [] [(str []), (str []), (.slice none 0 0)] bp155 zer155 rfl rfl)<|W.store (i := 0) [(str []), (str []), (.slice none 0 0)] S rfl rfl rfl lay155 rfl (AllOne.all (l := [(str []), (str []), (.slice none 0 0)]) (.cons rfl (.cons rfl (.cons rfl .nil)))) (Nat.le_of_ble_eq_true rfl) rfl ?_
     intro w38 S
     refine WL.a (boo false) rfl<|WL.e ?_
     obtain rfl := oi h
     refine WP.ret (Out.two rfl S (Res.cellB (i := 0) (cs := [(str []), (str []), (.slice none 0 0)]) S rfl rfl lay155 rfl rfl) rfl ?_)
     exact ⟨_, rfl, Sl.nil⟩
    ·refine WP.condF rfl hc37<|WP.skip<|WP.s<|WP.g<|WL.m (str r12.1) rfl ?_
     obtain ⟨r39, hr39, h⟩ := bindE h
     refine W.call S rfl (ascii_Lower_ok S.holds (hG.post S.post) r12.1 hr39) ?_
     rintro v40 w41 H42 hle43 S rfl
     have R9 := Sl.mono R9 hle43
     refine WL.m (str r12.2.1) rfl ?_
     obtain ⟨r44, hr44, h⟩ := bindE h
     refine W.call S rfl (ascii_Lower_ok S.holds (hG.post S.post) r12.2.1 hr44) ?_
     rintro v45 w46 H47 hle48 S rfl
     have R9 := Sl.mono R9 hle48
     refine WL.m (u8) rfl<|WL.w (R.build [(0, (str r39)), (1, (str r44)), (2, u8)] [(str r39), (str r44), u8] bp155 zer155 rfl (by obtain ⟨_, _, rfl, _⟩ := R9; rfl))<|W.store (i := 0) [(str r39), (str r44), u8] S rfl rfl rfl lay155 rfl (AllOne.all (l := [(str r39), (str r44), u8]) (.cons rfl (.cons rfl (.cons (Sl.oneC R9) .nil)))) (Nat.le_of_ble_eq_true rfl) rfl ?_
     intro w49 S
     refine WL.a (boo true) rfl<|WL.e ?_
     obtain rfl := oi h
     refine WP.ret (Out.two rfl S (Res.cellB (i := 0) (cs := [(str r39), (str r44), u8]) S rfl rfl lay155 rfl rfl) rfl ?_)
     exact ⟨_, rfl, R9⟩
theorem mediatype_Parse_ok {w0 : World} {H0 : Hp} (hw : Holds w0 H0) (hG : Tryz.Gl w0) (p_s : Str) {r : (GMediaType × Bool)} (h : mediatype_Parse p_s = some r) :
  Con Tryz.prog 272 [(str p_s)] w0 H0 (fun H' v => ∃ u1 : Value, v = (.tuple ⟨[(agg [(str r.1.fType), (str r.1.fSub), u1]), (boo r.2)]⟩) ∧ Sl (α := GParam) H' u1 r.1.fParams) := by
 refine Con.mk (N := 25) Tryz.func272 rfl rfl (by kernel_rfl) rfl ?_
 have S := St.start hw
 refine WP.s<|WP.g<|W.alloc [(str []), (str []), (.slice none 0 0)] S zer155 ?_
 intro b1 w2 S
 refine WL.a (boo false) rfl<|WL.e<|WP.s<|WP.g<|WL.m (str p_s) rfl ?_
 obtain ⟨r3, hr3, h⟩ := bindE h
 refine W.call S rfl (mediatype_ParseRange_ok S.holds (hG.post S.post) p_s hr3) ?_
 rintro v4 w5 H6 hle7 S ⟨u8, rfl, R9⟩
 refine WL.m (.tuple ⟨[(agg [(str r3.1.fType), (str r3.1.fSub), u8]), (boo r3.2)]⟩) rfl<|WL.w (R.ext rfl rfl)<|WL.w (R.ext rfl rfl)<|W.alloc [(str []), (str []), (.slice none 0 0)] S zer155 ?_
 intro b10 w11 S
 refine W.store (i := 0) [(str r3.1.fType), (str r3.1.fSub), u8] S rfl rfl rfl lay155 rfl (AllOne.all (l := [(str r3.1.fType), (str r3.1.fSub), u8]) (.cons rfl (.cons rfl (.cons (Sl.oneC R9) .nil)))) (Nat.le_of_ble_eq_true rfl) rfl ?_
 intro w12 S
 refine WL.a (boo r3.2) rfl<|WL.e<|WP.s<|WP.s<|WP.g<|WL.m (boo r3.2) rfl<|WL.w (R.not rfl)<|WL.m (boo (!r3.2)) rfl ?_
 refine WL.grp 4 [14, 15, 16] 17 (boo ((!r3.2) || (r3.1.fType == [42]))) ?_ ?_
 ·rcases boolE (!r3.2) with hb13 | hb13
  ·refine WL.n rfl rfl hb13<|WL.n rfl rfl hb13<|WL.n rfl rfl hb13<|WL.w (R.pickT rfl hb13 rfl) ?_
   exact WL.e ⟨(orT hb13), ag, rfl⟩
  ·refine WL.y rfl rfl hb13<|WL.w (R.fieldB rfl fld155_0)<|WL.y rfl rfl hb13<|WL.w (R.loadB (i := 0) (v := str r3.1.fType) S rfl rfl lay9 rfl)<|WL.y rfl rfl hb13<|WL.w (R.eqlS (a := r3.1.fType) (b := [42]) rfl rfl)<|WL.w (R.pickF rfl hb13 rfl) ?_
   exact WL.e ⟨(orF hb13), ag, rfl⟩
 ·intro us
  refine WL.m (boo ((!r3.2) || (r3.1.fType == [42]))) rfl ?_
  refine WL.grp 4 [19, 20, 21] 22 (boo (((!r3.2) || (r3.1.fType == [42])) || (r3.1.fSub == [42]))) ?_ ?_
  ·rcases boolE ((!r3.2) || (r3.1.fType == [42])) with hb15 | hb15
   ·refine WL.n rfl rfl hb15<|WL.n rfl rfl hb15<|WL.n rfl rfl hb15<|WL.w (R.pickT rfl hb15 rfl) ?_
    exact WL.e ⟨(orT hb15), ag, rfl⟩
   ·refine WL.y rfl rfl hb15<|WL.w (R.fieldB rfl fld155_1)<|WL.y rfl rfl hb15<|WL.w (R.loadB (i := 0) (v := str r3.1.fSub) S rfl rfl lay9 rfl)<|WL.y rfl rfl hb15<|WL.w (R.eqlS (a := r3.1.fSub) (b := [42]) rfl rfl)<|WL.w (R.pickF rfl hb15 rfl) ?_
    exact WL.e ⟨(orF hb15), ag, rfl⟩
  ·intro us
   refine WL.e ?_
   rcases condE h with ⟨hc17, h⟩ | ⟨hc17, h⟩
   ·refine WP.condT rfl hc17<|WP.s<|WP.g<|WL.w (R.build [] [(str []), (str []), (.slice none 0 0)] bp155 zer155 rfl rfl)<|W.store (i := 1) [(str []), (str []), (.slice none 0 0)] S rfl rfl rfl lay155 rfl (AllOne.all (l := [(str []), (str []), (.slice none 0 0)]) (.cons rfl (.cons rfl (.cons rfl .nil)))) (Nat.le_of_ble_eq_true rfl) rfl ?_
    intro w18 S
    refine WL.a (boo false) rfl<|WL.e ?_
    obtain rfl := oi h
    refine WP.ret (Out.two rfl S (Res.cellB (i := 1) (cs := [(str []), (str []), (.slice none 0 0)]) S rfl rfl lay155 rfl rfl) rfl ?_)
    exact ⟨_, rfl, Sl.nil⟩
   ·refine WP.condF rfl hc17<|WP.skip<|WP.s<|WP.g<|WL.w (R.loadBN (i := 0) (vs := [(str r3.1.fType), (str r3.1.fSub), u8]) S rfl rfl lay155 rfl rfl)<|W.store (i := 1) [(str r3.1.fType), (str r3.1.fSub), u8] S rfl rfl rfl lay155 rfl (AllOne.all (l := [(str r3.1.fType), (str r3.1.fSub), u8]) (.cons rfl (.cons rfl (.cons (Sl.oneC R9) .nil)))) (Nat.le_of_ble_eq_true rfl) rfl ?_
    intro w19 S
    refine WL.a (boo true) rfl<|WL.e ?_
    obtain rfl := oi h
    refine WP.ret (Out.two rfl S (Res.cellB (i := 1) (cs := [(str r3.1.fType), (str r3.1.fSub), u8]) S rfl rfl lay155 rfl rfl) rfl ?_)
    exact ⟨_, rfl, R9⟩
theorem variants_media_form_1_ok {w0 : World} {H0 : Hp} (hw : Holds w0 H0) (hG : Tryz.Gl w0) (p_x : GParam) (c_x0 : GParam) {ac_x0 : Addr} (Ac_x0 : At H0 ac_x0 [(str c_x0.fName), (str c_x0.fValue)]) {r : Bool} (h : variants_media_form_1 p_x c_x0 = some r) :
  Con Tryz.prog 274 [(agg [(str p_x.fName), (str p_x.fValue)]), (.pointer (some ac_x0))] w0 H0 (fun H' v => v = (boo r)) := by
 refine Con.mk (N := 9) Tryz.func274 rfl rfl (by kernel_rfl) rfl ?_
 have S := St.start hw
 refine WP.s<|WP.g<|W.box [(str p_x.fName), (str p_x.fValue)] S rfl rfl ?_
 intro b1 w2 S
 refine WL.a (boo false) rfl<|WL.e<|WP.s<|WP.g<|WL.w (R.fieldB rfl fld158_0)<|WL.w (R.loadB (i := 0) (v := str p_x.fName) S rfl rfl lay9 rfl)<|WL.w (R.field rfl fld158_0) ?_
 have hA3 := At.add Ac_x0 0 (by simp)
 refine WL.w (R.loadH (v := str c_x0.fName) S rfl hA3 lay9 rfl)<|WL.w (R.eqlS (a := p_x.fName) (b := c_x0.fName) rfl rfl)<|WL.a (boo (p_x.fName == c_x0.fName)) rfl<|WL.e ?_
 obtain rfl := oi h
 refine WP.ret (Out.one rfl S rfl ?_)
 exact rfl
theorem slices_IndexFunc_api_Param_api_Param_ok {w0 : World} {H0 : Hp} (hw : Holds w0 H0) (hG : Tryz.Gl w0) (p_s : (List GParam)) (p_f : (GParam → Option Bool)) {vp_s : Value} {kp_f : FuncId} {cp_f : List Value} (Rp_s : Sl (α := GParam) H0 vp_s p_s) (Fp_f : ∀ {w : World} {H : Hp}, H0.le H → Holds w H → Tryz.Gl w → ∀ (x0 : GParam) (rr : Bool), p_f x0 = some rr → Con Tryz.prog kp_f ([(agg [(str x0.fName), (str x0.fValue)])] ++ cp_f) w H (fun H' v => v = (boo rr))) {r : Int} (h : slices_IndexFunc_api_Param_api_Param p_s p_f = some r) :
  Con Tryz.prog 276 [vp_s, (.func (.func kp_f) #[] cp_f.toArray)] w0 H0 (fun H' v => v = (int r)) := by
 refine Con.mk (N := 19) Tryz.func276 rfl rfl (by kernel_rfl) rfl ?_
 have S := St.start hw
 refine WP.s<|WP.g<|WL.a (int 0) rfl<|WL.e<|WP.s<|WP.s<|WP.g<|WL.m (vp_s) rfl<|WL.w (R.lenL (α := GParam) (xs := p_s) (H := H0) Rp_s rfl Tryz.underlying153)<|WL.m (int 0) rfl<|WL.e ?_
 obtain ⟨r11, hr12, h⟩ := bindE h
 refine WP.cut (fun f w => match r11 with | .inl _ => ∃ (H7 : Hp), St w0 H0 w H7 [] | .inr _ => False) ?_ ?_
 ·refine WP.block ?_
  refine WP.loopM (slices_IndexFunc_api_Param_api_Param_L0 p_s p_f) (fun s f w => match s with | y_5 => ∃ (H1 : Hp), f 0 = vp_s ∧ f 1 = (.func (.func kp_f) #[] cp_f.toArray) ∧ f 7 = (int (p_s.length : Int)) ∧ f 8 = (int y_5) ∧ Sl (α := GParam) H1 vp_s p_s ∧ St w0 H0 w H1 []) 0 r11 hr12 ?_ ?_
  ·exact ⟨H0, rfl, rfl, rfl, rfl, Rp_s, S⟩
  ·intro y_5 f w hI y8 hy9 hy10
   obtain ⟨H1, h2, h3, h4, h6, Rp_s, S⟩ := hI
   refine WP.s<|WP.g<|WL.w (R.lss h6 h4)<|WL.e<|WP.s ?_
   rcases condE hy9 with ⟨hc13, hy9⟩ | ⟨hc13, hy9⟩
   ·refine WP.condT rfl hc13<|WP.skip<|WP.s<|WP.block<|WP.s<|WP.g<|WL.m (int y_5) h6<|WL.a (int y_5) rfl<|WL.e<|WP.s<|WP.g<|WL.m (.func (.func kp_f) #[] cp_f.toArray) h3 ?_
    refine WL.m (vp_s) h2<|WL.m (int y_5) rfl ?_
    obtain ⟨x14, hx14, hy9⟩ := bindE hy9
    refine W.idx (α := GParam) Rp_s rfl rfl el153 hx14 ?_
    rintro a15 _ hA16 rfl
    refine WL.w (R.loadHN (vs := [(str x14.fName), (str x14.fValue)]) S rfl hA16 lay158 rfl rfl) ?_
    obtain ⟨r17, hr17, hy9⟩ := bindE hy9
    refine W.callv S rfl rfl (Fp_f (S.post.le) S.holds (hG.post S.post) x14 _ hr17) ?_
    rintro v18 w19 H20 hle21 S rfl
    have Rp_s := Sl.mono Rp_s hle21
    refine WL.e ?_
    rcases condE hy9 with ⟨hc22, hy9⟩ | ⟨hc22, hy9⟩
    ·refine WP.condT rfl hc22<|WP.s<|WP.g<|WL.m (int y_5) rfl<|WL.a (int y_5) rfl<|WL.e ?_
     obtain rfl := oi hy9
     obtain rfl := hy10
     obtain rfl := oi h
     refine WP.ret (Out.one rfl S rfl ?_)
     exact rfl
    ·refine WP.condF rfl hc22<|WP.skip<|WP.g<|WL.w (R.add h6 rfl)<|WL.m (int (wr (y_5 + 1))) rfl<|WL.e ?_
     obtain rfl := oi hy9
     exact ⟨rfl, ⟨H20, h2, h3, h4, rfl, Rp_s, S⟩⟩
   ·refine WP.condF rfl hc13<|WP.exit ?_
    obtain rfl := oi hy9
    obtain rfl := hy10
    exact ⟨H1, S⟩
 ·intro f w hM
  rcases r11 with _ | e
  ·obtain ⟨H7, S⟩ := hM
   refine WP.s<|WP.g<|WL.a (int (-1)) rfl<|WL.e ?_
   obtain rfl := oi h
   refine WP.ret (Out.one rfl S rfl ?_)
   exact rfl
  ·exact hM.elim
theorem slices_ContainsFunc_api_Param_api_Param_ok {w0 : World} {H0 : Hp} (hw : Holds w0 H0) (hG : Tryz.Gl w0) (p_s : (List GParam)) (p_f : (GParam → Option Bool)) {vp_s : Value} {kp_f : FuncId} {cp_f : List Value} (Rp_s : Sl (α := GParam) H0 vp_s p_s) (Fp_f : ∀ {w : World} {H : Hp}, H0.le H → Holds w H → Tryz.Gl w → ∀ (x0 : GParam) (rr : Bool), p_f x0 = some rr → Con Tryz.prog kp_f ([(agg [(str x0.fName), (str x0.fValue)])] ++ cp_f) w H (fun H' v => v = (boo rr))) {r : Bool} (h : slices_ContainsFunc_api_Param_api_Param p_s p_f = some r) :
  Con Tryz.prog 273 [vp_s, (.func (.func kp_f) #[] cp_f.toArray)] w0 H0 (fun H' v => v = (boo r)) := by
 refine Con.mk (N := 9) Tryz.func273 rfl rfl (by kernel_rfl) rfl ?_
 have S := St.start hw
 refine WP.s<|WP.g<|WL.a (boo false) rfl<|WL.e<|WP.s<|WP.g<|WL.m (vp_s) rfl<|WL.m (.func (.func kp_f) #[] cp_f.toArray) rfl ?_
 obtain ⟨r1, hr1, h⟩ := bindE h
 refine W.call S rfl (slices_IndexFunc_api_Param_api_Param_ok S.holds (hG.post S.post) p_s p_f Rp_s (fun hle => Fp_f (Hp.le.trans S.post.le hle)) hr1) ?_
 rintro v2 w3 H4 hle5 S rfl
 refine WL.w (R.geq rfl rfl)<|WL.a (boo (decide (0 ≤ r1))) rfl<|WL.e ?_
 obtain rfl := oi h
 refine WP.ret (Out.one rfl S rfl ?_)
 exact rfl
end Go.Proofs
