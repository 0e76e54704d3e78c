/- A part of the proof of laws of the seat: written by program over the translation. -/
import Derived.Test.YtogfdiigokidaaaGreatDoorEng31
import Derived.Test.YtogfdiigokidaaaGreatDoorGenJ7
namespace Go.Proofs
set_option maxHeartbeats 4000000
set_option maxRecDepth 10000
open Go.Eng Go.Eng.Pure
set_option linter.unusedVariables false
theorem ref10_values_ok {w0 : World} {H0 : Hp} (hw : Holds w0 H0) (hG : Tryz.Gl w0) (p_ppend : Str) {r : ((List Str) × Bool)} (h : ref10_values p_ppend = some r) :
  Con Tryz.prog 100 [(str p_ppend)] w0 H0 (fun H' v => ∃ u1 : Value, v = (.tuple ⟨[u1, (boo r.2)]⟩) ∧ Sl (α := Str) H' u1 r.1) := by
 refine Con.mk (N := 118) Tryz.func100 rfl rfl (by kernel_rfl) rfl ?_
 have S := St.start hw
 refine WP.s<|WP.g<|WL.a (.slice none 0 0) rfl<|WL.a (boo false) rfl<|WL.e<|WP.s<|WP.s<|WP.g<|WL.m (str p_ppend) rfl<|WL.w (R.lenS (a := p_ppend) rfl Tryz.underlying9)<|WL.w (R.lss rfl rfl)<|WL.m (boo (decide ((p_ppend.length : Int) < 2))) rfl ?_
 obtain ⟨b4, hg2, h⟩ := bindE h
 refine WL.grp 4 [13, 14, 15] 16 (boo b4) ?_ ?_
 ·rcases boolE (decide ((p_ppend.length : Int) < 2)) with hb1 | hb1
  ·replace hg2 := condT hg2 hb1
   refine WL.n rfl rfl hb1<|WL.n rfl rfl hb1<|WL.n rfl rfl hb1<|WL.w (R.pickT rfl hb1 rfl) ?_
   exact WL.e ⟨(congrArg boo (oi hg2)), ag, rfl⟩
  ·replace hg2 := condF hg2 hb1
   refine WL.y rfl rfl hb1<|WL.m (str p_ppend) rfl<|WL.y rfl rfl hb1 ?_
   obtain ⟨c3, hc3, hg2⟩ := bindE hg2
   refine WL.w (R.idxS rfl rfl Tryz.underlying9 hc3)<|WL.y rfl rfl hb1<|WL.w (R.neq8 (a := c3) (b := 40) rfl rfl)<|WL.w (R.pickF rfl hb1 rfl) ?_
   exact WL.e ⟨(congrArg boo (oi hg2)), ag, rfl⟩
 ·intro us
  refine WL.m (boo b4) rfl ?_
  obtain ⟨b8, hg6, h⟩ := bindE h
  refine WL.grp 7 [18, 19, 20, 21, 22, 23] 24 (boo b8) ?_ ?_
  ·rcases boolE b4 with hb5 | hb5
   ·replace hg6 := condT hg6 hb5
    refine WL.n rfl rfl hb5<|WL.n rfl rfl hb5<|WL.n rfl rfl hb5<|WL.n rfl rfl hb5<|WL.n rfl rfl hb5<|WL.n rfl rfl hb5<|WL.w (R.pickT rfl hb5 rfl) ?_
    exact WL.e ⟨(congrArg boo (oi hg6)), ag, rfl⟩
   ·replace hg6 := condF hg6 hb5
    refine WL.y rfl rfl hb5<|WL.m (str p_ppend) rfl<|WL.y rfl rfl hb5<|WL.m (str p_ppend) rfl<|WL.y rfl rfl hb5<|WL.w (R.lenS (a := p_ppend) rfl Tryz.underlying9)<|WL.y rfl rfl hb5<|WL.w (R.sub rfl rfl)<|WL.y rfl rfl hb5 ?_
    obtain ⟨c7, hc7, hg6⟩ := bindE hg6
    refine WL.w (R.idxS rfl rfl Tryz.underlying9 hc7)<|WL.y rfl rfl hb5<|WL.w (R.neq8 (a := c7) (b := 41) rfl rfl)<|WL.w (R.pickF rfl hb5 rfl) ?_
    exact WL.e ⟨(congrArg boo (oi hg6)), ag, rfl⟩
  ·intro us
   refine WL.e ?_
   rcases condE h with ⟨hc9, h⟩ | ⟨hc9, h⟩
   ·refine WP.condT rfl hc9<|WP.s<|WP.g<|WL.a (.slice none 0 0) rfl<|WL.a (boo false) rfl<|WL.e ?_
    obtain rfl := oi h
    refine WP.ret (Out.two rfl S rfl rfl ?_)
    exact ⟨_, rfl, Sl.nil⟩
   ·refine WP.condF rfl hc9<|WP.skip<|WP.s<|WP.g<|WL.m (str p_ppend) rfl<|WL.m (str p_ppend) rfl<|WL.w (R.lenS (a := p_ppend) rfl Tryz.underlying9)<|WL.w (R.sub rfl rfl) ?_
    obtain ⟨s10, hs10, h⟩ := bindE h
    refine WL.w (R.subS rfl rfl rfl Tryz.underlying9 hs10)<|WL.a (str s10) rfl<|WL.e<|WP.s<|WP.g<|WL.a (.slice none 0 0) rfl<|WL.e<|WP.s<|WP.s<|WP.g<|WL.a (int 0) rfl<|WL.e ?_
    have S := S.addNil 9 1
    obtain ⟨r27, hr28, h⟩ := bindE h
    refine WP.cut (fun f w => match r27 with | .inl y_20 => ∃ (H19 : Hp) (v21 : Value), f 4 = v21 ∧ Sl (α := Str) H19 v21 y_20 ∧ St w0 H0 w H19 [.row v21 9 1 y_20.length] | .inr _ => False) ?_ ?_
    ·refine WP.block ?_
     refine WP.loopM (ref10_values_L2 s10) (fun s f w => match s with | (y_13, y_17) => ∃ (H11 : Hp) (v14 : Value), f 0 = (str s10) ∧ f 4 = v14 ∧ f 5 = (int y_17) ∧ Sl (α := Str) H11 v14 y_13 ∧ St w0 H0 w H11 [.row v14 9 1 y_13.length]) (([] : List Str), 0) r27 hr28 ?_ ?_
     ·exact ⟨H0, .slice none 0 0, rfl, rfl, rfl, Sl.nil, S⟩
     ·intro s f w hI y24 hy25 hy26
      obtain ⟨y_13, y_17⟩ := s
      obtain ⟨H11, v14, h12, h16, h18, R15, S⟩ := hI
      refine WP.s<|WP.s<|WP.g<|WL.m (int y_17) h18<|WL.m (str s10) h12<|WL.w (R.lenS (a := s10) rfl Tryz.underlying9)<|WL.w (R.lss rfl rfl)<|WL.e ?_
      rcases condE hy25 with ⟨hc29, hy25⟩ | ⟨hc29, hy25⟩
      ·refine WP.condT rfl hc29<|WP.skip<|WP.block<|WP.s<|WP.s<|WP.g<|WL.m (str s10) h12<|WL.m (int y_17) h18 ?_
       obtain ⟨c30, hc30, hy25⟩ := bindE hy25
       refine WL.w (R.idxS rfl rfl Tryz.underlying9 hc30)<|WL.w (R.eql8 (a := c30) (b := 32) rfl rfl)<|WL.e ?_
       rcases condE hy25 with ⟨hc31, hy25⟩ | ⟨hc31, hy25⟩
       ·refine WP.condT rfl hc31<|WP.s<|WP.g<|WL.m (int y_17) h18<|WL.w (R.add rfl rfl)<|WL.a (int (wr (y_17 + 1))) rfl<|WL.e<|WP.exit ?_
        obtain rfl := oi hy25
        exact ⟨rfl, ⟨H11, v14, h12, h16, rfl, R15, S⟩⟩
       ·refine WP.condF rfl hc31<|WP.skip<|WP.s<|WP.g<|WL.m (int y_17) h18<|WL.a (int y_17) rfl<|WL.e<|WP.s<|WP.s<|WP.g<|WL.m (str s10) h12<|WL.m (int y_17) h18 ?_
        obtain ⟨c32, hc32, hy25⟩ := bindE hy25
        refine WL.w (R.idxS rfl rfl Tryz.underlying9 hc32)<|WL.w (R.eql8 (a := c32) (b := 34) rfl rfl)<|WL.e ?_
        obtain ⟨j42, hj41, hy25⟩ := bindE hy25
        refine WP.cut (fun f w => match j42 with | .inl (y_35, y_39) => ∃ (H33 : Hp) (v36 : Value), f 0 = (str s10) ∧ f 4 = v36 ∧ f 5 = (int y_39) ∧ Sl (α := Str) H33 v36 y_35 ∧ St w0 H0 w H33 [.row v36 9 1 y_35.length] | .inr _ => False) ?_ ?_
        ·rcases condE hj41 with ⟨hc43, hj41⟩ | ⟨hc43, hj41⟩
         ·refine WP.condT rfl hc43<|WP.s<|WP.g<|WL.m (int y_17) h18<|WL.w (R.add rfl rfl)<|WL.a (int (wr (y_17 + 1))) rfl<|WL.e<|WP.s ?_
          obtain ⟨y_53, hr60, hj41⟩ := bindE hj41
          refine WP.cut (fun f w => ∃ (H50 : Hp), f 0 = (str s10) ∧ f 4 = v14 ∧ f 5 = (int y_53) ∧ f 6 = (int y_17) ∧ Sl (α := Str) H50 v14 y_13 ∧ St w0 H0 w H50 [.row v14 9 1 y_13.length]) ?_ ?_
          ·refine WP.block ?_
           refine WP.loopM (ref10_values_L0 s10) (fun s f w => match s with | y_47 => ∃ (H44 : Hp), f 0 = (str s10) ∧ f 4 = v14 ∧ f 5 = (int y_47) ∧ f 6 = (int y_17) ∧ Sl (α := Str) H44 v14 y_13 ∧ St w0 H0 w H44 [.row v14 9 1 y_13.length]) (wr (y_17 + 1)) y_53 hr60 ?_ ?_
           ·exact ⟨H11, h12, h16, rfl, rfl, R15, S⟩
           ·intro y_47 f w hI y56 hy57 hy58
            obtain ⟨H44, h45, h46, h48, h49, R15, S⟩ := hI
            refine WP.s<|WP.s<|WP.g<|WL.m (int y_47) h48<|WL.m (str s10) h45<|WL.w (R.lenS (a := s10) rfl Tryz.underlying9)<|WL.w (R.lss rfl rfl)<|WL.m (boo (decide (y_47 < (s10.length : Int)))) rfl ?_
            obtain ⟨b64, hg62, hy57⟩ := bindE hy57
            refine WL.grp 5 [52, 53, 54, 55] 56 (boo b64) ?_ ?_
            ·rcases boolE (decide (y_47 < (s10.length : Int))) with hb61 | hb61
             ·replace hg62 := condT hg62 hb61
              refine WL.y rfl rfl hb61<|WL.m (str s10) h45<|WL.y rfl rfl hb61<|WL.m (int y_47) h48<|WL.y rfl rfl hb61 ?_
              obtain ⟨c63, hc63, hg62⟩ := bindE hg62
              refine WL.w (R.idxS rfl rfl Tryz.underlying9 hc63)<|WL.y rfl rfl hb61<|WL.w (R.neq8 (a := c63) (b := 34) rfl rfl)<|WL.w (R.pickT rfl hb61 rfl) ?_
              exact WL.e ⟨(congrArg boo (oi hg62)), ag, rfl⟩
             ·replace hg62 := condF hg62 hb61
              refine WL.n rfl rfl hb61<|WL.n rfl rfl hb61<|WL.n rfl rfl hb61<|WL.n rfl rfl hb61<|WL.w (R.pickF rfl hb61 rfl) ?_
              exact WL.e ⟨(congrArg boo (oi hg62)), ag, rfl⟩
            ·intro us
             refine WL.e ?_
             rcases condE hy57 with ⟨hc65, hy57⟩ | ⟨hc65, hy57⟩
             ·refine WP.condT rfl hc65<|WP.skip<|WP.block<|WP.s<|WP.s<|WP.g<|WL.m (str s10) h45<|WL.m (int y_47) h48 ?_
              obtain ⟨c66, hc66, hy57⟩ := bindE hy57
              refine WL.w (R.idxS rfl rfl Tryz.underlying9 hc66)<|WL.w (R.eql8 (a := c66) (b := 92) rfl rfl)<|WL.e ?_
              rcases condE hy57 with ⟨hc67, hy57⟩ | ⟨hc67, hy57⟩
              ·refine WP.condT rfl hc67<|WP.g<|WL.m (int y_47) h48<|WL.w (R.add rfl rfl)<|WL.a (int (wr (y_47 + 1))) rfl<|WL.e<|WP.g<|WL.m (int (wr (y_47 + 1))) rfl<|WL.w (R.add rfl rfl)<|WL.a (int (wr ((wr (y_47 + 1)) + 1))) rfl<|WL.e ?_
               obtain rfl := oi hy57
               exact ⟨rfl, ⟨H44, h45, h46, rfl, h49, R15, S⟩⟩
              ·refine WP.condF rfl hc67<|WP.skip<|WP.g<|WL.m (int y_47) h48<|WL.w (R.add rfl rfl)<|WL.a (int (wr (y_47 + 1))) rfl<|WL.e ?_
               obtain rfl := oi hy57
               exact ⟨rfl, ⟨H44, h45, h46, rfl, h49, R15, S⟩⟩
             ·refine WP.condF rfl hc65<|WP.exit ?_
              obtain rfl := oi hy57
              obtain rfl := hy58
              exact ⟨H44, h45, h46, h48, h49, R15, S⟩
          ·rintro f w ⟨H50, h51, h52, h54, h55, R15, S⟩
           refine WP.s<|WP.s<|WP.g<|WL.m (int y_53) h54<|WL.m (str s10) h51<|WL.w (R.lenS (a := s10) rfl Tryz.underlying9)<|WL.w (R.geq rfl rfl)<|WL.e ?_
           rcases condE hj41 with ⟨hc68, hj41⟩ | ⟨hc68, hj41⟩
           ·refine WP.condT rfl hc68<|WP.s<|WP.g<|WL.a (.slice none 0 0) rfl<|WL.a (boo false) rfl<|WL.e ?_
            obtain rfl := oi hj41
            obtain rfl := oi hy25
            obtain rfl := hy26
            obtain rfl := oi h
            refine WP.ret (Out.two rfl S rfl rfl ?_)
            exact ⟨_, rfl, Sl.nil⟩
           ·refine WP.condF rfl hc68<|WP.skip<|WP.s<|WP.g<|WL.m (int y_53) h54<|WL.w (R.add rfl rfl)<|WL.a (int (wr (y_53 + 1))) rfl<|WL.e<|WP.s<|WP.g<|WL.m (str s10) h51<|WL.m (int y_17) h55 ?_
            refine WL.m (int (wr (y_53 + 1))) rfl ?_
            obtain ⟨s69, hs69, hj41⟩ := bindE hj41
            refine WL.w (R.subS rfl rfl rfl Tryz.underlying9 hs69) ?_
            obtain ⟨r70, hr70, hj41⟩ := bindE hj41
            refine W.call S rfl (ref01_Unquote_ok S.holds (hG.post S.post) s69 hr70) ?_
            rintro v71 w72 H73 hle74 S rfl
            have R15 := Sl.mono R15 hle74
            refine WL.m (.tuple ⟨[(str r70.1), (boo r70.2)]⟩) rfl<|WL.w (R.ext rfl rfl)<|WL.w (R.ext rfl rfl)<|WL.a (str r70.1) rfl<|WL.a (boo r70.2) rfl<|WL.e<|WP.s<|WP.s<|WP.g<|WL.m (boo r70.2) rfl<|WL.w (R.not rfl)<|WL.e ?_
            rcases condE hj41 with ⟨hc75, hj41⟩ | ⟨hc75, hj41⟩
            ·refine WP.condT rfl hc75<|WP.s<|WP.g<|WL.a (.slice none 0 0) rfl<|WL.a (boo false) rfl<|WL.e ?_
             obtain rfl := oi hj41
             obtain rfl := oi hy25
             obtain rfl := hy26
             obtain rfl := oi h
             refine WP.ret (Out.two rfl S rfl rfl ?_)
             exact ⟨_, rfl, Sl.nil⟩
            ·refine WP.condF rfl hc75<|WP.skip<|WP.g<|WL.m (v14) h52<|WL.m (str r70.1) rfl<|W.bslice (α := Str) [(str r70.1)] ([r70.1] : List Str) S el23 rfl rfl rfl (by decide) (Go.Eng.encS ⟨rfl, rfl⟩ enc0) ?_
             intro u76 w77 H78 hle79 R80 S
             have R15 := Sl.mono R15 hle79
             obtain ⟨l81, hl81, hj41⟩ := bindE hj41
             refine W.app (α := Str) (i := 1) S el23 rfl rfl rfl R15 R80 hl81 ?_
             intro v82 w83 H84 hle85 R86 S
             have R15 := Sl.mono R15 hle85
             refine WL.a (v82) rfl<|WL.e ?_
             obtain rfl := oi hj41
             exact ⟨H84, v82, h51, rfl, rfl, R86, (S.drop _ (.cons _ (.cons_cons _ .slnil)))⟩
         ·refine WP.condF rfl hc43<|WP.s ?_
          obtain ⟨y_96, hr103, hj41⟩ := bindE hj41
          refine WP.cut (fun f w => ∃ (H93 : Hp), f 0 = (str s10) ∧ f 4 = v14 ∧ f 5 = (int y_96) ∧ f 6 = (int y_17) ∧ Sl (α := Str) H93 v14 y_13 ∧ St w0 H0 w H93 [.row v14 9 1 y_13.length]) ?_ ?_
          ·refine WP.block ?_
           refine WP.loopM (ref10_values_L1 s10) (fun s f w => match s with | y_90 => ∃ (H87 : Hp), f 0 = (str s10) ∧ f 4 = v14 ∧ f 5 = (int y_90) ∧ f 6 = (int y_17) ∧ Sl (α := Str) H87 v14 y_13 ∧ St w0 H0 w H87 [.row v14 9 1 y_13.length]) y_17 y_96 hr103 ?_ ?_
           ·exact ⟨H11, h12, h16, h18, rfl, R15, S⟩
           ·intro y_90 f w hI y99 hy100 hy101
            obtain ⟨H87, h88, h89, h91, h92, R15, S⟩ := hI
            refine WP.s<|WP.s<|WP.g<|WL.m (int y_90) h91<|WL.m (str s10) h88<|WL.w (R.lenS (a := s10) rfl Tryz.underlying9)<|WL.w (R.lss rfl rfl)<|WL.m (boo (decide (y_90 < (s10.length : Int)))) rfl ?_
            obtain ⟨b112, hg105, hy100⟩ := bindE hy100
            refine WL.grpw 5 [90, 91, 92, 93] 94 (boo b112) (fun w => ∃ H' : Hp, H87.le H' ∧ St w0 H0 w H' [.row v14 9 1 y_13.length]) ?_ ?_
            ·rcases boolE (decide (y_90 < (s10.length : Int))) with hb104 | hb104
             ·replace hg105 := condT hg105 hb104
              refine WL.y rfl rfl hb104<|WL.m (str s10) h88<|WL.y rfl rfl hb104<|WL.m (int y_90) h91<|WL.y rfl rfl hb104 ?_
              obtain ⟨c106, hc106, hg105⟩ := bindE hg105
              refine WL.w (R.idxS rfl rfl Tryz.underlying9 hc106)<|WL.y rfl rfl hb104 ?_
              obtain ⟨r107, hr107, hg105⟩ := bindE hg105
              refine W.call S rfl (ref10_plain_ok S.holds (hG.post S.post) c106 hr107) ?_
              rintro v108 w109 H110 hle111 S rfl
              have R15 := Sl.mono R15 hle111
              refine WL.w (R.pickT rfl hb104 rfl) ?_
              exact WL.e ⟨(congrArg boo (oi hg105)), ag, ⟨H110, hle111, S⟩⟩
             ·replace hg105 := condF hg105 hb104
              refine WL.n rfl rfl hb104<|WL.n rfl rfl hb104<|WL.n rfl rfl hb104<|WL.n rfl rfl hb104<|WL.w (R.pickF rfl hb104 rfl) ?_
              exact WL.e ⟨(congrArg boo (oi hg105)), ag, ⟨H87, (Hp.le.refl _), S⟩⟩
            ·intro us w114 ⟨H113, hle115, S⟩
             have R15 := Sl.mono R15 hle115
             refine WL.e ?_
             rcases condE hy100 with ⟨hc116, hy100⟩ | ⟨hc116, hy100⟩
             ·refine WP.condT rfl hc116<|WP.skip<|WP.block<|WP.g<|WL.m (int y_90) h91<|WL.w (R.add rfl rfl)<|WL.a (int (wr (y_90 + 1))) rfl<|WL.e ?_
              obtain rfl := oi hy100
              exact ⟨rfl, ⟨H113, h88, h89, rfl, h92, R15, S⟩⟩
             ·refine WP.condF rfl hc116<|WP.exit ?_
              obtain rfl := oi hy100
              obtain rfl := hy101
              exact ⟨H113, h88, h89, h91, h92, R15, S⟩
          ·rintro f w ⟨H93, h94, h95, h97, h98, R15, S⟩
           refine WP.s<|WP.s<|WP.g<|WL.m (int y_96) h97<|WL.m (int y_17) h98<|WL.w (R.eql rfl rfl)<|WL.e ?_
           rcases condE hj41 with ⟨hc117, hj41⟩ | ⟨hc117, hj41⟩
           ·refine WP.condT rfl hc117<|WP.s<|WP.g<|WL.a (.slice none 0 0) rfl<|WL.a (boo false) rfl<|WL.e ?_
            obtain rfl := oi hj41
            obtain rfl := oi hy25
            obtain rfl := hy26
            obtain rfl := oi h
            refine WP.ret (Out.two rfl S rfl rfl ?_)
            exact ⟨_, rfl, Sl.nil⟩
           ·refine WP.condF rfl hc117<|WP.skip<|WP.g<|WL.m (v14) h95<|WL.m (str s10) h94<|WL.m (int y_17) h98<|WL.m (int y_96) h97 ?_
            obtain ⟨s118, hs118, hj41⟩ := bindE hj41
            refine WL.w (R.subS rfl rfl rfl Tryz.underlying9 hs118)<|W.bslice (α := Str) [(str s118)] ([s118] : List Str) S el23 rfl rfl rfl (by decide) (Go.Eng.encS ⟨rfl, rfl⟩ enc0) ?_
            intro u119 w120 H121 hle122 R123 S
            have R15 := Sl.mono R15 hle122
            obtain ⟨l124, hl124, hj41⟩ := bindE hj41
            refine W.app (α := Str) (i := 1) S el23 rfl rfl rfl R15 R123 hl124 ?_
            intro v125 w126 H127 hle128 R129 S
            have R15 := Sl.mono R15 hle128
            refine WL.a (v125) rfl<|WL.e ?_
            obtain rfl := oi hj41
            exact ⟨H127, v125, h94, rfl, h97, R129, (S.drop _ (.cons _ (.cons_cons _ .slnil)))⟩
        ·intro f w hM
         rcases j42 with ⟨y_35, y_39⟩ | e
         ·obtain ⟨H33, v36, h34, h38, h40, R37, S⟩ := hM
          refine WP.s<|WP.g<|WL.m (int y_39) h40<|WL.m (str s10) h34<|WL.w (R.lenS (a := s10) rfl Tryz.underlying9)<|WL.w (R.lss rfl rfl)<|WL.m (boo (decide (y_39 < (s10.length : Int)))) rfl ?_
          obtain ⟨b133, hg131, hy25⟩ := bindE hy25
          refine WL.grp 5 [112, 113, 114, 115] 116 (boo b133) ?_ ?_
          ·rcases boolE (decide (y_39 < (s10.length : Int))) with hb130 | hb130
           ·replace hg131 := condT hg131 hb130
            refine WL.y rfl rfl hb130<|WL.m (str s10) h34<|WL.y rfl rfl hb130<|WL.m (int y_39) h40<|WL.y rfl rfl hb130 ?_
            obtain ⟨c132, hc132, hg131⟩ := bindE hg131
            refine WL.w (R.idxS rfl rfl Tryz.underlying9 hc132)<|WL.y rfl rfl hb130<|WL.w (R.neq8 (a := c132) (b := 32) rfl rfl)<|WL.w (R.pickT rfl hb130 rfl) ?_
            exact WL.e ⟨(congrArg boo (oi hg131)), ag, rfl⟩
           ·replace hg131 := condF hg131 hb130
            refine WL.n rfl rfl hb130<|WL.n rfl rfl hb130<|WL.n rfl rfl hb130<|WL.n rfl rfl hb130<|WL.w (R.pickF rfl hb130 rfl) ?_
            exact WL.e ⟨(congrArg boo (oi hg131)), ag, rfl⟩
          ·intro us
           refine WL.e ?_
           rcases condE hy25 with ⟨hc134, hy25⟩ | ⟨hc134, hy25⟩
           ·refine WP.condT rfl hc134<|WP.s<|WP.g<|WL.a (.slice none 0 0) rfl<|WL.a (boo false) rfl<|WL.e ?_
            obtain rfl := oi hy25
            obtain rfl := hy26
            obtain rfl := oi h
            refine WP.ret (Out.two rfl S rfl rfl ?_)
            exact ⟨_, rfl, Sl.nil⟩
           ·refine WP.condF rfl hc134<|WP.skip ?_
            obtain rfl := oi hy25
            exact ⟨rfl, ⟨H33, v36, h34, h38, h40, R37, S⟩⟩
         ·exact hM.elim
      ·refine WP.condF rfl hc29<|WP.exit ?_
       obtain rfl := oi hy25
       obtain rfl := hy26
       exact ⟨H11, v14, h16, R15, S⟩
    ·intro f w hM
     rcases r27 with y_20 | e
     ·obtain ⟨H19, v21, h23, R22, S⟩ := hM
      refine WP.s<|WP.g<|WL.m (v21) h23<|WL.a (v21) rfl<|WL.a (boo true) rfl<|WL.e ?_
      obtain rfl := oi h
      refine WP.ret (Out.two rfl S rfl rfl ?_)
      exact ⟨_, rfl, R22⟩
     ·exact hM.elim
theorem ref10_Name_ok {w0 : World} {H0 : Hp} (hw : Holds w0 H0) (hG : Tryz.Gl w0) (p_kind : Int) {r : Str} (h : ref10_Name p_kind = some r) :
  Con Tryz.prog 192 [(int p_kind)] w0 H0 (fun H' v => v = (str r)) := by
 refine Con.mk (N := 12) Tryz.func192 rfl rfl (by kernel_rfl) rfl ?_
 have S := St.start hw
 refine WP.s<|WP.g<|WL.a (str []) rfl<|WL.e<|WP.s<|WP.s<|WP.g<|WL.m (int p_kind) rfl<|WL.e<|WP.block<|WP.s<|WP.g ?_
 refine WL.w (R.eql rfl rfl)<|WL.a (boo (p_kind == 1)) rfl<|WL.e ?_
 rcases condE h with ⟨hc1, h⟩ | ⟨hc1, h⟩
 ·refine WP.condT rfl hc1<|WP.s<|WP.g<|WL.a (str [65, 99, 99, 101, 112, 116]) rfl<|WL.e ?_
  obtain rfl := oi h
  refine WP.ret (Out.one rfl S rfl ?_)
  exact rfl
 ·refine WP.condF rfl hc1<|WP.s<|WP.g<|WL.w (R.eql rfl rfl)<|WL.a (boo (p_kind == 2)) rfl<|WL.e ?_
  rcases condE h with ⟨hc2, h⟩ | ⟨hc2, h⟩
  ·refine WP.condT rfl hc2<|WP.s<|WP.g<|WL.a (str [65, 99, 99, 101, 112, 116, 45, 76, 97, 110, 103, 117, 97, 103, 101]) rfl<|WL.e ?_
   obtain rfl := oi h
   refine WP.ret (Out.one rfl S rfl ?_)
   exact rfl
  ·refine WP.condF rfl hc2<|WP.s<|WP.g<|WL.w (R.eql rfl rfl)<|WL.a (boo (p_kind == 3)) rfl<|WL.e ?_
   rcases condE h with ⟨hc3, h⟩ | ⟨hc3, h⟩
   ·refine WP.condT rfl hc3<|WP.s<|WP.g<|WL.a (str [65, 99, 99, 101, 112, 116, 45, 67, 104, 97, 114, 115, 101, 116]) rfl<|WL.e ?_
    obtain rfl := oi h
    refine WP.ret (Out.one rfl S rfl ?_)
    exact rfl
   ·refine WP.condF rfl hc3<|WP.s<|WP.g<|WL.w (R.eql rfl rfl)<|WL.a (boo (p_kind == 4)) rfl<|WL.e ?_
    rcases condE h with ⟨hc4, h⟩ | ⟨hc4, h⟩
    ·refine WP.condT rfl hc4<|WP.s<|WP.g<|WL.a (str [65, 99, 99, 101, 112, 116, 45, 69, 110, 99, 111, 100, 105, 110, 103]) rfl<|WL.e ?_
     obtain rfl := oi h
     refine WP.ret (Out.one rfl S rfl ?_)
     exact rfl
    ·refine WP.condF rfl hc4<|WP.skip<|WP.s<|WP.g<|WL.a (str []) rfl<|WL.e ?_
     obtain rfl := oi h
     refine WP.ret (Out.one rfl S rfl ?_)
     exact rfl
theorem ref10_Kind_ok {w0 : World} {H0 : Hp} (hw : Holds w0 H0) (hG : Tryz.Gl w0) (p_name : Str) {r : Int} (h : ref10_Kind p_name = some r) :
  Con Tryz.prog 148 [(str p_name)] w0 H0 (fun H' v => v = (int r)) := by
 refine Con.mk (N := 13) Tryz.func148 rfl rfl (by kernel_rfl) rfl ?_
 have S := St.start hw
 refine WP.s<|WP.g<|WL.a (int 0) rfl<|WL.e<|WP.s<|WP.s<|WP.g<|WL.a (int 1) rfl<|WL.e<|WP.block<|WP.loopRd 5<|RD.succ ?_
 refine WP.s<|WP.s<|WP.g<|WL.m (int 1) rfl<|WL.w (v := boo true) (R.ofEq (R.leq rfl rfl) rfl)<|WL.e<|WP.condT (b := true) rfl rfl<|WP.skip<|WP.s<|WP.block<|WP.s<|WP.g ?_
 refine WL.m (str p_name) rfl<|WL.m (int 1) rfl ?_
 obtain ⟨r1, hr1, h⟩ := bindE h
 refine W.call S rfl (ref10_Name_ok S.holds (hG.post S.post) 1 hr1) ?_
 rintro v2 w3 H4 hle5 S rfl
 obtain ⟨r6, hr6, h⟩ := bindE h
 refine W.call S rfl (ref01_Fold_ok S.holds (hG.post S.post) p_name r1 hr6) ?_
 rintro v7 w8 H9 hle10 S rfl
 refine WL.e ?_
 rcases condE h with ⟨hc11, h⟩ | ⟨hc11, h⟩
 ·refine WP.condT rfl hc11<|WP.s<|WP.g<|WL.m (int 1) rfl<|WL.a (int 1) rfl<|WL.e ?_
  obtain rfl := oi h
  refine WP.ret (Out.one rfl S rfl ?_)
  exact rfl
 ·refine WP.condF rfl hc11<|WP.skip<|WP.g<|WL.m (int 1) rfl<|WL.w (v := int 2) (R.ofEq (R.add rfl rfl) rfl)<|WL.a (int 2) rfl<|WL.e<|RD.succ<|WP.s<|WP.s<|WP.g<|WL.m (int 2) rfl ?_
  refine WL.w (v := boo true) (R.ofEq (R.leq rfl rfl) rfl)<|WL.e<|WP.condT (b := true) rfl rfl<|WP.skip<|WP.s<|WP.block<|WP.s<|WP.g<|WL.m (str p_name) rfl<|WL.m (int 2) rfl ?_
  obtain ⟨r12, hr12, h⟩ := bindE h
  refine W.call S rfl (ref10_Name_ok S.holds (hG.post S.post) 2 hr12) ?_
  rintro v13 w14 H15 hle16 S rfl
  obtain ⟨r17, hr17, h⟩ := bindE h
  refine W.call S rfl (ref01_Fold_ok S.holds (hG.post S.post) p_name r12 hr17) ?_
  rintro v18 w19 H20 hle21 S rfl
  refine WL.e ?_
  rcases condE h with ⟨hc22, h⟩ | ⟨hc22, h⟩
  ·refine WP.condT rfl hc22<|WP.s<|WP.g<|WL.m (int 2) rfl<|WL.a (int 2) rfl<|WL.e ?_
   obtain rfl := oi h
   refine WP.ret (Out.one rfl S rfl ?_)
   exact rfl
  ·refine WP.condF rfl hc22<|WP.skip<|WP.g<|WL.m (int 2) rfl<|WL.w (v := int 3) (R.ofEq (R.add rfl rfl) rfl)<|WL.a (int 3) rfl<|WL.e<|RD.succ<|WP.s<|WP.s<|WP.g<|WL.m (int 3) rfl ?_
   refine WL.w (v := boo true) (R.ofEq (R.leq rfl rfl) rfl)<|WL.e<|WP.condT (b := true) rfl rfl<|WP.skip<|WP.s<|WP.block<|WP.s<|WP.g<|WL.m (str p_name) rfl<|WL.m (int 3) rfl ?_
   obtain ⟨r23, hr23, h⟩ := bindE h
   refine W.call S rfl (ref10_Name_ok S.holds (hG.post S.post) 3 hr23) ?_
   rintro v24 w25 H26 hle27 S rfl
   obtain ⟨r28, hr28, h⟩ := bindE h
   refine W.call S rfl (ref01_Fold_ok S.holds (hG.post S.post) p_name r23 hr28) ?_
   rintro v29 w30 H31 hle32 S rfl
   refine WL.e ?_
   rcases condE h with ⟨hc33, h⟩ | ⟨hc33, h⟩
   ·refine WP.condT rfl hc33<|WP.s<|WP.g<|WL.m (int 3) rfl<|WL.a (int 3) rfl<|WL.e ?_
    obtain rfl := oi h
    refine WP.ret (Out.one rfl S rfl ?_)
    exact rfl
   ·refine WP.condF rfl hc33<|WP.skip<|WP.g<|WL.m (int 3) rfl<|WL.w (v := int 4) (R.ofEq (R.add rfl rfl) rfl)<|WL.a (int 4) rfl<|WL.e<|RD.succ<|WP.s<|WP.s<|WP.g<|WL.m (int 4) rfl ?_
    refine WL.w (v := boo true) (R.ofEq (R.leq rfl rfl) rfl)<|WL.e<|WP.condT (b := true) rfl rfl<|WP.skip<|WP.s<|WP.block<|WP.s<|WP.g<|WL.m (str p_name) rfl<|WL.m (int 4) rfl ?_
    obtain ⟨r34, hr34, h⟩ := bindE h
    refine W.call S rfl (ref10_Name_ok S.holds (hG.post S.post) 4 hr34) ?_
    rintro v35 w36 H37 hle38 S rfl
    obtain ⟨r39, hr39, h⟩ := bindE h
    refine W.call S rfl (ref01_Fold_ok S.holds (hG.post S.post) p_name r34 hr39) ?_
    rintro v40 w41 H42 hle43 S rfl
    refine WL.e ?_
    rcases condE h with ⟨hc44, h⟩ | ⟨hc44, h⟩
    ·refine WP.condT rfl hc44<|WP.s<|WP.g<|WL.m (int 4) rfl<|WL.a (int 4) rfl<|WL.e ?_
     obtain rfl := oi h
     refine WP.ret (Out.one rfl S rfl ?_)
     exact rfl
    ·refine WP.condF rfl hc44<|WP.skip<|WP.g<|WL.m (int 4) rfl<|WL.w (v := int 5) (R.ofEq (R.add rfl rfl) rfl)<|WL.a (int 5) rfl<|WL.e<|RD.succ<|WP.s<|WP.s<|WP.g<|WL.m (int 5) rfl ?_
     refine WL.w (v := boo false) (R.ofEq (R.leq rfl rfl) rfl)<|WL.e<|WP.condF (b := false) rfl rfl<|WP.exit<|WP.s<|WP.g<|WL.a (int 0) rfl<|WL.e ?_
     obtain rfl := oi h
     refine WP.ret (Out.one rfl S rfl ?_)
     exact rfl
theorem ref01_ParseParams_ok {w0 : World} {H0 : Hp} (hw : Holds w0 H0) (hG : Tryz.Gl w0) (p_ppend : Str) {r : (Str × (List GParam) × Bool)} (h : ref01_ParseParams p_ppend = some r) :
  Con Tryz.prog 218 [(str p_ppend)] w0 H0 (fun H' v => ∃ u1 : Value, v = (.tuple ⟨[(str r.1), u1, (boo r.2.2)]⟩) ∧ Sl (α := GParam) H' u1 r.2.1) := by
 refine Con.mk (N := 72) Tryz.func218 rfl rfl (by kernel_rfl) rfl ?_
 have S := St.start hw
 refine WP.s<|WP.g<|WL.a (str []) rfl<|WL.a (.slice none 0 0) rfl<|WL.a (boo false) rfl<|WL.e<|WP.s<|WP.g<|WL.m (str p_ppend) rfl ?_
 obtain ⟨r1, hr1, h⟩ := bindE h
 refine W.call S rfl (ref01_Cut_ok S.holds (hG.post S.post) p_ppend 59 hr1) ?_
 rintro v2 w3 H4 hle5 S R6
 refine WL.a (v2) rfl<|WL.e<|WP.s<|WP.g<|WL.m (v2) rfl ?_
 obtain ⟨x7, hx7, h⟩ := bindE h
 refine W.idx (α := Str) R6 rfl rfl el23 hx7 ?_
 rintro a8 _ hA9 rfl
 refine WL.w (R.loadH (v := str x7) S rfl hA9 lay9 rfl) ?_
 obtain ⟨r10, hr10, h⟩ := bindE h
 refine W.call S rfl (ref01_Trim_ok S.holds (hG.post S.post) x7 hr10) ?_
 rintro v11 w12 H13 hle14 S rfl
 have R6 := Sl.mono R6 hle14
 refine WL.a (str r10) rfl<|WL.e<|WP.s<|WP.s<|WP.g<|WL.m (str r10) rfl<|WL.w (R.eqlS (a := r10) (b := []) rfl rfl)<|WL.e ?_
 rcases condE h with ⟨hc15, h⟩ | ⟨hc15, h⟩
 ·refine WP.condT rfl hc15<|WP.s<|WP.g<|WL.a (str []) rfl<|WL.a (.slice none 0 0) rfl<|WL.a (boo false) rfl<|WL.e ?_
  obtain rfl := oi h
  refine WP.ret (Out.three rfl S rfl rfl rfl ?_)
  exact ⟨_, rfl, Sl.nil⟩
 ·refine WP.condF rfl hc15<|WP.skip<|WP.s<|WP.g<|WL.a (.slice none 0 0) rfl<|WL.e<|WP.s<|WP.s<|WP.g<|WL.a (int 1) rfl<|WL.e ?_
  have S := S.addNil 158 2
  obtain ⟨r34, hr35, h⟩ := bindE h
  refine WP.cut (fun f w => match r34 with | .inl y_27 => ∃ (H25 : Hp) (v28 : Value), f 6 = (str r10) ∧ f 7 = v28 ∧ Sl (α := GParam) H25 v28 y_27 ∧ St w0 H0 w H25 [.row v28 158 2 y_27.length] | .inr _ => False) ?_ ?_
  ·refine WP.block ?_
   refine WP.loopM (ref01_ParseParams_L0 r1) (fun s f w => match s with | (y_19, y_23) => ∃ (H16 : Hp) (v20 : Value), f 5 = v2 ∧ f 6 = (str r10) ∧ f 7 = v20 ∧ f 8 = (int y_23) ∧ Sl (α := Str) H16 v2 r1 ∧ Sl (α := GParam) H16 v20 y_19 ∧ St w0 H0 w H16 [.row v20 158 2 y_19.length]) (([] : List GParam), 1) r34 hr35 ?_ ?_
   ·exact ⟨H13, .slice none 0 0, rfl, rfl, rfl, rfl, R6, Sl.nil, S⟩
   ·intro s f w hI y31 hy32 hy33
    obtain ⟨y_19, y_23⟩ := s
    obtain ⟨H16, v20, h17, h18, h22, h24, R6, R21, S⟩ := hI
    refine WP.s<|WP.s<|WP.g<|WL.m (int y_23) h24<|WL.m (v2) h17<|WL.w (R.lenL (α := Str) (xs := r1) (H := H16) R6 rfl Tryz.underlying23)<|WL.w (R.lss rfl rfl)<|WL.e ?_
    rcases condE hy32 with ⟨hc36, hy32⟩ | ⟨hc36, hy32⟩
    ·refine WP.condT rfl hc36<|WP.skip<|WP.s<|WP.block<|WP.s<|WP.g<|WL.m (v2) h17<|WL.m (int y_23) h24 ?_
     obtain ⟨x37, hx37, hy32⟩ := bindE hy32
     refine W.idx (α := Str) R6 rfl rfl el23 hx37 ?_
     rintro a38 _ hA39 rfl
     refine WL.w (R.loadH (v := str x37) S rfl hA39 lay9 rfl) ?_
     obtain ⟨r40, hr40, hy32⟩ := bindE hy32
     refine W.call S rfl (ref01_Trim_ok S.holds (hG.post S.post) x37 hr40) ?_
     rintro v41 w42 H43 hle44 S rfl
     have R6 := Sl.mono R6 hle44
     have R21 := Sl.mono R21 hle44
     refine WL.a (str r40) rfl<|WL.e<|WP.s<|WP.s<|WP.g<|WL.m (str r40) rfl<|WL.w (R.eqlS (a := r40) (b := []) rfl rfl)<|WL.e ?_
     rcases condE hy32 with ⟨hc45, hy32⟩ | ⟨hc45, hy32⟩
     ·refine WP.condT rfl hc45<|WP.exit<|WP.g<|WL.m (int y_23) h24<|WL.w (R.add rfl rfl)<|WL.a (int (wr (y_23 + 1))) rfl<|WL.e ?_
      obtain rfl := oi hy32
      exact ⟨rfl, ⟨H43, v20, h17, h18, h22, rfl, R6, R21, S⟩⟩
     ·refine WP.condF rfl hc45<|WP.skip<|WP.s<|WP.g<|WL.m (str r40) rfl ?_
      obtain ⟨r46, hr46, hy32⟩ := bindE hy32
      refine W.call S rfl (ref01_Index_ok S.holds (hG.post S.post) r40 61 0 hr46) ?_
      rintro v47 w48 H49 hle50 S rfl
      have R6 := Sl.mono R6 hle50
      have R21 := Sl.mono R21 hle50
      refine WL.a (int r46) rfl<|WL.e<|WP.s<|WP.s<|WP.g<|WL.m (int r46) rfl<|WL.w (R.lss rfl rfl)<|WL.m (boo (decide (r46 < 0))) rfl ?_
      obtain ⟨b59, hg52, hy32⟩ := bindE hy32
      refine WL.grpw 6 [40, 41, 42, 43, 44] 45 (boo b59) (fun w => ∃ H' : Hp, H49.le H' ∧ St w0 H0 w H' [.row v20 158 2 y_19.length]) ?_ ?_
      ·rcases boolE (decide (r46 < 0)) with hb51 | hb51
       ·replace hg52 := condT hg52 hb51
        refine WL.n rfl rfl hb51<|WL.n rfl rfl hb51<|WL.n rfl rfl hb51<|WL.n rfl rfl hb51<|WL.n rfl rfl hb51<|WL.w (R.pickT rfl hb51 rfl) ?_
        exact WL.e ⟨(congrArg boo (oi hg52)), ag, ⟨H49, (Hp.le.refl _), S⟩⟩
       ·replace hg52 := condF hg52 hb51
        refine WL.y rfl rfl hb51<|WL.m (str r40) rfl<|WL.y rfl rfl hb51<|WL.m (int r46) rfl<|WL.y rfl rfl hb51 ?_
        obtain ⟨s53, hs53, hg52⟩ := bindE hg52
        refine WL.w (R.subShi rfl rfl Tryz.underlying9 hs53)<|WL.y rfl rfl hb51 ?_
        obtain ⟨r54, hr54, hg52⟩ := bindE hg52
        refine W.call S rfl (ref01_Token_ok S.holds (hG.post S.post) s53 hr54) ?_
        rintro v55 w56 H57 hle58 S rfl
        have R6 := Sl.mono R6 hle58
        have R21 := Sl.mono R21 hle58
        refine WL.y rfl rfl hb51<|WL.w (R.not rfl)<|WL.w (R.pickF rfl hb51 rfl) ?_
        exact WL.e ⟨(congrArg boo (oi hg52)), ag, ⟨H57, hle58, S⟩⟩
      ·intro us w61 ⟨H60, hle62, S⟩
       have R6 := Sl.mono R6 hle62
       have R21 := Sl.mono R21 hle62
       refine WL.e ?_
       rcases condE hy32 with ⟨hc63, hy32⟩ | ⟨hc63, hy32⟩
       ·refine WP.condT rfl hc63<|WP.s<|WP.g<|WL.a (str []) rfl<|WL.a (.slice none 0 0) rfl<|WL.a (boo false) rfl<|WL.e ?_
        obtain rfl := oi hy32
        obtain rfl := hy33
        obtain rfl := oi h
        refine WP.ret (Out.three rfl S rfl rfl rfl ?_)
        exact ⟨_, rfl, Sl.nil⟩
       ·refine WP.condF rfl hc63<|WP.skip<|WP.s<|WP.g<|WL.m (str r40) rfl<|WL.m (int r46) rfl<|WL.w (R.add rfl rfl) ?_
        obtain ⟨s64, hs64, hy32⟩ := bindE hy32
        refine WL.w (R.subSlo rfl rfl Tryz.underlying9 hs64)<|WL.a (str s64) rfl<|WL.e<|WP.s<|WP.s<|WP.g<|WL.m (str s64) rfl ?_
        obtain ⟨r65, hr65, hy32⟩ := bindE hy32
        refine W.call S rfl (ref01_Token_ok S.holds (hG.post S.post) s64 hr65) ?_
        rintro v66 w67 H68 hle69 S rfl
        have R6 := Sl.mono R6 hle69
        have R21 := Sl.mono R21 hle69
        refine WL.w (R.not rfl)<|WL.e ?_
        obtain ⟨j80, hj79, hy32⟩ := bindE hy32
        refine WP.cut (fun f w => match j80 with | .inl y_77 => ∃ (H70 : Hp), f 5 = v2 ∧ f 6 = (str r10) ∧ f 7 = v20 ∧ f 8 = (int y_23) ∧ f 9 = (str r40) ∧ f 10 = (int r46) ∧ f 11 = (str y_77) ∧ Sl (α := Str) H70 v2 r1 ∧ Sl (α := GParam) H70 v20 y_19 ∧ St w0 H0 w H70 [.row v20 158 2 y_19.length] | .inr _ => False) ?_ ?_
        ·rcases condE hj79 with ⟨hc81, hj79⟩ | ⟨hc81, hj79⟩
         ·refine WP.condT rfl hc81<|WP.s<|WP.g<|WL.m (str s64) rfl ?_
          obtain ⟨r82, hr82, hj79⟩ := bindE hj79
          refine W.call S rfl (ref01_Unquote_ok S.holds (hG.post S.post) s64 hr82) ?_
          rintro v83 w84 H85 hle86 S rfl
          have R6 := Sl.mono R6 hle86
          have R21 := Sl.mono R21 hle86
          refine WL.m (.tuple ⟨[(str r82.1), (boo r82.2)]⟩) rfl<|WL.w (R.ext rfl rfl)<|WL.w (R.ext rfl rfl)<|WL.a (str r82.1) rfl<|WL.a (boo r82.2) rfl<|WL.e<|WP.s<|WP.s<|WP.g<|WL.m (boo r82.2) rfl<|WL.w (R.not rfl)<|WL.e ?_
          rcases condE hj79 with ⟨hc87, hj79⟩ | ⟨hc87, hj79⟩
          ·refine WP.condT rfl hc87<|WP.s<|WP.g<|WL.a (str []) rfl<|WL.a (.slice none 0 0) rfl<|WL.a (boo false) rfl<|WL.e ?_
           obtain rfl := oi hj79
           obtain rfl := oi hy32
           obtain rfl := hy33
           obtain rfl := oi h
           refine WP.ret (Out.three rfl S rfl rfl rfl ?_)
           exact ⟨_, rfl, Sl.nil⟩
          ·refine WP.condF rfl hc87<|WP.skip<|WP.g<|WL.m (str r82.1) rfl<|WL.a (str r82.1) rfl<|WL.e ?_
           obtain rfl := oi hj79
           exact ⟨H85, h17, h18, h22, h24, rfl, rfl, rfl, R6, R21, S⟩
         ·refine WP.condF rfl hc81<|WP.skip ?_
          obtain rfl := oi hj79
          exact ⟨H68, h17, h18, h22, h24, rfl, rfl, rfl, R6, R21, S⟩
        ·intro f w hM
         rcases j80 with y_77 | e
         ·obtain ⟨H70, h71, h72, h73, h74, h75, h76, h78, R6, R21, S⟩ := hM
          refine WP.g<|WL.m (v20) h73<|WL.m (str r40) h75<|WL.m (int r46) h76 ?_
          obtain ⟨s88, hs88, hy32⟩ := bindE hy32
          refine WL.w (R.subShi rfl rfl Tryz.underlying9 hs88) ?_
          obtain ⟨r89, hr89, hy32⟩ := bindE hy32
          refine W.call S rfl (ref01_Lower_ok S.holds (hG.post S.post) s88 hr89) ?_
          rintro v90 w91 H92 hle93 S rfl
          have R6 := Sl.mono R6 hle93
          have R21 := Sl.mono R21 hle93
          refine WL.m (str y_77) h78<|WL.w (R.build [(0, (str r89)), (1, (str y_77))] [(str r89), (str y_77)] bp158 zer158 rfl rfl)<|W.bslice (α := GParam) [(agg [(str r89), (str y_77)])] ([(⟨r89, y_77⟩ : GParam)] : List GParam) S el153 rfl rfl rfl (by decide) (Go.Eng.encS ⟨rfl, rfl⟩ enc0) ?_
          intro u94 w95 H96 hle97 R98 S
          have R6 := Sl.mono R6 hle97
          have R21 := Sl.mono R21 hle97
          obtain ⟨l99, hl99, hy32⟩ := bindE hy32
          refine W.app (α := GParam) (i := 1) S el153 rfl rfl rfl R21 R98 hl99 ?_
          intro v100 w101 H102 hle103 R104 S
          have R6 := Sl.mono R6 hle103
          have R21 := Sl.mono R21 hle103
          refine WL.a (v100) rfl<|WL.e<|WP.g<|WL.m (int y_23) h74<|WL.w (R.add rfl rfl)<|WL.a (int (wr (y_23 + 1))) rfl<|WL.e ?_
          obtain rfl := oi hy32
          exact ⟨rfl, ⟨H102, v100, h71, h72, rfl, rfl, R6, R104, (S.drop _ (.cons _ (.cons_cons _ .slnil)))⟩⟩
         ·exact hM.elim
    ·refine WP.condF rfl hc36<|WP.exit ?_
     obtain rfl := oi hy32
     obtain rfl := hy33
     exact ⟨H16, v20, h18, h22, R21, S⟩
  ·intro f w hM
   rcases r34 with y_27 | e
   ·obtain ⟨H25, v28, h26, h30, R29, S⟩ := hM
    refine WP.s<|WP.g<|WL.m (str r10) h26<|WL.m (v28) h30<|WL.a (str r10) rfl<|WL.a (v28) rfl<|WL.a (boo true) rfl<|WL.e ?_
    obtain rfl := oi h
    refine WP.ret (Out.three rfl S rfl rfl rfl ?_)
    exact ⟨_, rfl, R29⟩
   ·exact hM.elim
theorem ref10_ParseRange_ok {w0 : World} {H0 : Hp} (hw : Holds w0 H0) (hG : Tryz.Gl w0) (p_s : Str) {r : (GMediaType × Bool)} (h : ref10_ParseRange p_s = some r) :
  Con Tryz.prog 193 [(str p_s)] w0 H0 (fun H' v => ∃ u1 : Value, v = (.tuple ⟨[(agg [(str r.1.fType), (str r.1.fSub), u1]), (boo r.2)]⟩) ∧ Sl (α := GParam) H' u1 r.1.fParams) := by
 refine Con.mk (N := 61) Tryz.func193 rfl rfl (by kernel_rfl) rfl ?_
 have S := St.start hw
 refine WP.s<|WP.g<|W.alloc [(str []), (str []), (.slice none 0 0)] S zer155 ?_
 intro b1 w2 S
 refine WL.a (boo false) rfl<|WL.e<|WP.s<|WP.g<|WL.m (str p_s) rfl ?_
 obtain ⟨r3, hr3, h⟩ := bindE h
 refine W.call S rfl (ref01_ParseParams_ok S.holds (hG.post S.post) p_s hr3) ?_
 rintro v4 w5 H6 hle7 S ⟨u8, rfl, R9⟩
 refine WL.m (.tuple ⟨[(str r3.1), u8, (boo r3.2.2)]⟩) rfl<|WL.w (R.ext rfl rfl)<|WL.w (R.ext rfl rfl)<|WL.w (R.ext rfl rfl)<|WL.a (str r3.1) rfl<|WL.a (u8) rfl<|WL.a (boo r3.2.2) rfl<|WL.e<|WP.s<|WP.s<|WP.g<|WL.m (boo r3.2.2) rfl ?_
 refine WL.w (R.not rfl)<|WL.e ?_
 rcases condE h with ⟨hc10, h⟩ | ⟨hc10, h⟩
 ·refine WP.condT rfl hc10<|WP.s<|WP.g<|WL.w (R.build [] [(str []), (str []), (.slice none 0 0)] bp155 zer155 rfl rfl)<|W.store (i := 0) [(str []), (str []), (.slice none 0 0)] S rfl rfl rfl lay155 rfl (AllOne.all (l := [(str []), (str []), (.slice none 0 0)]) (.cons rfl (.cons rfl (.cons rfl .nil)))) (Nat.le_of_ble_eq_true rfl) rfl ?_
  intro w11 S
  refine WL.a (boo false) rfl<|WL.e ?_
  obtain rfl := oi h
  refine WP.ret (Out.two rfl S (Res.cellB (i := 0) (cs := [(str []), (str []), (.slice none 0 0)]) S rfl rfl lay155 rfl rfl) rfl ?_)
  exact ⟨_, rfl, Sl.nil⟩
 ·refine WP.condF rfl hc10<|WP.skip<|WP.s<|WP.g<|WL.m (str r3.1) rfl ?_
  obtain ⟨r12, hr12, h⟩ := bindE h
  refine W.call S rfl (ref01_Index_ok S.holds (hG.post S.post) r3.1 47 0 hr12) ?_
  rintro v13 w14 H15 hle16 S rfl
  have R9 := Sl.mono R9 hle16
  refine WL.a (int r12) rfl<|WL.e<|WP.s<|WP.s<|WP.g<|WL.m (int r12) rfl<|WL.w (R.lss rfl rfl)<|WL.m (boo (decide (r12 < 0))) rfl ?_
  obtain ⟨b25, hg18, h⟩ := bindE h
  refine WL.grpw 6 [22, 23, 24, 25, 26] 27 (boo b25) (fun w => ∃ H' : Hp, H15.le H' ∧ St w0 H0 w H' [.box b1 155 [(str []), (str []), (.slice none 0 0)]]) ?_ ?_
  ·rcases boolE (decide (r12 < 0)) with hb17 | hb17
   ·replace hg18 := condT hg18 hb17
    refine WL.n rfl rfl hb17<|WL.n rfl rfl hb17<|WL.n rfl rfl hb17<|WL.n rfl rfl hb17<|WL.n rfl rfl hb17<|WL.w (R.pickT rfl hb17 rfl) ?_
    exact WL.e ⟨(congrArg boo (oi hg18)), ag, ⟨H15, (Hp.le.refl _), S⟩⟩
   ·replace hg18 := condF hg18 hb17
    refine WL.y rfl rfl hb17<|WL.m (str r3.1) rfl<|WL.y rfl rfl hb17<|WL.m (int r12) rfl<|WL.y rfl rfl hb17 ?_
    obtain ⟨s19, hs19, hg18⟩ := bindE hg18
    refine WL.w (R.subShi rfl rfl Tryz.underlying9 hs19)<|WL.y rfl rfl hb17 ?_
    obtain ⟨r20, hr20, hg18⟩ := bindE hg18
    refine W.call S rfl (ref01_Token_ok S.holds (hG.post S.post) s19 hr20) ?_
    rintro v21 w22 H23 hle24 S rfl
    have R9 := Sl.mono R9 hle24
    refine WL.y rfl rfl hb17<|WL.w (R.not rfl)<|WL.w (R.pickF rfl hb17 rfl) ?_
    exact WL.e ⟨(congrArg boo (oi hg18)), ag, ⟨H23, hle24, S⟩⟩
  ·intro us w27 ⟨H26, hle28, S⟩
   have R9 := Sl.mono R9 hle28
   refine WL.m (boo b25) rfl ?_
   obtain ⟨b37, hg30, h⟩ := bindE h
   refine WL.grpw 7 [29, 30, 31, 32, 33, 34] 35 (boo b37) (fun w => ∃ H' : Hp, H26.le H' ∧ St w0 H0 w H' [.box b1 155 [(str []), (str []), (.slice none 0 0)]]) ?_ ?_
   ·rcases boolE b25 with hb29 | hb29
    ·replace hg30 := condT hg30 hb29
     refine WL.n rfl rfl hb29<|WL.n rfl rfl hb29<|WL.n rfl rfl hb29<|WL.n rfl rfl hb29<|WL.n rfl rfl hb29<|WL.n rfl rfl hb29<|WL.w (R.pickT rfl hb29 rfl) ?_
     exact WL.e ⟨(congrArg boo (oi hg30)), ag, ⟨H26, (Hp.le.refl _), S⟩⟩
    ·replace hg30 := condF hg30 hb29
     refine WL.y rfl rfl hb29<|WL.m (str r3.1) rfl<|WL.y rfl rfl hb29<|WL.m (int r12) rfl<|WL.y rfl rfl hb29<|WL.w (R.add rfl rfl)<|WL.y rfl rfl hb29 ?_
     obtain ⟨s31, hs31, hg30⟩ := bindE hg30
     refine WL.w (R.subSlo rfl rfl Tryz.underlying9 hs31)<|WL.y rfl rfl hb29 ?_
     obtain ⟨r32, hr32, hg30⟩ := bindE hg30
     refine W.call S rfl (ref01_Token_ok S.holds (hG.post S.post) s31 hr32) ?_
     rintro v33 w34 H35 hle36 S rfl
     have R9 := Sl.mono R9 hle36
     refine WL.y rfl rfl hb29<|WL.w (R.not rfl)<|WL.w (R.pickF rfl hb29 rfl) ?_
     exact WL.e ⟨(congrArg boo (oi hg30)), ag, ⟨H35, hle36, S⟩⟩
   ·intro us w39 ⟨H38, hle40, S⟩
    have R9 := Sl.mono R9 hle40
    refine WL.m (boo b37) rfl ?_
    obtain ⟨b48, hg42, h⟩ := bindE h
    refine WL.grp 12 [37, 38, 39, 40, 41, 42, 43, 44, 45, 46, 47] 48 (boo b48) ?_ ?_
    ·rcases boolE b37 with hb41 | hb41
     ·replace hg42 := condT hg42 hb41
      refine WL.n rfl rfl hb41<|WL.n rfl rfl hb41<|WL.n rfl rfl hb41<|WL.n rfl rfl hb41<|WL.n rfl rfl hb41<|WL.gund rfl rfl<|WL.gund rfl rfl<|WL.gund rfl rfl<|WL.gund rfl rfl<|WL.gund rfl rfl<|WL.n rfl rfl hb41<|WL.w (R.pickT rfl hb41 rfl) ?_
      exact WL.e ⟨(congrArg boo (oi hg42)), ag, rfl⟩
     ·replace hg42 := condF hg42 hb41
      refine WL.y rfl rfl hb41<|WL.m (str r3.1) rfl<|WL.y rfl rfl hb41<|WL.m (int r12) rfl<|WL.y rfl rfl hb41 ?_
      obtain ⟨s43, hs43, hg42⟩ := bindE hg42
      refine WL.w (R.subShi rfl rfl Tryz.underlying9 hs43)<|WL.y rfl rfl hb41<|WL.w (R.eqlS (a := s43) (b := [42]) rfl rfl)<|WL.y rfl rfl hb41<|WL.m (boo (s43 == [42])) rfl ?_
      obtain ⟨b47, hg45, hg42⟩ := bindE hg42
      refine WL.grp 6 [42, 43, 44, 45, 46] 47 (boo b47) ?_ ?_
      ·rcases boolE (s43 == [42]) with hb44 | hb44
       ·replace hg45 := condT hg45 hb44
        refine WL.y rfl rfl hb44<|WL.m (str r3.1) rfl<|WL.y rfl rfl hb44<|WL.m (int r12) rfl<|WL.y rfl rfl hb44<|WL.w (R.add rfl rfl)<|WL.y rfl rfl hb44 ?_
        obtain ⟨s46, hs46, hg45⟩ := bindE hg45
        refine WL.w (R.subSlo rfl rfl Tryz.underlying9 hs46)<|WL.y rfl rfl hb44<|WL.w (R.neqS (a := s46) (b := [42]) rfl rfl)<|WL.y rfl rfl hb41<|WL.w (R.pickT rfl hb44 rfl) ?_
        exact WL.e ⟨(congrArg boo (oi hg45)), ag, rfl⟩
       ·replace hg45 := condF hg45 hb44
        refine WL.n rfl rfl hb44<|WL.n rfl rfl hb44<|WL.n rfl rfl hb44<|WL.n rfl rfl hb44<|WL.n rfl rfl hb44<|WL.y rfl rfl hb41<|WL.w (R.pickF rfl hb44 rfl) ?_
        exact WL.e ⟨(congrArg boo (oi hg45)), ag, rfl⟩
      ·intro us
       refine WL.w (R.pickF rfl hb41 rfl) ?_
       exact WL.e ⟨(congrArg boo (oi hg42)), ag, rfl⟩
    ·intro us
     refine WL.e ?_
     rcases condE h with ⟨hc49, h⟩ | ⟨hc49, h⟩
     ·refine WP.condT rfl hc49<|WP.s<|WP.g<|WL.w (R.build [] [(str []), (str []), (.slice none 0 0)] bp155 zer155 rfl rfl)<|W.store (i := 0) [(str []), (str []), (.slice none 0 0)] S rfl rfl rfl lay155 rfl (AllOne.all (l := [(str []), (str []), (.slice none 0 0)]) (.cons rfl (.cons rfl (.cons rfl .nil)))) (Nat.le_of_ble_eq_true rfl) rfl ?_
      intro w50 S
      refine WL.a (boo false) rfl<|WL.e ?_
      obtain rfl := oi h
      refine WP.ret (Out.two rfl S (Res.cellB (i := 0) (cs := [(str []), (str []), (.slice none 0 0)]) S rfl rfl lay155 rfl rfl) rfl ?_)
      exact ⟨_, rfl, Sl.nil⟩
     ·refine WP.condF rfl hc49<|WP.skip<|WP.s<|WP.quietTail 11 S (by kernel_rfl) (by kernel_rfl)<|WQ.val (fun _ _ => (R.mv (v := str r3.1) rfl))<|WQ.val (fun _ _ => (R.mv (v := int r12) rfl)) ?_
      obtain ⟨s54, hs54, h⟩ := bindE h
      refine WQ.val (fun _ _ => (R.subShi rfl rfl Tryz.underlying9 hs54)) ?_
      obtain ⟨r55, hr55, h⟩ := bindE h
      refine WQ.call (v := str r55) rfl (fun w H' hq S => ref01_Lower_ok S.holds (hG.post S.post) s54 hr55)<|WQ.val (fun _ _ => (R.mv (v := str r3.1) rfl))<|WQ.val (fun _ _ => (R.mv (v := int r12) rfl))<|WQ.val (fun _ _ => (R.add rfl rfl)) ?_
      obtain ⟨s60, hs60, h⟩ := bindE h
      refine WQ.val (fun _ _ => (R.subSlo rfl rfl Tryz.underlying9 hs60)) ?_
      obtain ⟨r61, hr61, h⟩ := bindE h
      refine WQ.call (v := str r61) rfl (fun w H' hq S => ref01_Lower_ok S.holds (hG.post S.post) s60 hr61)<|WQ.val (fun _ _ => (R.mv (v := u8) rfl))<|WQ.val (fun _ _ => (R.build [(0, (str r55)), (1, (str r61)), (2, u8)] [(str r55), (str r61), u8] bp155 zer155 rfl (by obtain ⟨_, _, rfl, _⟩ := R9; rfl)))<|WQ.nil ?_
      intro w51 H52 hle53 S
      have R9 := Sl.mono R9 hle53
      refine W.store (i := 0) [(str r55), (str r61), u8] S rfl rfl rfl lay155 rfl (AllOne.all (l := [(str r55), (str r61), u8]) (.cons rfl (.cons rfl (.cons (Sl.oneC R9) .nil)))) (Nat.le_of_ble_eq_true rfl) rfl ?_
      intro w66 S
      refine WL.a (boo true) rfl<|WL.e ?_
      obtain rfl := oi h
      refine WP.ret (Out.two rfl S (Res.cellB (i := 0) (cs := [(str r55), (str r61), u8]) S rfl rfl lay155 rfl rfl) rfl ?_)
      exact ⟨_, rfl, R9⟩
theorem ref10_ParseType_ok {w0 : World} {H0 : Hp} (hw : Holds w0 H0) (hG : Tryz.Gl w0) (p_s : Str) {r : (GMediaType × Bool)} (h : ref10_ParseType p_s = some r) :
  Con Tryz.prog 152 [(str p_s)] w0 H0 (fun H' v => ∃ u1 : Value, v = (.tuple ⟨[(agg [(str r.1.fType), (str r.1.fSub), u1]), (boo r.2)]⟩) ∧ Sl (α := GParam) H' u1 r.1.fParams) := by
 refine Con.mk (N := 25) Tryz.func152 rfl rfl (by kernel_rfl) rfl ?_
 have S := St.start hw
 refine WP.s<|WP.g<|W.alloc [(str []), (str []), (.slice none 0 0)] S zer155 ?_
 intro b1 w2 S
 refine WL.a (boo false) rfl<|WL.e<|WP.s<|WP.g<|WL.m (str p_s) rfl ?_
 obtain ⟨r3, hr3, h⟩ := bindE h
 refine W.call S rfl (ref10_ParseRange_ok S.holds (hG.post S.post) p_s hr3) ?_
 rintro v4 w5 H6 hle7 S ⟨u8, rfl, R9⟩
 refine WL.m (.tuple ⟨[(agg [(str r3.1.fType), (str r3.1.fSub), u8]), (boo r3.2)]⟩) rfl<|WL.w (R.ext rfl rfl)<|WL.w (R.ext rfl rfl)<|W.alloc [(str []), (str []), (.slice none 0 0)] S zer155 ?_
 intro b10 w11 S
 refine W.store (i := 0) [(str r3.1.fType), (str r3.1.fSub), u8] S rfl rfl rfl lay155 rfl (AllOne.all (l := [(str r3.1.fType), (str r3.1.fSub), u8]) (.cons rfl (.cons rfl (.cons (Sl.oneC R9) .nil)))) (Nat.le_of_ble_eq_true rfl) rfl ?_
 intro w12 S
 refine WL.a (boo r3.2) rfl<|WL.e<|WP.s<|WP.s<|WP.g<|WL.m (boo r3.2) rfl<|WL.w (R.not rfl)<|WL.m (boo (!r3.2)) rfl ?_
 refine WL.grp 4 [14, 15, 16] 17 (boo ((!r3.2) || (r3.1.fType == [42]))) ?_ ?_
 ·rcases boolE (!r3.2) with hb13 | hb13
  ·refine WL.n rfl rfl hb13<|WL.n rfl rfl hb13<|WL.n rfl rfl hb13<|WL.w (R.pickT rfl hb13 rfl) ?_
   exact WL.e ⟨(orT hb13), ag, rfl⟩
  ·refine WL.y rfl rfl hb13<|WL.w (R.fieldB rfl fld155_0)<|WL.y rfl rfl hb13<|WL.w (R.loadB (i := 0) (v := str r3.1.fType) S rfl rfl lay9 rfl)<|WL.y rfl rfl hb13<|WL.w (R.eqlS (a := r3.1.fType) (b := [42]) rfl rfl)<|WL.w (R.pickF rfl hb13 rfl) ?_
   exact WL.e ⟨(orF hb13), ag, rfl⟩
 ·intro us
  refine WL.m (boo ((!r3.2) || (r3.1.fType == [42]))) rfl ?_
  refine WL.grp 4 [19, 20, 21] 22 (boo (((!r3.2) || (r3.1.fType == [42])) || (r3.1.fSub == [42]))) ?_ ?_
  ·rcases boolE ((!r3.2) || (r3.1.fType == [42])) with hb15 | hb15
   ·refine WL.n rfl rfl hb15<|WL.n rfl rfl hb15<|WL.n rfl rfl hb15<|WL.w (R.pickT rfl hb15 rfl) ?_
    exact WL.e ⟨(orT hb15), ag, rfl⟩
   ·refine WL.y rfl rfl hb15<|WL.w (R.fieldB rfl fld155_1)<|WL.y rfl rfl hb15<|WL.w (R.loadB (i := 0) (v := str r3.1.fSub) S rfl rfl lay9 rfl)<|WL.y rfl rfl hb15<|WL.w (R.eqlS (a := r3.1.fSub) (b := [42]) rfl rfl)<|WL.w (R.pickF rfl hb15 rfl) ?_
    exact WL.e ⟨(orF hb15), ag, rfl⟩
  ·intro us
   refine WL.e ?_
   rcases condE h with ⟨hc17, h⟩ | ⟨hc17, h⟩
   ·refine WP.condT rfl hc17<|WP.s<|WP.g<|WL.w (R.build [] [(str []), (str []), (.slice none 0 0)] bp155 zer155 rfl rfl)<|W.store (i := 1) [(str []), (str []), (.slice none 0 0)] S rfl rfl rfl lay155 rfl (AllOne.all (l := [(str []), (str []), (.slice none 0 0)]) (.cons rfl (.cons rfl (.cons rfl .nil)))) (Nat.le_of_ble_eq_true rfl) rfl ?_
    intro w18 S
    refine WL.a (boo false) rfl<|WL.e ?_
    obtain rfl := oi h
    refine WP.ret (Out.two rfl S (Res.cellB (i := 1) (cs := [(str []), (str []), (.slice none 0 0)]) S rfl rfl lay155 rfl rfl) rfl ?_)
    exact ⟨_, rfl, Sl.nil⟩
   ·refine WP.condF rfl hc17<|WP.skip<|WP.s<|WP.g<|WL.w (R.loadBN (i := 0) (vs := [(str r3.1.fType), (str r3.1.fSub), u8]) S rfl rfl lay155 rfl rfl)<|W.store (i := 1) [(str r3.1.fType), (str r3.1.fSub), u8] S rfl rfl rfl lay155 rfl (AllOne.all (l := [(str r3.1.fType), (str r3.1.fSub), u8]) (.cons rfl (.cons rfl (.cons (Sl.oneC R9) .nil)))) (Nat.le_of_ble_eq_true rfl) rfl ?_
    intro w19 S
    refine WL.a (boo true) rfl<|WL.e ?_
    obtain rfl := oi h
    refine WP.ret (Out.two rfl S (Res.cellB (i := 1) (cs := [(str r3.1.fType), (str r3.1.fSub), u8]) S rfl rfl lay155 rfl rfl) rfl ?_)
    exact ⟨_, rfl, R9⟩
theorem ref10_subtags_ok {w0 : World} {H0 : Hp} (hw : Holds w0 H0) (hG : Tryz.Gl w0) (p_s : Str) {r : (List Str)} (h : ref10_subtags p_s = some r) :
  Con Tryz.prog 194 [(str p_s)] w0 H0 (fun H' v => Sl (α := Str) H' v r) := by
 refine Con.mk (N := 23) Tryz.func194 rfl rfl (by kernel_rfl) rfl ?_
 have S := St.start hw
 refine WP.s<|WP.g<|WL.a (.slice none 0 0) rfl<|WL.e<|WP.s<|WP.g<|WL.a (.slice none 0 0) rfl<|WL.e ?_
 have S := S.addNil 9 1
 obtain ⟨r11, hr12, h⟩ := bindE h
 refine WP.cut (fun _ _ => False) ?_ (fun _ _ h => h.elim)
 refine WP.block ?_
 refine WP.loopM (ref10_subtags_L0) (fun s f w => match s with | (s_2, out_4) => ∃ (H1 : Hp) (v5 : Value), f 0 = (str s_2) ∧ f 3 = v5 ∧ Sl (α := Str) H1 v5 out_4 ∧ St w0 H0 w H1 [.row v5 9 1 out_4.length]) (p_s, ([] : List Str)) r11 hr12 ?_ ?_
 ·exact ⟨H0, .slice none 0 0, rfl, rfl, Sl.nil, S⟩
 ·intro s f w hI y8 hy9 hy10
  obtain ⟨s_2, out_4⟩ := s
  obtain ⟨H1, v5, h3, h7, R6, S⟩ := hI
  refine WP.block<|WP.s<|WP.g<|WL.m (str s_2) h3 ?_
  obtain ⟨r13, hr13, hy9⟩ := bindE hy9
  refine W.call S rfl (ref01_Index_ok S.holds (hG.post S.post) s_2 45 0 hr13) ?_
  rintro v14 w15 H16 hle17 S rfl
  have R6 := Sl.mono R6 hle17
  refine WL.a (int r13) rfl<|WL.e<|WP.s<|WP.s<|WP.g<|WL.m (int r13) rfl<|WL.w (R.lss rfl rfl)<|WL.e ?_
  rcases condE hy9 with ⟨hc18, hy9⟩ | ⟨hc18, hy9⟩
  ·refine WP.condT rfl hc18<|WP.s<|WP.g<|WL.m (v5) h7<|WL.m (str s_2) h3<|W.bslice (α := Str) [(str s_2)] ([s_2] : List Str) S el23 rfl rfl rfl (by decide) (Go.Eng.encS ⟨rfl, rfl⟩ enc0) ?_
   intro u19 w20 H21 hle22 R23 S
   have R6 := Sl.mono R6 hle22
   obtain ⟨l24, hl24, hy9⟩ := bindE hy9
   refine W.app (α := Str) (i := 1) S el23 rfl rfl rfl R6 R23 hl24 ?_
   intro v25 w26 H27 hle28 R29 S
   have R6 := Sl.mono R6 hle28
   refine WL.a (v25) rfl<|WL.e ?_
   obtain rfl := oi hy9
   obtain rfl := hy10
   obtain rfl := oi h
   refine WP.ret (Out.one rfl S rfl ?_)
   exact R29
  ·refine WP.condF rfl hc18<|WP.skip<|WP.draw (by kernel_rfl) 12 rfl #[false, false, false, false, false, false, false, false, false, false, false, false] rfl ?_
   have S := S.drew
   refine WA.take (i := 0) #[true, false, false, false, false, false, false, false, false, false, false, false] rfl (by kernel_rfl) (by kernel_rfl) (by kernel_rfl) rfl (fun _ => (R.mv (v := v5) h7))<|WA.take (i := 1) #[true, true, false, false, false, false, false, false, false, false, false, false] rfl (by kernel_rfl) (by kernel_rfl) (by kernel_rfl) rfl (fun _ => (R.mv (v := str s_2) h3))<|WA.take (i := 2) #[true, true, true, false, false, false, false, false, false, false, false, false] rfl (by kernel_rfl) (by kernel_rfl) (by kernel_rfl) rfl (fun _ => (R.mv (v := int r13) rfl)) ?_
   obtain ⟨s30, hs30, hy9⟩ := bindE hy9
   refine WA.take (i := 3) #[true, true, true, true, false, false, false, false, false, false, false, false] rfl (by kernel_rfl) (by kernel_rfl) (by kernel_rfl) rfl (fun _ => (R.subShi rfl rfl Tryz.underlying9 hs30))<|WA.take (i := 6) #[true, true, true, true, false, false, true, false, false, false, false, false] rfl (by kernel_rfl) (by kernel_rfl) (by kernel_rfl) rfl (fun _ => (R.mv (v := str s_2) h3))<|WA.take (i := 7) #[true, true, true, true, false, false, true, true, false, false, false, false] rfl (by kernel_rfl) (by kernel_rfl) (by kernel_rfl) rfl (fun _ => (R.mv (v := int r13) rfl))<|WA.take (i := 8) #[true, true, true, true, false, false, true, true, true, false, false, false] rfl (by kernel_rfl) (by kernel_rfl) (by kernel_rfl) rfl (fun _ => (R.add rfl rfl)) ?_
   obtain ⟨s31, hs31, hy9⟩ := bindE hy9
   refine WA.take (i := 9) #[true, true, true, true, false, false, true, true, true, true, false, false] rfl (by kernel_rfl) (by kernel_rfl) (by kernel_rfl) rfl (fun _ => (R.subSlo rfl rfl Tryz.underlying9 hs31))<|WA.one (i := 4) #[true, true, true, true, true, false, true, true, true, true, false, false] rfl (by kernel_rfl) rfl<|W.bslice (α := Str) [(str s30)] ([s30] : List Str) S el23 rfl rfl rfl (by decide) (Go.Eng.encS ⟨rfl, rfl⟩ enc0) ?_
   intro u32 w33 H34 hle35 R36 S
   have R6 := Sl.mono R6 hle35
   refine WL.e<|WA.one (i := 5) #[true, true, true, true, true, true, true, true, true, true, false, false] rfl (by kernel_rfl) rfl ?_
   obtain ⟨l37, hl37, hy9⟩ := bindE hy9
   refine W.app (α := Str) (i := 1) S el23 rfl rfl rfl R6 R36 hl37 ?_
   intro v38 w39 H40 hle41 R42 S
   refine WL.e<|WA.take (i := 10) #[true, true, true, true, true, true, true, true, true, true, true, false] rfl (by kernel_rfl) (by kernel_rfl) (by kernel_rfl) rfl (fun _ => (R.as (v := v38) rfl))<|WA.take (i := 11) #[true, true, true, true, true, true, true, true, true, true, true, true] rfl (by kernel_rfl) (by kernel_rfl) (by kernel_rfl) rfl (fun _ => (R.as (v := str s31) rfl))<|WA.done (by kernel_rfl) ?_
   obtain rfl := oi hy9
   exact ⟨rfl, ⟨H40, v38, rfl, rfl, R42, (S.drop _ (.cons _ (.cons_cons _ .slnil)))⟩⟩
theorem ref01_Digit_ok {w0 : World} {H0 : Hp} (hw : Holds w0 H0) (hG : Tryz.Gl w0) (p_c : UInt8) {r : Bool} (h : ref01_Digit p_c = some r) :
  Con Tryz.prog 76 [(byt p_c)] w0 H0 (fun H' v => v = (boo r)) := by
 refine Con.mk (N := 9) Tryz.func76 rfl rfl (by kernel_rfl) rfl ?_
 have S := St.start hw
 refine WP.s<|WP.g<|WL.a (boo false) rfl<|WL.e<|WP.s<|WP.g<|WL.m (byt p_c) rfl<|WL.w (R.geq8 (a := p_c) (b := 48) rfl rfl)<|WL.m (boo (decide (48 ≤ p_c))) rfl ?_
 refine WL.grp 3 [6, 7] 8 (boo ((decide (48 ≤ p_c)) && (decide (p_c ≤ 57)))) ?_ ?_
 ·rcases boolE (decide (48 ≤ p_c)) with hb1 | hb1
  ·refine WL.y rfl rfl hb1<|WL.m (byt p_c) rfl<|WL.y rfl rfl hb1<|WL.w (R.leq8 (a := p_c) (b := 57) rfl rfl)<|WL.w (R.pickT rfl hb1 rfl) ?_
   exact WL.e ⟨(andT hb1), ag, rfl⟩
  ·refine WL.n rfl rfl hb1<|WL.n rfl rfl hb1<|WL.w (R.pickF rfl hb1 rfl) ?_
   exact WL.e ⟨(andF hb1), ag, rfl⟩
 ·intro us
  refine WL.a (boo ((decide (48 ≤ p_c)) && (decide (p_c ≤ 57)))) rfl<|WL.e ?_
  obtain rfl := oi h
  refine WP.ret (Out.one rfl S rfl ?_)
  exact rfl
end Go.Proofs
