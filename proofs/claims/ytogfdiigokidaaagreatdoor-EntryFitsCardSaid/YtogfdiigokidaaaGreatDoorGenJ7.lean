/- A part of the proof of laws of the seat: written by program over the translation. -/
import Derived.Test.YtogfdiigokidaaaGreatDoorPure1
import Derived.Test.YtogfdiigokidaaaGreatDoorGenJ6
namespace Go.Proofs
set_option maxHeartbeats 4000000
set_option maxRecDepth 10000
open Go.Eng Go.Eng.Pure
set_option linter.unusedVariables false
theorem ref01_Index_ok {w0 : World} {H0 : Hp} (hw : Holds w0 H0) (hG : Tryz.Gl w0) (p_s : Str) (p_c : UInt8) (p_from : Int) {r : Int} (h : ref01_Index p_s p_c p_from = some r) :
  Con Tryz.prog 98 [(str p_s), (byt p_c), (int p_from)] w0 H0 (fun H' v => v = (int r)) := by
 refine Con.mk (N := 21) Tryz.func98 rfl rfl (by kernel_rfl) rfl ?_
 have S := St.start hw
 refine WP.s<|WP.g<|WL.a (int 0) rfl<|WL.e<|WP.s<|WP.s<|WP.g<|WL.m (int p_from) rfl<|WL.a (int p_from) rfl<|WL.e ?_
 obtain ⟨r10, hr11, h⟩ := bindE h
 refine WP.cut (fun f w => match r10 with | .inl _ => ∃ (H6 : Hp), St w0 H0 w H6 [] | .inr _ => False) ?_ ?_
 ·refine WP.block ?_
  refine WP.loopM (ref01_Index_L0 p_s p_c) (fun s f w => match s with | i_4 => ∃ (H1 : Hp), f 0 = (str p_s) ∧ f 1 = (byt p_c) ∧ f 7 = (int i_4) ∧ St w0 H0 w H1 []) p_from r10 hr11 ?_ ?_
  ·exact ⟨H0, rfl, rfl, rfl, S⟩
  ·intro i_4 f w hI y7 hy8 hy9
   obtain ⟨H1, h2, h3, h5, S⟩ := hI
   refine WP.s<|WP.s<|WP.g<|WL.m (int i_4) h5<|WL.m (str p_s) h2<|WL.w (R.lenS (a := p_s) rfl Tryz.underlying9)<|WL.w (R.lss rfl rfl)<|WL.e ?_
   rcases condE hy8 with ⟨hc12, hy8⟩ | ⟨hc12, hy8⟩
   ·refine WP.condT rfl hc12<|WP.skip<|WP.s<|WP.block<|WP.s<|WP.g<|WL.m (str p_s) h2<|WL.m (int i_4) h5 ?_
    obtain ⟨c13, hc13, hy8⟩ := bindE hy8
    refine WL.w (R.idxS rfl rfl Tryz.underlying9 hc13)<|WL.m (byt p_c) h3<|WL.w (R.eql8 (a := c13) (b := p_c) rfl rfl)<|WL.e ?_
    rcases condE hy8 with ⟨hc14, hy8⟩ | ⟨hc14, hy8⟩
    ·refine WP.condT rfl hc14<|WP.s<|WP.g<|WL.m (int i_4) h5<|WL.a (int i_4) rfl<|WL.e ?_
     obtain rfl := oi hy8
     obtain rfl := hy9
     obtain rfl := oi h
     refine WP.ret (Out.one rfl S rfl ?_)
     exact rfl
    ·refine WP.condF rfl hc14<|WP.skip<|WP.g<|WL.m (int i_4) h5<|WL.w (R.add rfl rfl)<|WL.a (int (wr (i_4 + 1))) rfl<|WL.e ?_
     obtain rfl := oi hy8
     exact ⟨rfl, ⟨H1, h2, h3, rfl, S⟩⟩
   ·refine WP.condF rfl hc12<|WP.exit ?_
    obtain rfl := oi hy8
    obtain rfl := hy9
    exact ⟨H1, S⟩
 ·intro f w hM
  rcases r10 with _ | e
  ·obtain ⟨H6, S⟩ := hM
   refine WP.s<|WP.g<|WL.a (int (-1)) rfl<|WL.e ?_
   obtain rfl := oi h
   refine WP.ret (Out.one rfl S rfl ?_)
   exact rfl
  ·exact hM.elim
theorem ref01_TokenByte_ok {w0 : World} {H0 : Hp} (hw : Holds w0 H0) (hG : Tryz.Gl w0) (p_c : UInt8) {r : Bool} (h : ref01_TokenByte p_c = some r) :
  Con Tryz.prog 145 [(byt p_c)] w0 H0 (fun H' v => v = (boo r)) := by
 refine Con.mk (N := 34) Tryz.func145 rfl rfl (by kernel_rfl) rfl ?_
 have S := St.start hw
 refine WP.s<|WP.g<|WL.a (boo false) rfl<|WL.e<|WP.s<|WP.s<|WP.g<|WL.m (byt p_c) rfl<|WL.w (R.geq8 (a := p_c) (b := 97) rfl rfl)<|WL.m (boo (decide (97 ≤ p_c))) rfl ?_
 refine WL.grp 3 [7, 8] 9 (boo ((decide (97 ≤ p_c)) && (decide (p_c ≤ 122)))) ?_ ?_
 ·rcases boolE (decide (97 ≤ p_c)) with hb1 | hb1
  ·refine WL.y rfl rfl hb1<|WL.m (byt p_c) rfl<|WL.y rfl rfl hb1<|WL.w (R.leq8 (a := p_c) (b := 122) rfl rfl)<|WL.w (R.pickT rfl hb1 rfl) ?_
   exact WL.e ⟨(andT hb1), ag, rfl⟩
  ·refine WL.n rfl rfl hb1<|WL.n rfl rfl hb1<|WL.w (R.pickF rfl hb1 rfl) ?_
   exact WL.e ⟨(andF hb1), ag, rfl⟩
 ·intro us
  refine WL.m (boo ((decide (97 ≤ p_c)) && (decide (p_c ≤ 122)))) rfl ?_
  refine WL.grp 7 [11, 12, 13, 14, 15, 16] 17 (boo (((decide (97 ≤ p_c)) && (decide (p_c ≤ 122))) || ((decide (65 ≤ p_c)) && (decide (p_c ≤ 90))))) ?_ ?_
  ·rcases boolE ((decide (97 ≤ p_c)) && (decide (p_c ≤ 122))) with hb3 | hb3
   ·refine WL.n rfl rfl hb3<|WL.n rfl rfl hb3<|WL.n rfl rfl hb3<|WL.gund rfl rfl<|WL.gund rfl rfl<|WL.n rfl rfl hb3<|WL.w (R.pickT rfl hb3 rfl) ?_
    exact WL.e ⟨(orT hb3), ag, rfl⟩
   ·refine WL.y rfl rfl hb3<|WL.m (byt p_c) rfl<|WL.y rfl rfl hb3<|WL.w (R.geq8 (a := p_c) (b := 65) rfl rfl)<|WL.y rfl rfl hb3<|WL.m (boo (decide (65 ≤ p_c))) rfl ?_
    refine WL.grp 3 [14, 15] 16 (boo ((decide (65 ≤ p_c)) && (decide (p_c ≤ 90)))) ?_ ?_
    ·rcases boolE (decide (65 ≤ p_c)) with hb5 | hb5
     ·refine WL.y rfl rfl hb5<|WL.m (byt p_c) rfl<|WL.y rfl rfl hb5<|WL.w (R.leq8 (a := p_c) (b := 90) rfl rfl)<|WL.y rfl rfl hb3<|WL.w (R.pickT rfl hb5 rfl) ?_
      exact WL.e ⟨(andT hb5), ag, rfl⟩
     ·refine WL.n rfl rfl hb5<|WL.n rfl rfl hb5<|WL.y rfl rfl hb3<|WL.w (R.pickF rfl hb5 rfl) ?_
      exact WL.e ⟨(andF hb5), ag, rfl⟩
    ·intro us
     refine WL.w (R.pickF rfl hb3 rfl) ?_
     exact WL.e ⟨(orF hb3), ag, rfl⟩
  ·intro us
   refine WL.m (boo (((decide (97 ≤ p_c)) && (decide (p_c ≤ 122))) || ((decide (65 ≤ p_c)) && (decide (p_c ≤ 90))))) rfl ?_
   refine WL.grp 7 [19, 20, 21, 22, 23, 24] 25 (boo ((((decide (97 ≤ p_c)) && (decide (p_c ≤ 122))) || ((decide (65 ≤ p_c)) && (decide (p_c ≤ 90)))) || ((decide (48 ≤ p_c)) && (decide (p_c ≤ 57))))) ?_ ?_
   ·rcases boolE (((decide (97 ≤ p_c)) && (decide (p_c ≤ 122))) || ((decide (65 ≤ p_c)) && (decide (p_c ≤ 90)))) with hb7 | hb7
    ·refine WL.n rfl rfl hb7<|WL.n rfl rfl hb7<|WL.n rfl rfl hb7<|WL.gund rfl rfl<|WL.gund rfl rfl<|WL.n rfl rfl hb7<|WL.w (R.pickT rfl hb7 rfl) ?_
     exact WL.e ⟨(orT hb7), ag, rfl⟩
    ·refine WL.y rfl rfl hb7<|WL.m (byt p_c) rfl<|WL.y rfl rfl hb7<|WL.w (R.geq8 (a := p_c) (b := 48) rfl rfl)<|WL.y rfl rfl hb7<|WL.m (boo (decide (48 ≤ p_c))) rfl ?_
     refine WL.grp 3 [22, 23] 24 (boo ((decide (48 ≤ p_c)) && (decide (p_c ≤ 57)))) ?_ ?_
     ·rcases boolE (decide (48 ≤ p_c)) with hb9 | hb9
      ·refine WL.y rfl rfl hb9<|WL.m (byt p_c) rfl<|WL.y rfl rfl hb9<|WL.w (R.leq8 (a := p_c) (b := 57) rfl rfl)<|WL.y rfl rfl hb7<|WL.w (R.pickT rfl hb9 rfl) ?_
       exact WL.e ⟨(andT hb9), ag, rfl⟩
      ·refine WL.n rfl rfl hb9<|WL.n rfl rfl hb9<|WL.y rfl rfl hb7<|WL.w (R.pickF rfl hb9 rfl) ?_
       exact WL.e ⟨(andF hb9), ag, rfl⟩
     ·intro us
      refine WL.w (R.pickF rfl hb7 rfl) ?_
      exact WL.e ⟨(orF hb7), ag, rfl⟩
   ·intro us
    refine WL.e ?_
    rcases condE h with ⟨hc11, h⟩ | ⟨hc11, h⟩
    ·refine WP.condT rfl hc11<|WP.s<|WP.g<|WL.a (boo true) rfl<|WL.e ?_
     obtain rfl := oi h
     refine WP.ret (Out.one rfl S rfl ?_)
     exact rfl
    ·refine WP.condF rfl hc11<|WP.skip<|WP.s<|WP.s<|WP.g<|WL.a (int 0) rfl<|WL.e ?_
     obtain ⟨r20, hr21, h⟩ := bindE h
     refine WP.cut (fun f w => match r20 with | .inl _ => ∃ (H16 : Hp), St w0 H0 w H16 [] | .inr _ => False) ?_ ?_
     ·refine WP.block ?_
      refine WP.loopM (ref01_TokenByte_L0 p_c) (fun s f w => match s with | i_14 => ∃ (H12 : Hp), f 0 = (byt p_c) ∧ f 3 = (int i_14) ∧ St w0 H0 w H12 []) 0 r20 hr21 ?_ ?_
      ·exact ⟨H0, rfl, rfl, S⟩
      ·intro i_14 f w hI y17 hy18 hy19
       obtain ⟨H12, h13, h15, S⟩ := hI
       refine WP.s<|WP.s<|WP.g<|WL.m (int i_14) h15<|WL.w (R.lss rfl rfl)<|WL.e ?_
       rcases condE hy18 with ⟨hc22, hy18⟩ | ⟨hc22, hy18⟩
       ·refine WP.condT rfl hc22<|WP.skip<|WP.s<|WP.block<|WP.s<|WP.g<|WL.m (int i_14) h15 ?_
        obtain ⟨c23, hc23, hy18⟩ := bindE hy18
        refine WL.w (R.idxS rfl rfl Tryz.underlying9 hc23)<|WL.m (byt p_c) h13<|WL.w (R.eql8 (a := c23) (b := p_c) rfl rfl)<|WL.e ?_
        rcases condE hy18 with ⟨hc24, hy18⟩ | ⟨hc24, hy18⟩
        ·refine WP.condT rfl hc24<|WP.s<|WP.g<|WL.a (boo true) rfl<|WL.e ?_
         obtain rfl := oi hy18
         obtain rfl := hy19
         obtain rfl := oi h
         refine WP.ret (Out.one rfl S rfl ?_)
         exact rfl
        ·refine WP.condF rfl hc24<|WP.skip<|WP.g<|WL.m (int i_14) h15<|WL.w (R.add rfl rfl)<|WL.a (int (wr (i_14 + 1))) rfl<|WL.e ?_
         obtain rfl := oi hy18
         exact ⟨rfl, ⟨H12, h13, rfl, S⟩⟩
       ·refine WP.condF rfl hc22<|WP.exit ?_
        obtain rfl := oi hy18
        obtain rfl := hy19
        exact ⟨H12, S⟩
     ·intro f w hM
      rcases r20 with _ | e
      ·obtain ⟨H16, S⟩ := hM
       refine WP.s<|WP.g<|WL.a (boo false) rfl<|WL.e ?_
       obtain rfl := oi h
       refine WP.ret (Out.one rfl S rfl ?_)
       exact rfl
      ·exact hM.elim
theorem ref01_Token_ok {w0 : World} {H0 : Hp} (hw : Holds w0 H0) (hG : Tryz.Gl w0) (p_s : Str) {r : Bool} (h : ref01_Token p_s = some r) :
  Con Tryz.prog 99 [(str p_s)] w0 H0 (fun H' v => v = (boo r)) := by
 refine Con.mk (N := 17) Tryz.func99 rfl rfl (by kernel_rfl) rfl ?_
 have S := St.start hw
 refine WP.s<|WP.g<|WL.a (boo false) rfl<|WL.e<|WP.s<|WP.s<|WP.g<|WL.a (int 0) rfl<|WL.e ?_
 obtain ⟨r10, hr11, h⟩ := bindE h
 refine WP.cut (fun f w => match r10 with | .inl _ => ∃ (H5 : Hp), f 0 = (str p_s) ∧ St w0 H0 w H5 [] | .inr _ => False) ?_ ?_
 ·refine WP.block ?_
  refine WP.loopM (ref01_Token_L0 p_s) (fun s f w => match s with | i_3 => ∃ (H1 : Hp), f 0 = (str p_s) ∧ f 3 = (int i_3) ∧ St w0 H0 w H1 []) 0 r10 hr11 ?_ ?_
  ·exact ⟨H0, rfl, rfl, S⟩
  ·intro i_3 f w hI y7 hy8 hy9
   obtain ⟨H1, h2, h4, S⟩ := hI
   refine WP.s<|WP.s<|WP.g<|WL.m (int i_3) h4<|WL.m (str p_s) h2<|WL.w (R.lenS (a := p_s) rfl Tryz.underlying9)<|WL.w (R.lss rfl rfl)<|WL.e ?_
   rcases condE hy8 with ⟨hc12, hy8⟩ | ⟨hc12, hy8⟩
   ·refine WP.condT rfl hc12<|WP.skip<|WP.s<|WP.block<|WP.s<|WP.g<|WL.m (str p_s) h2<|WL.m (int i_3) h4 ?_
    obtain ⟨c13, hc13, hy8⟩ := bindE hy8
    refine WL.w (R.idxS rfl rfl Tryz.underlying9 hc13) ?_
    obtain ⟨r14, hr14, hy8⟩ := bindE hy8
    refine W.call S rfl (ref01_TokenByte_ok S.holds (hG.post S.post) c13 hr14) ?_
    rintro v15 w16 H17 hle18 S rfl
    refine WL.w (R.not rfl)<|WL.e ?_
    rcases condE hy8 with ⟨hc19, hy8⟩ | ⟨hc19, hy8⟩
    ·refine WP.condT rfl hc19<|WP.s<|WP.g<|WL.a (boo false) rfl<|WL.e ?_
     obtain rfl := oi hy8
     obtain rfl := hy9
     obtain rfl := oi h
     refine WP.ret (Out.one rfl S rfl ?_)
     exact rfl
    ·refine WP.condF rfl hc19<|WP.skip<|WP.g<|WL.m (int i_3) h4<|WL.w (R.add rfl rfl)<|WL.a (int (wr (i_3 + 1))) rfl<|WL.e ?_
     obtain rfl := oi hy8
     exact ⟨rfl, ⟨H17, h2, rfl, S⟩⟩
   ·refine WP.condF rfl hc12<|WP.exit ?_
    obtain rfl := oi hy8
    obtain rfl := hy9
    exact ⟨H1, h2, S⟩
 ·intro f w hM
  rcases r10 with _ | e
  ·obtain ⟨H5, h6, S⟩ := hM
   refine WP.s<|WP.g<|WL.m (str p_s) h6<|WL.w (R.neqS (a := p_s) (b := []) rfl rfl)<|WL.a (boo (p_s != [])) rfl<|WL.e ?_
   obtain rfl := oi h
   refine WP.ret (Out.one rfl S rfl ?_)
   exact rfl
  ·exact hM.elim
theorem ref01_textByte_ok {w0 : World} {H0 : Hp} (hw : Holds w0 H0) (hG : Tryz.Gl w0) (p_c : UInt8) {r : Bool} (h : ref01_textByte p_c = some r) :
  Con Tryz.prog 124 [(byt p_c)] w0 H0 (fun H' v => v = (boo r)) := by
 refine Con.mk (N := 17) Tryz.func124 rfl rfl (by kernel_rfl) rfl ?_
 have S := St.start hw
 refine WP.s<|WP.g<|WL.a (boo false) rfl<|WL.e<|WP.s<|WP.g<|WL.m (byt p_c) rfl<|WL.w (R.eql8 (a := p_c) (b := 9) rfl rfl)<|WL.m (boo (p_c == 9)) rfl ?_
 refine WL.grp 7 [6, 7, 8, 9, 10, 11] 12 (boo ((p_c == 9) || ((decide (32 ≤ p_c)) && (decide (p_c ≤ 126))))) ?_ ?_
 ·rcases boolE (p_c == 9) with hb1 | hb1
  ·refine WL.n rfl rfl hb1<|WL.n rfl rfl hb1<|WL.n rfl rfl hb1<|WL.gund rfl rfl<|WL.gund rfl rfl<|WL.n rfl rfl hb1<|WL.w (R.pickT rfl hb1 rfl) ?_
   exact WL.e ⟨(orT hb1), ag, rfl⟩
  ·refine WL.y rfl rfl hb1<|WL.m (byt p_c) rfl<|WL.y rfl rfl hb1<|WL.w (R.geq8 (a := p_c) (b := 32) rfl rfl)<|WL.y rfl rfl hb1<|WL.m (boo (decide (32 ≤ p_c))) rfl ?_
   refine WL.grp 3 [9, 10] 11 (boo ((decide (32 ≤ p_c)) && (decide (p_c ≤ 126)))) ?_ ?_
   ·rcases boolE (decide (32 ≤ p_c)) with hb3 | hb3
    ·refine WL.y rfl rfl hb3<|WL.m (byt p_c) rfl<|WL.y rfl rfl hb3<|WL.w (R.leq8 (a := p_c) (b := 126) rfl rfl)<|WL.y rfl rfl hb1<|WL.w (R.pickT rfl hb3 rfl) ?_
     exact WL.e ⟨(andT hb3), ag, rfl⟩
    ·refine WL.n rfl rfl hb3<|WL.n rfl rfl hb3<|WL.y rfl rfl hb1<|WL.w (R.pickF rfl hb3 rfl) ?_
     exact WL.e ⟨(andF hb3), ag, rfl⟩
   ·intro us
    refine WL.w (R.pickF rfl hb1 rfl) ?_
    exact WL.e ⟨(orF hb1), ag, rfl⟩
 ·intro us
  refine WL.m (boo ((p_c == 9) || ((decide (32 ≤ p_c)) && (decide (p_c ≤ 126))))) rfl ?_
  refine WL.grp 3 [14, 15] 16 (boo (((p_c == 9) || ((decide (32 ≤ p_c)) && (decide (p_c ≤ 126)))) || (decide (128 ≤ p_c)))) ?_ ?_
  ·rcases boolE ((p_c == 9) || ((decide (32 ≤ p_c)) && (decide (p_c ≤ 126)))) with hb5 | hb5
   ·refine WL.n rfl rfl hb5<|WL.n rfl rfl hb5<|WL.w (R.pickT rfl hb5 rfl) ?_
    exact WL.e ⟨(orT hb5), ag, rfl⟩
   ·refine WL.y rfl rfl hb5<|WL.m (byt p_c) rfl<|WL.y rfl rfl hb5<|WL.w (R.geq8 (a := p_c) (b := 128) rfl rfl)<|WL.w (R.pickF rfl hb5 rfl) ?_
    exact WL.e ⟨(orF hb5), ag, rfl⟩
  ·intro us
   refine WL.a (boo (((p_c == 9) || ((decide (32 ≤ p_c)) && (decide (p_c ≤ 126)))) || (decide (128 ≤ p_c)))) rfl<|WL.e ?_
   obtain rfl := oi h
   refine WP.ret (Out.one rfl S rfl ?_)
   exact rfl
theorem ref01_Unquote_ok {w0 : World} {H0 : Hp} (hw : Holds w0 H0) (hG : Tryz.Gl w0) (p_s : Str) {r : (Str × Bool)} (h : ref01_Unquote p_s = some r) :
  Con Tryz.prog 146 [(str p_s)] w0 H0 (fun H' v => v = (.tuple ⟨[(str r.1), (boo r.2)]⟩)) := by
 refine Con.mk (N := 60) Tryz.func146 rfl rfl (by kernel_rfl) rfl ?_
 have S := St.start hw
 refine WP.s<|WP.g<|WL.a (str []) rfl<|WL.a (boo false) rfl<|WL.e<|WP.s<|WP.s<|WP.g<|WL.m (str p_s) rfl<|WL.w (R.lenS (a := p_s) rfl Tryz.underlying9)<|WL.w (R.lss rfl rfl)<|WL.m (boo (decide ((p_s.length : Int) < 2))) rfl ?_
 obtain ⟨b4, hg2, h⟩ := bindE h
 refine WL.grp 4 [10, 11, 12] 13 (boo b4) ?_ ?_
 ·rcases boolE (decide ((p_s.length : Int) < 2)) with hb1 | hb1
  ·replace hg2 := condT hg2 hb1
   refine WL.n rfl rfl hb1<|WL.n rfl rfl hb1<|WL.n rfl rfl hb1<|WL.w (R.pickT rfl hb1 rfl) ?_
   exact WL.e ⟨(congrArg boo (oi hg2)), ag, rfl⟩
  ·replace hg2 := condF hg2 hb1
   refine WL.y rfl rfl hb1<|WL.m (str p_s) rfl<|WL.y rfl rfl hb1 ?_
   obtain ⟨c3, hc3, hg2⟩ := bindE hg2
   refine WL.w (R.idxS rfl rfl Tryz.underlying9 hc3)<|WL.y rfl rfl hb1<|WL.w (R.neq8 (a := c3) (b := 34) rfl rfl)<|WL.w (R.pickF rfl hb1 rfl) ?_
   exact WL.e ⟨(congrArg boo (oi hg2)), ag, rfl⟩
 ·intro us
  refine WL.m (boo b4) rfl ?_
  obtain ⟨b8, hg6, h⟩ := bindE h
  refine WL.grp 7 [15, 16, 17, 18, 19, 20] 21 (boo b8) ?_ ?_
  ·rcases boolE b4 with hb5 | hb5
   ·replace hg6 := condT hg6 hb5
    refine WL.n rfl rfl hb5<|WL.n rfl rfl hb5<|WL.n rfl rfl hb5<|WL.n rfl rfl hb5<|WL.n rfl rfl hb5<|WL.n rfl rfl hb5<|WL.w (R.pickT rfl hb5 rfl) ?_
    exact WL.e ⟨(congrArg boo (oi hg6)), ag, rfl⟩
   ·replace hg6 := condF hg6 hb5
    refine WL.y rfl rfl hb5<|WL.m (str p_s) rfl<|WL.y rfl rfl hb5<|WL.m (str p_s) rfl<|WL.y rfl rfl hb5<|WL.w (R.lenS (a := p_s) rfl Tryz.underlying9)<|WL.y rfl rfl hb5<|WL.w (R.sub rfl rfl)<|WL.y rfl rfl hb5 ?_
    obtain ⟨c7, hc7, hg6⟩ := bindE hg6
    refine WL.w (R.idxS rfl rfl Tryz.underlying9 hc7)<|WL.y rfl rfl hb5<|WL.w (R.neq8 (a := c7) (b := 34) rfl rfl)<|WL.w (R.pickF rfl hb5 rfl) ?_
    exact WL.e ⟨(congrArg boo (oi hg6)), ag, rfl⟩
  ·intro us
   refine WL.e ?_
   rcases condE h with ⟨hc9, h⟩ | ⟨hc9, h⟩
   ·refine WP.condT rfl hc9<|WP.s<|WP.g<|WL.a (str []) rfl<|WL.a (boo false) rfl<|WL.e ?_
    obtain rfl := oi h
    refine WP.ret (Out.two rfl S rfl rfl ?_)
    exact rfl
   ·refine WP.condF rfl hc9<|WP.skip<|WP.s<|WP.g<|WL.m (str p_s) rfl<|WL.m (str p_s) rfl<|WL.w (R.lenS (a := p_s) rfl Tryz.underlying9)<|WL.w (R.sub rfl rfl) ?_
    obtain ⟨s10, hs10, h⟩ := bindE h
    refine WL.w (R.subS rfl rfl rfl Tryz.underlying9 hs10)<|WL.a (str s10) rfl<|WL.e<|WP.s<|WP.g<|WL.a (.slice none 0 0) rfl<|WL.e<|WP.s<|WP.s<|WP.g<|WL.a (int 0) rfl<|WL.e ?_
    have S := S.addNil 5 1
    obtain ⟨r27, hr28, h⟩ := bindE h
    refine WP.cut (fun f w => match r27 with | .inl b_20 => ∃ (H19 : Hp) (v21 : Value), f 4 = v21 ∧ Sl (α := UInt8) H19 v21 b_20 ∧ St w0 H0 w H19 [.row v21 5 1 b_20.length] | .inr _ => False) ?_ ?_
    ·refine WP.block ?_
     refine WP.loopM (ref01_Unquote_L0 s10) (fun s f w => match s with | (b_13, i_17) => ∃ (H11 : Hp) (v14 : Value), f 0 = (str s10) ∧ f 4 = v14 ∧ f 5 = (int i_17) ∧ Sl (α := UInt8) H11 v14 b_13 ∧ St w0 H0 w H11 [.row v14 5 1 b_13.length]) (([] : List UInt8), 0) r27 hr28 ?_ ?_
     ·exact ⟨H0, .slice none 0 0, rfl, rfl, rfl, Sl.nil, S⟩
     ·intro s f w hI y24 hy25 hy26
      obtain ⟨b_13, i_17⟩ := s
      obtain ⟨H11, v14, h12, h16, h18, R15, S⟩ := hI
      refine WP.s<|WP.s<|WP.g<|WL.m (int i_17) h18<|WL.m (str s10) h12<|WL.w (R.lenS (a := s10) rfl Tryz.underlying9)<|WL.w (R.lss rfl rfl)<|WL.e ?_
      rcases condE hy25 with ⟨hc29, hy25⟩ | ⟨hc29, hy25⟩
      ·refine WP.condT rfl hc29<|WP.skip<|WP.s<|WP.block<|WP.s<|WP.s<|WP.g<|WL.m (str s10) h12<|WL.m (int i_17) h18 ?_
       obtain ⟨c30, hc30, hy25⟩ := bindE hy25
       refine WL.w (R.idxS rfl rfl Tryz.underlying9 hc30)<|WL.w (R.eql8 (a := c30) (b := 34) rfl rfl)<|WL.e ?_
       rcases condE hy25 with ⟨hc31, hy25⟩ | ⟨hc31, hy25⟩
       ·refine WP.condT rfl hc31<|WP.s<|WP.g<|WL.a (str []) rfl<|WL.a (boo false) rfl<|WL.e ?_
        obtain rfl := oi hy25
        obtain rfl := hy26
        obtain rfl := oi h
        refine WP.ret (Out.two rfl S rfl rfl ?_)
        exact rfl
       ·refine WP.condF rfl hc31<|WP.skip<|WP.s<|WP.s<|WP.g<|WL.m (str s10) h12<|WL.m (int i_17) h18 ?_
        obtain ⟨c32, hc32, hy25⟩ := bindE hy25
        refine WL.w (R.idxS rfl rfl Tryz.underlying9 hc32)<|WL.w (R.eql8 (a := c32) (b := 92) rfl rfl)<|WL.e ?_
        obtain ⟨j39, hj38, hy25⟩ := bindE hy25
        refine WP.cut (fun f w => match j39 with | .inl i_36 => ∃ (H33 : Hp), f 0 = (str s10) ∧ f 4 = v14 ∧ f 5 = (int i_36) ∧ Sl (α := UInt8) H33 v14 b_13 ∧ St w0 H0 w H33 [.row v14 5 1 b_13.length] | .inr _ => False) ?_ ?_
        ·rcases condE hj38 with ⟨hc40, hj38⟩ | ⟨hc40, hj38⟩
         ·refine WP.condT rfl hc40<|WP.s<|WP.g<|WL.m (int i_17) h18<|WL.w (R.add rfl rfl)<|WL.a (int (wr (i_17 + 1))) rfl<|WL.e<|WP.s<|WP.g<|WL.m (int (wr (i_17 + 1))) rfl<|WL.m (str s10) h12<|WL.w (R.lenS (a := s10) rfl Tryz.underlying9) ?_
          refine WL.w (R.eql rfl rfl)<|WL.e ?_
          rcases condE hj38 with ⟨hc41, hj38⟩ | ⟨hc41, hj38⟩
          ·refine WP.condT rfl hc41<|WP.s<|WP.g<|WL.a (str []) rfl<|WL.a (boo false) rfl<|WL.e ?_
           obtain rfl := oi hj38
           obtain rfl := oi hy25
           obtain rfl := hy26
           obtain rfl := oi h
           refine WP.ret (Out.two rfl S rfl rfl ?_)
           exact rfl
          ·refine WP.condF rfl hc41<|WP.skip ?_
           obtain rfl := oi hj38
           exact ⟨H11, h12, h16, rfl, R15, S⟩
         ·refine WP.condF rfl hc40<|WP.skip ?_
          obtain rfl := oi hj38
          exact ⟨H11, h12, h16, h18, R15, S⟩
        ·intro f w hM
         rcases j39 with i_36 | e
         ·obtain ⟨H33, h34, h35, h37, R15, S⟩ := hM
          refine WP.s<|WP.s<|WP.g<|WL.m (str s10) h34<|WL.m (int i_36) h37 ?_
          obtain ⟨c42, hc42, hy25⟩ := bindE hy25
          refine WL.w (R.idxS rfl rfl Tryz.underlying9 hc42) ?_
          obtain ⟨r43, hr43, hy25⟩ := bindE hy25
          refine W.call S rfl (ref01_textByte_ok S.holds (hG.post S.post) c42 hr43) ?_
          rintro v44 w45 H46 hle47 S rfl
          have R15 := Sl.mono R15 hle47
          refine WL.w (R.not rfl)<|WL.e ?_
          rcases condE hy25 with ⟨hc48, hy25⟩ | ⟨hc48, hy25⟩
          ·refine WP.condT rfl hc48<|WP.s<|WP.g<|WL.a (str []) rfl<|WL.a (boo false) rfl<|WL.e ?_
           obtain rfl := oi hy25
           obtain rfl := hy26
           obtain rfl := oi h
           refine WP.ret (Out.two rfl S rfl rfl ?_)
           exact rfl
          ·refine WP.condF rfl hc48<|WP.skip<|WP.g<|WL.m (v14) h35<|WL.m (str s10) h34<|WL.m (int i_36) h37 ?_
           obtain ⟨c49, hc49, hy25⟩ := bindE hy25
           refine WL.w (R.idxS rfl rfl Tryz.underlying9 hc49)<|W.bslice (α := UInt8) [(byt c49)] ([c49] : List UInt8) S el130 rfl rfl rfl (by decide) (Go.Eng.encS ⟨rfl, rfl⟩ enc0) ?_
           intro u50 w51 H52 hle53 R54 S
           have R15 := Sl.mono R15 hle53
           obtain ⟨l55, hl55, hy25⟩ := bindE hy25
           refine W.app (α := UInt8) (i := 1) S el130 rfl rfl rfl R15 R54 hl55 ?_
           intro v56 w57 H58 hle59 R60 S
           have R15 := Sl.mono R15 hle59
           refine WL.a (v56) rfl<|WL.e<|WP.g<|WL.m (int i_36) h37<|WL.w (R.add rfl rfl)<|WL.a (int (wr (i_36 + 1))) rfl<|WL.e ?_
           obtain rfl := oi hy25
           exact ⟨rfl, ⟨H58, v56, h34, rfl, rfl, R60, (S.drop _ (.cons _ (.cons_cons _ .slnil)))⟩⟩
         ·exact hM.elim
      ·refine WP.condF rfl hc29<|WP.exit ?_
       obtain rfl := oi hy25
       obtain rfl := hy26
       exact ⟨H11, v14, h16, R15, S⟩
    ·intro f w hM
     rcases r27 with b_20 | e
     ·obtain ⟨H19, v21, h23, R22, S⟩ := hM
      refine WP.s<|WP.g<|WL.m (v21) h23<|WL.w (R.strL S R22 rfl Tryz.underlying130 Tryz.underlying9 Tryz.underlying5)<|WL.a (str b_20) rfl<|WL.a (boo true) rfl<|WL.e ?_
      obtain rfl := oi h
      refine WP.ret (Out.two rfl S rfl rfl ?_)
      exact rfl
     ·exact hM.elim
end Go.Proofs
