/- A part of the proof of laws of the seat: written by program over the translation. -/
import Derived.Test.YtogfdiigokidaaaGreatDoorEng31
import Derived.Test.YtogfdiigokidaaaGreatDoorGenJ11
namespace Go.Proofs
set_option maxHeartbeats 4000000
set_option maxRecDepth 10000
open Go.Eng Go.Eng.Pure
set_option linter.unusedVariables false
theorem date_Days_ok {w0 : World} {H0 : Hp} (hw : Holds w0 H0) (hG : Tryz.Gl w0) (p_year : Int) (p_month : Int) (p_day : Int) {r : Int} (h : date_Days p_year p_month p_day = some r) :
  Con Tryz.prog 225 [(int p_year), (int p_month), (int p_day)] w0 H0 (fun H' v => v = (int r)) := by
 refine Con.mk (N := 52) Tryz.func225 rfl rfl (by kernel_rfl) rfl ?_
 have S := St.start hw
 refine WP.s<|WP.g<|WL.a (int 0) rfl<|WL.e<|WP.s<|WP.s<|WP.g<|WL.m (int p_year) rfl<|WL.w (R.lss rfl rfl)<|WL.m (boo (decide (p_year < 1970))) rfl ?_
 refine WL.grp 3 [12, 13] 14 (boo ((decide (p_year < 1970)) || (decide (9999 < p_year)))) ?_ ?_
 ·rcases boolE (decide (p_year < 1970)) with hb1 | hb1
  ·refine WL.n rfl rfl hb1<|WL.n rfl rfl hb1<|WL.w (R.pickT rfl hb1 rfl) ?_
   exact WL.e ⟨(orT hb1), ag, rfl⟩
  ·refine WL.y rfl rfl hb1<|WL.m (int p_year) rfl<|WL.y rfl rfl hb1<|WL.w (R.gtr rfl rfl)<|WL.w (R.pickF rfl hb1 rfl) ?_
   exact WL.e ⟨(orF hb1), ag, rfl⟩
 ·intro us
  refine WL.m (boo ((decide (p_year < 1970)) || (decide (9999 < p_year)))) rfl ?_
  refine WL.grp 3 [16, 17] 18 (boo (((decide (p_year < 1970)) || (decide (9999 < p_year))) || (decide (p_month < 1)))) ?_ ?_
  ·rcases boolE ((decide (p_year < 1970)) || (decide (9999 < p_year))) with hb3 | hb3
   ·refine WL.n rfl rfl hb3<|WL.n rfl rfl hb3<|WL.w (R.pickT rfl hb3 rfl) ?_
    exact WL.e ⟨(orT hb3), ag, rfl⟩
   ·refine WL.y rfl rfl hb3<|WL.m (int p_month) rfl<|WL.y rfl rfl hb3<|WL.w (R.lss rfl rfl)<|WL.w (R.pickF rfl hb3 rfl) ?_
    exact WL.e ⟨(orF hb3), ag, rfl⟩
  ·intro us
   refine WL.m (boo (((decide (p_year < 1970)) || (decide (9999 < p_year))) || (decide (p_month < 1)))) rfl ?_
   refine WL.grp 3 [20, 21] 22 (boo ((((decide (p_year < 1970)) || (decide (9999 < p_year))) || (decide (p_month < 1))) || (decide (12 < p_month)))) ?_ ?_
   ·rcases boolE (((decide (p_year < 1970)) || (decide (9999 < p_year))) || (decide (p_month < 1))) with hb5 | hb5
    ·refine WL.n rfl rfl hb5<|WL.n rfl rfl hb5<|WL.w (R.pickT rfl hb5 rfl) ?_
     exact WL.e ⟨(orT hb5), ag, rfl⟩
    ·refine WL.y rfl rfl hb5<|WL.m (int p_month) rfl<|WL.y rfl rfl hb5<|WL.w (R.gtr rfl rfl)<|WL.w (R.pickF rfl hb5 rfl) ?_
     exact WL.e ⟨(orF hb5), ag, rfl⟩
   ·intro us
    refine WL.m (boo ((((decide (p_year < 1970)) || (decide (9999 < p_year))) || (decide (p_month < 1))) || (decide (12 < p_month)))) rfl ?_
    refine WL.grp 3 [24, 25] 26 (boo (((((decide (p_year < 1970)) || (decide (9999 < p_year))) || (decide (p_month < 1))) || (decide (12 < p_month))) || (decide (p_day < 1)))) ?_ ?_
    ·rcases boolE ((((decide (p_year < 1970)) || (decide (9999 < p_year))) || (decide (p_month < 1))) || (decide (12 < p_month))) with hb7 | hb7
     ·refine WL.n rfl rfl hb7<|WL.n rfl rfl hb7<|WL.w (R.pickT rfl hb7 rfl) ?_
      exact WL.e ⟨(orT hb7), ag, rfl⟩
     ·refine WL.y rfl rfl hb7<|WL.m (int p_day) rfl<|WL.y rfl rfl hb7<|WL.w (R.lss rfl rfl)<|WL.w (R.pickF rfl hb7 rfl) ?_
      exact WL.e ⟨(orF hb7), ag, rfl⟩
    ·intro us
     refine WL.m (boo (((((decide (p_year < 1970)) || (decide (9999 < p_year))) || (decide (p_month < 1))) || (decide (12 < p_month))) || (decide (p_day < 1)))) rfl ?_
     obtain ⟨b16, hg10, h⟩ := bindE h
     refine WL.grpw 6 [28, 29, 30, 31, 32] 33 (boo b16) (fun w => ∃ H' : Hp, H0.le H' ∧ St w0 H0 w H' []) ?_ ?_
     ·rcases boolE (((((decide (p_year < 1970)) || (decide (9999 < p_year))) || (decide (p_month < 1))) || (decide (12 < p_month))) || (decide (p_day < 1))) with hb9 | hb9
      ·replace hg10 := condT hg10 hb9
       refine WL.n rfl rfl hb9<|WL.n rfl rfl hb9<|WL.n rfl rfl hb9<|WL.n rfl rfl hb9<|WL.n rfl rfl hb9<|WL.w (R.pickT rfl hb9 rfl) ?_
       exact WL.e ⟨(congrArg boo (oi hg10)), ag, ⟨H0, (Hp.le.refl _), S⟩⟩
      ·replace hg10 := condF hg10 hb9
       refine WL.y rfl rfl hb9<|WL.m (int p_day) rfl<|WL.y rfl rfl hb9<|WL.m (int p_year) rfl<|WL.y rfl rfl hb9<|WL.m (int p_month) rfl<|WL.y rfl rfl hb9 ?_
       obtain ⟨r11, hr11, hg10⟩ := bindE hg10
       refine W.call S rfl (date_length_ok S.holds (hG.post S.post) p_year p_month hr11) ?_
       rintro v12 w13 H14 hle15 S rfl
       refine WL.y rfl rfl hb9<|WL.w (R.gtr rfl rfl)<|WL.w (R.pickF rfl hb9 rfl) ?_
       exact WL.e ⟨(congrArg boo (oi hg10)), ag, ⟨H14, hle15, S⟩⟩
     ·intro us w18 ⟨H17, hle19, S⟩
      refine WL.e ?_
      rcases condE h with ⟨hc20, h⟩ | ⟨hc20, h⟩
      ·refine WP.condT rfl hc20<|WP.s<|WP.g<|WL.a (int (-1)) rfl<|WL.e ?_
       obtain rfl := oi h
       refine WP.ret (Out.one rfl S rfl ?_)
       exact rfl
      ·refine WP.condF rfl hc20<|WP.skip<|WP.s<|WP.g<|WL.m (int p_year) rfl ?_
       obtain ⟨r21, hr21, h⟩ := bindE h
       refine W.call S rfl (date_before_ok S.holds (hG.post S.post) p_year hr21) ?_
       rintro v22 w23 H24 hle25 S rfl
       obtain ⟨r26, hr26, h⟩ := bindE h
       refine W.call S rfl (date_before_ok S.holds (hG.post S.post) 1970 hr26) ?_
       rintro v27 w28 H29 hle30 S rfl
       refine WL.w (R.sub rfl rfl)<|WL.m (int p_day) rfl<|WL.w (R.add rfl rfl)<|WL.w (R.sub rfl rfl)<|WL.a (int (wr ((wr ((wr (r21 - r26)) + p_day)) - 1))) rfl<|WL.e<|WP.s<|WP.s<|WP.g<|WL.a (int 1) rfl<|WL.e ?_
       obtain ⟨n_39, hr45, h⟩ := bindE h
       refine WP.cut (fun f w => ∃ (H38 : Hp), f 7 = (int n_39) ∧ St w0 H0 w H38 []) ?_ ?_
       ·refine WP.block ?_
        refine WP.loopM (date_Days_L0 p_year p_month) (fun s f w => match s with | (n_34, m_36) => ∃ (H31 : Hp), f 0 = (int p_year) ∧ f 1 = (int p_month) ∧ f 7 = (int n_34) ∧ f 8 = (int m_36) ∧ St w0 H0 w H31 []) (wr ((wr ((wr (r21 - r26)) + p_day)) - 1), 1) n_39 hr45 ?_ ?_
        ·exact ⟨H29, rfl, rfl, rfl, rfl, S⟩
        ·intro s f w hI y41 hy42 hy43
         obtain ⟨n_34, m_36⟩ := s
         obtain ⟨H31, h32, h33, h35, h37, S⟩ := hI
         refine WP.s<|WP.s<|WP.g<|WL.m (int m_36) h37<|WL.m (int p_month) h33<|WL.w (R.lss rfl rfl)<|WL.e ?_
         rcases condE hy42 with ⟨hc46, hy42⟩ | ⟨hc46, hy42⟩
         ·refine WP.condT rfl hc46<|WP.skip<|WP.s<|WP.block<|WP.g<|WL.m (int n_34) h35<|WL.m (int p_year) h32<|WL.m (int m_36) h37 ?_
          obtain ⟨r47, hr47, hy42⟩ := bindE hy42
          refine W.call S rfl (date_length_ok S.holds (hG.post S.post) p_year m_36 hr47) ?_
          rintro v48 w49 H50 hle51 S rfl
          refine WL.w (R.add rfl rfl)<|WL.a (int (wr (n_34 + r47))) rfl<|WL.e<|WP.g<|WL.m (int m_36) h37<|WL.w (R.add rfl rfl)<|WL.a (int (wr (m_36 + 1))) rfl<|WL.e ?_
          obtain rfl := oi hy42
          exact ⟨rfl, ⟨H50, h32, h33, rfl, rfl, S⟩⟩
         ·refine WP.condF rfl hc46<|WP.exit ?_
          obtain rfl := oi hy42
          obtain rfl := hy43
          exact ⟨H31, h35, S⟩
       ·rintro f w ⟨H38, h40, S⟩
        refine WP.s<|WP.g<|WL.m (int n_39) h40<|WL.a (int n_39) rfl<|WL.e ?_
        obtain rfl := oi h
        refine WP.ret (Out.one rfl S rfl ?_)
        exact rfl
theorem date_dayName_ok {w0 : World} {H0 : Hp} (hw : Holds w0 H0) (hG : Tryz.Gl w0) (p_i : Int) {r : Str} (h : date_dayName p_i = some r) :
  Con Tryz.prog 226 [(int p_i)] w0 H0 (fun H' v => v = (str r)) := by
 refine Con.mk (N := 6) Tryz.func226 rfl rfl (by kernel_rfl) rfl ?_
 have S := St.start hw
 refine WP.s<|WP.g<|WL.a (str []) rfl<|WL.e<|WP.s<|WP.g<|WL.w (R.buildArr [(0, (str [77, 111, 110])), (1, (str [84, 117, 101])), (2, (str [87, 101, 100])), (3, (str [84, 104, 117])), (4, (str [70, 114, 105])), (5, (str [83, 97, 116])), (6, (str [83, 117, 110]))] [(str [77, 111, 110]), (str [84, 117, 101]), (str [87, 101, 100]), (str [84, 104, 117]), (str [70, 114, 105]), (str [83, 97, 116]), (str [83, 117, 110])] Tryz.underlying245 lay9 zer245 rfl rfl)<|WL.m (int p_i) rfl ?_
 obtain ⟨s1, hs1, h⟩ := bindE h
 refine WL.w (R.idxA str (l := ([[77, 111, 110], [84, 117, 101], [87, 101, 100], [84, 104, 117], [70, 114, 105], [83, 97, 116], [83, 117, 110]] : List Str)) rfl rfl Tryz.underlying245 lay9 rfl hs1)<|WL.a (str s1) rfl<|WL.e ?_
 obtain rfl := oi h
 refine WP.ret (Out.one rfl S rfl ?_)
 exact rfl
theorem date_Parse_ok {w0 : World} {H0 : Hp} (hw : Holds w0 H0) (hG : Tryz.Gl w0) (p_ppend : Str) {r : (Int × Bool)} (h : date_Parse p_ppend = some r) :
  Con Tryz.prog 196 [(str p_ppend)] w0 H0 (fun H' v => v = (.tuple ⟨[(int r.1), (boo r.2)]⟩)) := by
 refine Con.mk (N := 122) Tryz.func196 rfl rfl (by kernel_rfl) rfl ?_
 have S := St.start hw
 refine WP.s<|WP.g<|WL.a (int 0) rfl<|WL.a (boo false) rfl<|WL.e<|WP.s<|WP.s<|WP.g<|WL.m (str p_ppend) rfl<|WL.w (R.lenS (a := p_ppend) rfl Tryz.underlying9)<|WL.w (R.neq rfl rfl)<|WL.m (boo ((p_ppend.length : Int) != 29)) rfl ?_
 obtain ⟨b4, hg2, h⟩ := bindE h
 refine WL.grp 4 [14, 15, 16] 17 (boo b4) ?_ ?_
 ·rcases boolE ((p_ppend.length : Int) != 29) with hb1 | hb1
  ·replace hg2 := condT hg2 hb1
   refine WL.n rfl rfl hb1<|WL.n rfl rfl hb1<|WL.n rfl rfl hb1<|WL.w (R.pickT rfl hb1 rfl) ?_
   exact WL.e ⟨(congrArg boo (oi hg2)), ag, rfl⟩
  ·replace hg2 := condF hg2 hb1
   refine WL.y rfl rfl hb1<|WL.m (str p_ppend) rfl<|WL.y rfl rfl hb1 ?_
   obtain ⟨s3, hs3, hg2⟩ := bindE hg2
   refine WL.w (R.subS rfl rfl rfl Tryz.underlying9 hs3)<|WL.y rfl rfl hb1<|WL.w (R.neqS (a := s3) (b := [44, 32]) rfl rfl)<|WL.w (R.pickF rfl hb1 rfl) ?_
   exact WL.e ⟨(congrArg boo (oi hg2)), ag, rfl⟩
 ·intro us
  refine WL.m (boo b4) rfl ?_
  obtain ⟨b8, hg6, h⟩ := bindE h
  refine WL.grp 4 [19, 20, 21] 22 (boo b8) ?_ ?_
  ·rcases boolE b4 with hb5 | hb5
   ·replace hg6 := condT hg6 hb5
    refine WL.n rfl rfl hb5<|WL.n rfl rfl hb5<|WL.n rfl rfl hb5<|WL.w (R.pickT rfl hb5 rfl) ?_
    exact WL.e ⟨(congrArg boo (oi hg6)), ag, rfl⟩
   ·replace hg6 := condF hg6 hb5
    refine WL.y rfl rfl hb5<|WL.m (str p_ppend) rfl<|WL.y rfl rfl hb5 ?_
    obtain ⟨c7, hc7, hg6⟩ := bindE hg6
    refine WL.w (R.idxS rfl rfl Tryz.underlying9 hc7)<|WL.y rfl rfl hb5<|WL.w (R.neq8 (a := c7) (b := 32) rfl rfl)<|WL.w (R.pickF rfl hb5 rfl) ?_
    exact WL.e ⟨(congrArg boo (oi hg6)), ag, rfl⟩
  ·intro us
   refine WL.m (boo b8) rfl ?_
   obtain ⟨b12, hg10, h⟩ := bindE h
   refine WL.grp 4 [24, 25, 26] 27 (boo b12) ?_ ?_
   ·rcases boolE b8 with hb9 | hb9
    ·replace hg10 := condT hg10 hb9
     refine WL.n rfl rfl hb9<|WL.n rfl rfl hb9<|WL.n rfl rfl hb9<|WL.w (R.pickT rfl hb9 rfl) ?_
     exact WL.e ⟨(congrArg boo (oi hg10)), ag, rfl⟩
    ·replace hg10 := condF hg10 hb9
     refine WL.y rfl rfl hb9<|WL.m (str p_ppend) rfl<|WL.y rfl rfl hb9 ?_
     obtain ⟨c11, hc11, hg10⟩ := bindE hg10
     refine WL.w (R.idxS rfl rfl Tryz.underlying9 hc11)<|WL.y rfl rfl hb9<|WL.w (R.neq8 (a := c11) (b := 32) rfl rfl)<|WL.w (R.pickF rfl hb9 rfl) ?_
     exact WL.e ⟨(congrArg boo (oi hg10)), ag, rfl⟩
   ·intro us
    refine WL.m (boo b12) rfl ?_
    obtain ⟨b16, hg14, h⟩ := bindE h
    refine WL.grp 4 [29, 30, 31] 32 (boo b16) ?_ ?_
    ·rcases boolE b12 with hb13 | hb13
     ·replace hg14 := condT hg14 hb13
      refine WL.n rfl rfl hb13<|WL.n rfl rfl hb13<|WL.n rfl rfl hb13<|WL.w (R.pickT rfl hb13 rfl) ?_
      exact WL.e ⟨(congrArg boo (oi hg14)), ag, rfl⟩
     ·replace hg14 := condF hg14 hb13
      refine WL.y rfl rfl hb13<|WL.m (str p_ppend) rfl<|WL.y rfl rfl hb13 ?_
      obtain ⟨c15, hc15, hg14⟩ := bindE hg14
      refine WL.w (R.idxS rfl rfl Tryz.underlying9 hc15)<|WL.y rfl rfl hb13<|WL.w (R.neq8 (a := c15) (b := 32) rfl rfl)<|WL.w (R.pickF rfl hb13 rfl) ?_
      exact WL.e ⟨(congrArg boo (oi hg14)), ag, rfl⟩
    ·intro us
     refine WL.m (boo b16) rfl ?_
     obtain ⟨b20, hg18, h⟩ := bindE h
     refine WL.grp 4 [34, 35, 36] 37 (boo b20) ?_ ?_
     ·rcases boolE b16 with hb17 | hb17
      ·replace hg18 := condT hg18 hb17
       refine WL.n rfl rfl hb17<|WL.n rfl rfl hb17<|WL.n rfl rfl hb17<|WL.w (R.pickT rfl hb17 rfl) ?_
       exact WL.e ⟨(congrArg boo (oi hg18)), ag, rfl⟩
      ·replace hg18 := condF hg18 hb17
       refine WL.y rfl rfl hb17<|WL.m (str p_ppend) rfl<|WL.y rfl rfl hb17 ?_
       obtain ⟨c19, hc19, hg18⟩ := bindE hg18
       refine WL.w (R.idxS rfl rfl Tryz.underlying9 hc19)<|WL.y rfl rfl hb17<|WL.w (R.neq8 (a := c19) (b := 58) rfl rfl)<|WL.w (R.pickF rfl hb17 rfl) ?_
       exact WL.e ⟨(congrArg boo (oi hg18)), ag, rfl⟩
     ·intro us
      refine WL.m (boo b20) rfl ?_
      obtain ⟨b24, hg22, h⟩ := bindE h
      refine WL.grp 4 [39, 40, 41] 42 (boo b24) ?_ ?_
      ·rcases boolE b20 with hb21 | hb21
       ·replace hg22 := condT hg22 hb21
        refine WL.n rfl rfl hb21<|WL.n rfl rfl hb21<|WL.n rfl rfl hb21<|WL.w (R.pickT rfl hb21 rfl) ?_
        exact WL.e ⟨(congrArg boo (oi hg22)), ag, rfl⟩
       ·replace hg22 := condF hg22 hb21
        refine WL.y rfl rfl hb21<|WL.m (str p_ppend) rfl<|WL.y rfl rfl hb21 ?_
        obtain ⟨c23, hc23, hg22⟩ := bindE hg22
        refine WL.w (R.idxS rfl rfl Tryz.underlying9 hc23)<|WL.y rfl rfl hb21<|WL.w (R.neq8 (a := c23) (b := 58) rfl rfl)<|WL.w (R.pickF rfl hb21 rfl) ?_
        exact WL.e ⟨(congrArg boo (oi hg22)), ag, rfl⟩
      ·intro us
       refine WL.m (boo b24) rfl ?_
       obtain ⟨b28, hg26, h⟩ := bindE h
       refine WL.grp 4 [44, 45, 46] 47 (boo b28) ?_ ?_
       ·rcases boolE b24 with hb25 | hb25
        ·replace hg26 := condT hg26 hb25
         refine WL.n rfl rfl hb25<|WL.n rfl rfl hb25<|WL.n rfl rfl hb25<|WL.w (R.pickT rfl hb25 rfl) ?_
         exact WL.e ⟨(congrArg boo (oi hg26)), ag, rfl⟩
        ·replace hg26 := condF hg26 hb25
         refine WL.y rfl rfl hb25<|WL.m (str p_ppend) rfl<|WL.y rfl rfl hb25 ?_
         obtain ⟨s27, hs27, hg26⟩ := bindE hg26
         refine WL.w (R.subSlo rfl rfl Tryz.underlying9 hs27)<|WL.y rfl rfl hb25<|WL.w (R.neqS (a := s27) (b := [32, 71, 77, 84]) rfl rfl)<|WL.w (R.pickF rfl hb25 rfl) ?_
         exact WL.e ⟨(congrArg boo (oi hg26)), ag, rfl⟩
       ·intro us
        refine WL.e ?_
        rcases condE h with ⟨hc29, h⟩ | ⟨hc29, h⟩
        ·refine WP.condT rfl hc29<|WP.s<|WP.g<|WL.a (int 0) rfl<|WL.a (boo false) rfl<|WL.e ?_
         obtain rfl := oi h
         refine WP.ret (Out.two rfl S rfl rfl ?_)
         exact rfl
        ·refine WP.condF rfl hc29<|WP.skip<|WP.s<|WP.g<|W.alloc [(int 0), (int 0), (int 0), (int 0), (int 0)] S zer219 ?_
         intro b30 w31 S
         refine WL.e<|WP.s<|WP.s<|WP.quiet S (by kernel_rfl) (by kernel_rfl)<|WQ.val (fun _ _ => (R.mv (v := str p_ppend) rfl)) ?_
         obtain ⟨s35, hs35, h⟩ := bindE h
         refine WQ.val (fun _ _ => (R.subS rfl rfl rfl Tryz.underlying9 hs35))<|WQ.val (fun _ _ => (R.mv (v := str p_ppend) rfl)) ?_
         obtain ⟨s36, hs36, h⟩ := bindE h
         refine WQ.val (fun _ _ => (R.subS rfl rfl rfl Tryz.underlying9 hs36))<|WQ.val (fun _ _ => (R.mv (v := str p_ppend) rfl)) ?_
         obtain ⟨s37, hs37, h⟩ := bindE h
         refine WQ.val (fun _ _ => (R.subS rfl rfl rfl Tryz.underlying9 hs37))<|WQ.val (fun _ _ => (R.mv (v := str p_ppend) rfl)) ?_
         obtain ⟨s38, hs38, h⟩ := bindE h
         refine WQ.val (fun _ _ => (R.subS rfl rfl rfl Tryz.underlying9 hs38))<|WQ.val (fun _ _ => (R.mv (v := str p_ppend) rfl)) ?_
         obtain ⟨s39, hs39, h⟩ := bindE h
         refine WQ.val (fun _ _ => (R.subS rfl rfl rfl Tryz.underlying9 hs39))<|WQ.val (fun _ _ => (R.buildArr [(0, (str s35)), (1, (str s36)), (2, (str s37)), (3, (str s38)), (4, (str s39))] [(str s35), (str s36), (str s37), (str s38), (str s39)] Tryz.underlying220 lay9 zer220 rfl rfl))<|WQ.val (fun _ _ => (R.mv (v := int 0) rfl))<|WQ.nil ?_
         intro w32 H33 hle34 S
         refine WP.block<|WP.loopRd 6<|RD.succ<|WP.s<|WP.g<|WL.w (v := boo true) (R.ofEq (R.lss rfl rfl) rfl)<|WL.e<|WP.s<|WP.condT (b := true) rfl rfl<|WP.skip<|WP.s<|WP.block ?_
         refine WP.s<|WP.g<|WL.m (int 0) rfl<|WL.w (v := str s35) (R.idxA str (l := ([s35, s36, s37, s38, s39] : List Str)) (c := s35) rfl rfl Tryz.underlying220 lay9 rfl rfl)<|WL.a (int 0) rfl<|WL.a (str s35) rfl<|WL.e<|WP.s<|WP.g<|WL.a (boo false) rfl<|WL.e<|WP.s ?_
         refine WP.g<|WL.m (int 0) rfl<|WL.m (str s35) rfl ?_
         obtain ⟨r40, hr40, h⟩ := bindE h
         refine W.call S rfl (ascii_Number_ok S.holds (hG.post S.post) s35 hr40) ?_
         rintro v41 w42 H43 hle44 S rfl
         refine WL.m (.tuple ⟨[(int r40.1), (boo r40.2)]⟩) rfl<|WL.w (R.ext rfl rfl)<|WL.w (R.ext rfl rfl)<|WL.w (v := ptr b30 0) (R.ofEq (R.idxAddrA rfl rfl Tryz.underlying219 lay3 ⟨by decide, by decide⟩) rfl)<|W.store (i := 0) [(int r40.1), (int 0), (int 0), (int 0), (int 0)] S rfl rfl rfl lay3 rfl rfl (Nat.le_of_ble_eq_true rfl) rfl ?_
         intro w45 S
         refine WL.a (boo r40.2) rfl<|WL.e<|WP.s<|WP.g<|WL.m (boo r40.2) rfl<|WL.w (R.not rfl)<|WL.e ?_
         rcases condE h with ⟨hc46, h⟩ | ⟨hc46, h⟩
         ·refine WP.condT rfl hc46<|WP.s<|WP.g<|WL.a (int 0) rfl<|WL.a (boo false) rfl<|WL.e ?_
          obtain rfl := oi h
          refine WP.ret (Out.two rfl S rfl rfl ?_)
          exact rfl
         ·refine WP.condF rfl hc46<|WP.skip<|WP.g<|WL.w (v := int 1) (R.ofEq (R.add rfl rfl) rfl)<|WL.m (int 1) rfl<|WL.e<|RD.succ<|WP.s<|WP.g<|WL.w (v := boo true) (R.ofEq (R.lss rfl rfl) rfl)<|WL.e<|WP.s ?_
          refine WP.condT (b := true) rfl rfl<|WP.skip<|WP.s<|WP.block<|WP.s<|WP.g<|WL.m (int 1) rfl<|WL.w (v := str s36) (R.idxA str (l := ([s35, s36, s37, s38, s39] : List Str)) (c := s36) rfl rfl Tryz.underlying220 lay9 rfl rfl)<|WL.a (int 1) rfl<|WL.a (str s36) rfl<|WL.e<|WP.s ?_
          refine WP.g<|WL.a (boo false) rfl<|WL.e<|WP.s<|WP.g<|WL.m (int 1) rfl<|WL.m (str s36) rfl ?_
          obtain ⟨r47, hr47, h⟩ := bindE h
          refine W.call S rfl (ascii_Number_ok S.holds (hG.post S.post) s36 hr47) ?_
          rintro v48 w49 H50 hle51 S rfl
          refine WL.m (.tuple ⟨[(int r47.1), (boo r47.2)]⟩) rfl<|WL.w (R.ext rfl rfl)<|WL.w (R.ext rfl rfl)<|WL.w (v := ptr b30 1) (R.ofEq (R.idxAddrA rfl rfl Tryz.underlying219 lay3 ⟨by decide, by decide⟩) rfl)<|W.store (i := 0) [(int r40.1), (int r47.1), (int 0), (int 0), (int 0)] S rfl rfl rfl lay3 rfl rfl (Nat.le_of_ble_eq_true rfl) rfl ?_
          intro w52 S
          refine WL.a (boo r47.2) rfl<|WL.e<|WP.s<|WP.g<|WL.m (boo r47.2) rfl<|WL.w (R.not rfl)<|WL.e ?_
          rcases condE h with ⟨hc53, h⟩ | ⟨hc53, h⟩
          ·refine WP.condT rfl hc53<|WP.s<|WP.g<|WL.a (int 0) rfl<|WL.a (boo false) rfl<|WL.e ?_
           obtain rfl := oi h
           refine WP.ret (Out.two rfl S rfl rfl ?_)
           exact rfl
          ·refine WP.condF rfl hc53<|WP.skip<|WP.g<|WL.w (v := int 2) (R.ofEq (R.add rfl rfl) rfl)<|WL.m (int 2) rfl<|WL.e<|RD.succ<|WP.s<|WP.g<|WL.w (v := boo true) (R.ofEq (R.lss rfl rfl) rfl)<|WL.e<|WP.s ?_
           refine WP.condT (b := true) rfl rfl<|WP.skip<|WP.s<|WP.block<|WP.s<|WP.g<|WL.m (int 2) rfl<|WL.w (v := str s37) (R.idxA str (l := ([s35, s36, s37, s38, s39] : List Str)) (c := s37) rfl rfl Tryz.underlying220 lay9 rfl rfl)<|WL.a (int 2) rfl<|WL.a (str s37) rfl<|WL.e<|WP.s ?_
           refine WP.g<|WL.a (boo false) rfl<|WL.e<|WP.s<|WP.g<|WL.m (int 2) rfl<|WL.m (str s37) rfl ?_
           obtain ⟨r54, hr54, h⟩ := bindE h
           refine W.call S rfl (ascii_Number_ok S.holds (hG.post S.post) s37 hr54) ?_
           rintro v55 w56 H57 hle58 S rfl
           refine WL.m (.tuple ⟨[(int r54.1), (boo r54.2)]⟩) rfl<|WL.w (R.ext rfl rfl)<|WL.w (R.ext rfl rfl)<|WL.w (v := ptr b30 2) (R.ofEq (R.idxAddrA rfl rfl Tryz.underlying219 lay3 ⟨by decide, by decide⟩) rfl)<|W.store (i := 0) [(int r40.1), (int r47.1), (int r54.1), (int 0), (int 0)] S rfl rfl rfl lay3 rfl rfl (Nat.le_of_ble_eq_true rfl) rfl ?_
           intro w59 S
           refine WL.a (boo r54.2) rfl<|WL.e<|WP.s<|WP.g<|WL.m (boo r54.2) rfl<|WL.w (R.not rfl)<|WL.e ?_
           rcases condE h with ⟨hc60, h⟩ | ⟨hc60, h⟩
           ·refine WP.condT rfl hc60<|WP.s<|WP.g<|WL.a (int 0) rfl<|WL.a (boo false) rfl<|WL.e ?_
            obtain rfl := oi h
            refine WP.ret (Out.two rfl S rfl rfl ?_)
            exact rfl
           ·refine WP.condF rfl hc60<|WP.skip<|WP.g<|WL.w (v := int 3) (R.ofEq (R.add rfl rfl) rfl)<|WL.m (int 3) rfl<|WL.e<|RD.succ<|WP.s<|WP.g<|WL.w (v := boo true) (R.ofEq (R.lss rfl rfl) rfl)<|WL.e<|WP.s ?_
            refine WP.condT (b := true) rfl rfl<|WP.skip<|WP.s<|WP.block<|WP.s<|WP.g<|WL.m (int 3) rfl<|WL.w (v := str s38) (R.idxA str (l := ([s35, s36, s37, s38, s39] : List Str)) (c := s38) rfl rfl Tryz.underlying220 lay9 rfl rfl)<|WL.a (int 3) rfl<|WL.a (str s38) rfl<|WL.e<|WP.s ?_
            refine WP.g<|WL.a (boo false) rfl<|WL.e<|WP.s<|WP.g<|WL.m (int 3) rfl<|WL.m (str s38) rfl ?_
            obtain ⟨r61, hr61, h⟩ := bindE h
            refine W.call S rfl (ascii_Number_ok S.holds (hG.post S.post) s38 hr61) ?_
            rintro v62 w63 H64 hle65 S rfl
            refine WL.m (.tuple ⟨[(int r61.1), (boo r61.2)]⟩) rfl<|WL.w (R.ext rfl rfl)<|WL.w (R.ext rfl rfl)<|WL.w (v := ptr b30 3) (R.ofEq (R.idxAddrA rfl rfl Tryz.underlying219 lay3 ⟨by decide, by decide⟩) rfl)<|W.store (i := 0) [(int r40.1), (int r47.1), (int r54.1), (int r61.1), (int 0)] S rfl rfl rfl lay3 rfl rfl (Nat.le_of_ble_eq_true rfl) rfl ?_
            intro w66 S
            refine WL.a (boo r61.2) rfl<|WL.e<|WP.s<|WP.g<|WL.m (boo r61.2) rfl<|WL.w (R.not rfl)<|WL.e ?_
            rcases condE h with ⟨hc67, h⟩ | ⟨hc67, h⟩
            ·refine WP.condT rfl hc67<|WP.s<|WP.g<|WL.a (int 0) rfl<|WL.a (boo false) rfl<|WL.e ?_
             obtain rfl := oi h
             refine WP.ret (Out.two rfl S rfl rfl ?_)
             exact rfl
            ·refine WP.condF rfl hc67<|WP.skip<|WP.g<|WL.w (v := int 4) (R.ofEq (R.add rfl rfl) rfl)<|WL.m (int 4) rfl<|WL.e<|RD.succ<|WP.s<|WP.g<|WL.w (v := boo true) (R.ofEq (R.lss rfl rfl) rfl)<|WL.e<|WP.s ?_
             refine WP.condT (b := true) rfl rfl<|WP.skip<|WP.s<|WP.block<|WP.s<|WP.g<|WL.m (int 4) rfl<|WL.w (v := str s39) (R.idxA str (l := ([s35, s36, s37, s38, s39] : List Str)) (c := s39) rfl rfl Tryz.underlying220 lay9 rfl rfl)<|WL.a (int 4) rfl<|WL.a (str s39) rfl<|WL.e<|WP.s ?_
             refine WP.g<|WL.a (boo false) rfl<|WL.e<|WP.s<|WP.g<|WL.m (int 4) rfl<|WL.m (str s39) rfl ?_
             obtain ⟨r68, hr68, h⟩ := bindE h
             refine W.call S rfl (ascii_Number_ok S.holds (hG.post S.post) s39 hr68) ?_
             rintro v69 w70 H71 hle72 S rfl
             refine WL.m (.tuple ⟨[(int r68.1), (boo r68.2)]⟩) rfl<|WL.w (R.ext rfl rfl)<|WL.w (R.ext rfl rfl)<|WL.w (v := ptr b30 4) (R.ofEq (R.idxAddrA rfl rfl Tryz.underlying219 lay3 ⟨by decide, by decide⟩) rfl)<|W.store (i := 0) [(int r40.1), (int r47.1), (int r54.1), (int r61.1), (int r68.1)] S rfl rfl rfl lay3 rfl rfl (Nat.le_of_ble_eq_true rfl) rfl ?_
             intro w73 S
             refine WL.a (boo r68.2) rfl<|WL.e<|WP.s<|WP.g<|WL.m (boo r68.2) rfl<|WL.w (R.not rfl)<|WL.e ?_
             rcases condE h with ⟨hc74, h⟩ | ⟨hc74, h⟩
             ·refine WP.condT rfl hc74<|WP.s<|WP.g<|WL.a (int 0) rfl<|WL.a (boo false) rfl<|WL.e ?_
              obtain rfl := oi h
              refine WP.ret (Out.two rfl S rfl rfl ?_)
              exact rfl
             ·refine WP.condF rfl hc74<|WP.skip<|WP.g<|WL.w (v := int 5) (R.ofEq (R.add rfl rfl) rfl)<|WL.m (int 5) rfl<|WL.e<|RD.succ<|WP.s<|WP.g<|WL.w (v := boo false) (R.ofEq (R.lss rfl rfl) rfl)<|WL.e<|WP.s ?_
              refine WP.condF (b := false) rfl rfl<|WP.exit<|WP.s<|WP.g<|WL.m (str p_ppend) rfl ?_
              obtain ⟨s75, hs75, h⟩ := bindE h
              refine WL.w (R.subS rfl rfl rfl Tryz.underlying9 hs75) ?_
              obtain ⟨r76, hr76, h⟩ := bindE h
              refine W.call S rfl (date_index_ok S.holds (hG.post S.post) 12 date_monthName s75 (fun hle hw hG x0 r h => date_monthName_ok hw hG x0 h) hr76) ?_
              rintro v77 w78 H79 hle80 S rfl
              refine WL.w (R.add rfl rfl)<|WL.a (int (wr (r76 + 1))) rfl<|WL.e<|WP.s<|WP.g<|WL.w (v := ptr b30 1) (R.ofEq (R.idxAddrA rfl rfl Tryz.underlying219 lay3 ⟨by decide, by decide⟩) rfl)<|WL.w (R.loadB (i := 0) (v := int r47.1) S rfl rfl lay3 rfl)<|WL.m (int (wr (r76 + 1))) rfl<|WL.w (v := ptr b30 0) (R.ofEq (R.idxAddrA rfl rfl Tryz.underlying219 lay3 ⟨by decide, by decide⟩) rfl)<|WL.w (R.loadB (i := 0) (v := int r40.1) S rfl rfl lay3 rfl) ?_
              obtain ⟨r81, hr81, h⟩ := bindE h
              refine W.call S rfl (date_Days_ok S.holds (hG.post S.post) r47.1 (wr (r76 + 1)) r40.1 hr81) ?_
              rintro v82 w83 H84 hle85 S rfl
              refine WL.a (int r81) rfl<|WL.e<|WP.s<|WP.s<|WP.g<|WL.m (int r81) rfl<|WL.w (R.lss rfl rfl)<|WL.m (boo (decide (r81 < 0))) rfl ?_
              refine WL.grp 4 [86, 87, 88] 89 (boo ((decide (r81 < 0)) || (decide (23 < r54.1)))) ?_ ?_
              ·rcases boolE (decide (r81 < 0)) with hb86 | hb86
               ·refine WL.n rfl rfl hb86<|WL.n rfl rfl hb86<|WL.n rfl rfl hb86<|WL.w (R.pickT rfl hb86 rfl) ?_
                exact WL.e ⟨(orT hb86), ag, rfl⟩
               ·refine WL.y rfl rfl hb86<|WL.w (v := ptr b30 2) (R.ofEq (R.idxAddrA rfl rfl Tryz.underlying219 lay3 ⟨by decide, by decide⟩) rfl)<|WL.y rfl rfl hb86<|WL.w (R.loadB (i := 0) (v := int r54.1) S rfl rfl lay3 rfl)<|WL.y rfl rfl hb86<|WL.w (R.gtr rfl rfl)<|WL.w (R.pickF rfl hb86 rfl) ?_
                exact WL.e ⟨(orF hb86), ag, rfl⟩
              ·intro us
               refine WL.m (boo ((decide (r81 < 0)) || (decide (23 < r54.1)))) rfl ?_
               refine WL.grp 4 [91, 92, 93] 94 (boo (((decide (r81 < 0)) || (decide (23 < r54.1))) || (decide (59 < r61.1)))) ?_ ?_
               ·rcases boolE ((decide (r81 < 0)) || (decide (23 < r54.1))) with hb88 | hb88
                ·refine WL.n rfl rfl hb88<|WL.n rfl rfl hb88<|WL.n rfl rfl hb88<|WL.w (R.pickT rfl hb88 rfl) ?_
                 exact WL.e ⟨(orT hb88), ag, rfl⟩
                ·refine WL.y rfl rfl hb88<|WL.w (v := ptr b30 3) (R.ofEq (R.idxAddrA rfl rfl Tryz.underlying219 lay3 ⟨by decide, by decide⟩) rfl)<|WL.y rfl rfl hb88<|WL.w (R.loadB (i := 0) (v := int r61.1) S rfl rfl lay3 rfl)<|WL.y rfl rfl hb88<|WL.w (R.gtr rfl rfl)<|WL.w (R.pickF rfl hb88 rfl) ?_
                 exact WL.e ⟨(orF hb88), ag, rfl⟩
               ·intro us
                refine WL.m (boo (((decide (r81 < 0)) || (decide (23 < r54.1))) || (decide (59 < r61.1)))) rfl ?_
                refine WL.grp 4 [96, 97, 98] 99 (boo ((((decide (r81 < 0)) || (decide (23 < r54.1))) || (decide (59 < r61.1))) || (decide (59 < r68.1)))) ?_ ?_
                ·rcases boolE (((decide (r81 < 0)) || (decide (23 < r54.1))) || (decide (59 < r61.1))) with hb90 | hb90
                 ·refine WL.n rfl rfl hb90<|WL.n rfl rfl hb90<|WL.n rfl rfl hb90<|WL.w (R.pickT rfl hb90 rfl) ?_
                  exact WL.e ⟨(orT hb90), ag, rfl⟩
                 ·refine WL.y rfl rfl hb90<|WL.w (v := ptr b30 4) (R.ofEq (R.idxAddrA rfl rfl Tryz.underlying219 lay3 ⟨by decide, by decide⟩) rfl)<|WL.y rfl rfl hb90<|WL.w (R.loadB (i := 0) (v := int r68.1) S rfl rfl lay3 rfl)<|WL.y rfl rfl hb90<|WL.w (R.gtr rfl rfl)<|WL.w (R.pickF rfl hb90 rfl) ?_
                  exact WL.e ⟨(orF hb90), ag, rfl⟩
                ·intro us
                 refine WL.m (boo ((((decide (r81 < 0)) || (decide (23 < r54.1))) || (decide (59 < r61.1))) || (decide (59 < r68.1)))) rfl ?_
                 obtain ⟨b101, hg93, h⟩ := bindE h
                 refine WL.grpw 8 [101, 102, 103, 104, 105, 106, 107] 108 (boo b101) (fun w => ∃ H' : Hp, H84.le H' ∧ St w0 H0 w H' [.box b30 219 [(int r40.1), (int r47.1), (int r54.1), (int r61.1), (int r68.1)]]) ?_ ?_
                 ·rcases boolE ((((decide (r81 < 0)) || (decide (23 < r54.1))) || (decide (59 < r61.1))) || (decide (59 < r68.1))) with hb92 | hb92
                  ·replace hg93 := condT hg93 hb92
                   refine WL.n rfl rfl hb92<|WL.n rfl rfl hb92<|WL.n rfl rfl hb92<|WL.n rfl rfl hb92<|WL.n rfl rfl hb92<|WL.n rfl rfl hb92<|WL.n rfl rfl hb92<|WL.w (R.pickT rfl hb92 rfl) ?_
                   exact WL.e ⟨(congrArg boo (oi hg93)), ag, ⟨H84, (Hp.le.refl _), S⟩⟩
                  ·replace hg93 := condF hg93 hb92
                   refine WL.y rfl rfl hb92<|WL.m (str p_ppend) rfl<|WL.y rfl rfl hb92 ?_
                   obtain ⟨s94, hs94, hg93⟩ := bindE hg93
                   refine WL.w (R.subShi rfl rfl Tryz.underlying9 hs94)<|WL.y rfl rfl hb92 ?_
                   obtain ⟨r95, hr95, hg93⟩ := bindE hg93
                   refine W.call S rfl (date_index_ok S.holds (hG.post S.post) 7 date_dayName s94 (fun hle hw hG x0 r h => date_dayName_ok hw hG x0 h) hr95) ?_
                   rintro v96 w97 H98 hle99 S rfl
                   refine WL.y rfl rfl hb92<|WL.m (int r81) rfl<|WL.y rfl rfl hb92<|WL.w (R.add rfl rfl)<|WL.y rfl rfl hb92 ?_
                   obtain ⟨n100, hn100, hg93⟩ := bindE hg93
                   refine WL.w (R.rem' rfl rfl hn100)<|WL.y rfl rfl hb92<|WL.w (R.neq rfl rfl)<|WL.w (R.pickF rfl hb92 rfl) ?_
                   exact WL.e ⟨(congrArg boo (oi hg93)), ag, ⟨H98, hle99, S⟩⟩
                 ·intro us w103 ⟨H102, hle104, S⟩
                  refine WL.e ?_
                  rcases condE h with ⟨hc105, h⟩ | ⟨hc105, h⟩
                  ·refine WP.condT rfl hc105<|WP.s<|WP.g<|WL.a (int 0) rfl<|WL.a (boo false) rfl<|WL.e ?_
                   obtain rfl := oi h
                   refine WP.ret (Out.two rfl S rfl rfl ?_)
                   exact rfl
                  ·refine WP.condF rfl hc105<|WP.skip<|WP.s<|WP.g<|WL.m (int r81) rfl<|WL.w (R.mul rfl rfl)<|WL.w (v := ptr b30 2) (R.ofEq (R.idxAddrA rfl rfl Tryz.underlying219 lay3 ⟨by decide, by decide⟩) rfl)<|WL.w (R.loadB (i := 0) (v := int r54.1) S rfl rfl lay3 rfl)<|WL.w (R.mul rfl rfl)<|WL.w (v := ptr b30 3) (R.ofEq (R.idxAddrA rfl rfl Tryz.underlying219 lay3 ⟨by decide, by decide⟩) rfl)<|WL.w (R.loadB (i := 0) (v := int r61.1) S rfl rfl lay3 rfl)<|WL.w (R.mul rfl rfl) ?_
                   refine WL.w (R.add rfl rfl)<|WL.w (v := ptr b30 4) (R.ofEq (R.idxAddrA rfl rfl Tryz.underlying219 lay3 ⟨by decide, by decide⟩) rfl)<|WL.w (R.loadB (i := 0) (v := int r68.1) S rfl rfl lay3 rfl)<|WL.w (R.add rfl rfl)<|WL.w (R.add rfl rfl)<|WL.a (int (wr ((wr (r81 * 86400)) + (wr ((wr ((wr (r54.1 * 3600)) + (wr (r61.1 * 60)))) + r68.1))))) rfl<|WL.a (boo true) rfl<|WL.e ?_
                   obtain rfl := oi h
                   refine WP.ret (Out.two rfl S rfl rfl ?_)
                   exact rfl
theorem freshness_first_ok {w0 : World} {H0 : Hp} (hw : Holds w0 H0) (hG : Tryz.Gl w0) (p_l : (List GField)) (p_name : Str) {vp_l : Value} (Rp_l : Sl (α := GField) H0 vp_l p_l) {r : (Int × Bool)} (h : freshness_first p_l p_name = some r) :
  Con Tryz.prog 156 [vp_l, (str p_name)] w0 H0 (fun H' v => v = (.tuple ⟨[(int r.1), (boo r.2)]⟩)) := by
 refine Con.mk (N := 18) Tryz.func156 rfl rfl (by kernel_rfl) rfl ?_
 have S := St.start hw
 refine WP.s<|WP.g<|WL.a (int 0) rfl<|WL.a (boo false) rfl<|WL.e<|WP.s<|WP.g<|WL.m (vp_l) rfl<|WL.m (str p_name) rfl ?_
 obtain ⟨r1, hr1, h⟩ := bindE h
 refine W.call S rfl (fieldline_First_ok S.holds (hG.post S.post) p_l p_name Rp_l hr1) ?_
 rintro v2 w3 H4 hle5 S rfl
 refine WL.m (.tuple ⟨[(str r1.1), (boo r1.2)]⟩) rfl<|WL.w (R.ext rfl rfl)<|WL.w (R.ext rfl rfl)<|WL.a (str r1.1) rfl<|WL.a (boo r1.2) rfl<|WL.e<|WP.s<|WP.g<|WL.m (str r1.1) rfl ?_
 obtain ⟨r6, hr6, h⟩ := bindE h
 refine W.call S rfl (date_Parse_ok S.holds (hG.post S.post) r1.1 hr6) ?_
 rintro v7 w8 H9 hle10 S rfl
 refine WL.w (R.ext rfl rfl)<|WL.w (R.ext rfl rfl)<|WL.a (int r6.1) rfl<|WL.a (boo r6.2) rfl<|WL.e ?_
 obtain rfl := oi h
 refine WP.ret (Out.two rfl S rfl rfl ?_)
 exact rfl
theorem freshness_Date_ok {w0 : World} {H0 : Hp} (hw : Holds w0 H0) (hG : Tryz.Gl w0) (p_l : (List GField)) (p_received : Int) {vp_l : Value} (Rp_l : Sl (α := GField) H0 vp_l p_l) {r : Int} (h : freshness_Date p_l p_received = some r) :
  Con Tryz.prog 112 [vp_l, (int p_received)] w0 H0 (fun H' v => v = (int r)) := by
 refine Con.mk (N := 15) Tryz.func112 rfl rfl (by kernel_rfl) rfl ?_
 have S := St.start hw
 refine WP.s<|WP.g<|WL.a (int 0) rfl<|WL.e<|WP.s<|WP.s<|WP.g<|WL.m (vp_l) rfl ?_
 obtain ⟨r1, hr1, h⟩ := bindE h
 refine W.call S rfl (freshness_first_ok S.holds (hG.post S.post) p_l [68, 97, 116, 101] Rp_l hr1) ?_
 rintro v2 w3 H4 hle5 S rfl
 refine WL.m (.tuple ⟨[(int r1.1), (boo r1.2)]⟩) rfl<|WL.w (R.ext rfl rfl)<|WL.w (R.ext rfl rfl)<|WL.a (int r1.1) rfl<|WL.a (boo r1.2) rfl<|WL.e<|WP.s<|WP.g<|WL.m (boo r1.2) rfl<|WL.e ?_
 rcases condE h with ⟨hc6, h⟩ | ⟨hc6, h⟩
 ·refine WP.condT rfl hc6<|WP.s<|WP.g<|WL.m (int r1.1) rfl<|WL.a (int r1.1) rfl<|WL.e ?_
  obtain rfl := oi h
  refine WP.ret (Out.one rfl S rfl ?_)
  exact rfl
 ·refine WP.condF rfl hc6<|WP.skip<|WP.s<|WP.g<|WL.m (int p_received) rfl<|WL.a (int p_received) rfl<|WL.e ?_
  obtain rfl := oi h
  refine WP.ret (Out.one rfl S rfl ?_)
  exact rfl
theorem freshness_saturate_ok {w0 : World} {H0 : Hp} (hw : Holds w0 H0) (hG : Tryz.Gl w0) (p_a : Int) (p_b : Int) {r : Int} (h : freshness_saturate p_a p_b = some r) :
  Con Tryz.prog 113 [(int p_a), (int p_b)] w0 H0 (fun H' v => v = (int r)) := by
 refine Con.mk (N := 10) Tryz.func113 rfl rfl (by kernel_rfl) rfl ?_
 have S := St.start hw
 refine WP.s<|WP.g<|WL.a (int 0) rfl<|WL.e<|WP.s<|WP.g<|WL.m (int p_a) rfl<|WL.m (int p_b) rfl<|WL.w (R.sub rfl rfl)<|WL.w (R.max rfl rfl)<|WL.w (R.min rfl rfl)<|WL.a (int (if 2147483647 < (if (wr (p_a - p_b)) < 0 then 0 else (wr (p_a - p_b))) then 2147483647 else (if (wr (p_a - p_b)) < 0 then 0 else (wr (p_a - p_b))))) rfl ?_
 refine WL.e ?_
 obtain rfl := oi h
 refine WP.ret (Out.one rfl S rfl ?_)
 exact rfl
theorem freshness_Age_ok {w0 : World} {H0 : Hp} (hw : Holds w0 H0) (hG : Tryz.Gl w0) (p_l : (List GField)) (p_requested : Int) (p_received : Int) (p_now : Int) {vp_l : Value} (Rp_l : Sl (α := GField) H0 vp_l p_l) {r : Int} (h : freshness_Age p_l p_requested p_received p_now = some r) :
  Con Tryz.prog 63 [vp_l, (int p_requested), (int p_received), (int p_now)] w0 H0 (fun H' v => v = (int r)) := by
 refine Con.mk (N := 60) Tryz.func63 rfl rfl (by kernel_rfl) rfl ?_
 have S := St.start hw
 refine WP.s<|WP.g<|WL.a (int 0) rfl<|WL.e<|WP.s<|WP.s<|WP.g<|WL.m (int p_requested) rfl<|WL.w (R.lss rfl rfl)<|WL.m (boo (decide (p_requested < 0))) rfl ?_
 refine WL.grp 4 [18, 19, 20] 21 (boo ((decide (p_requested < 0)) || (decide (p_received < p_requested)))) ?_ ?_
 ·rcases boolE (decide (p_requested < 0)) with hb1 | hb1
  ·refine WL.n rfl rfl hb1<|WL.n rfl rfl hb1<|WL.n rfl rfl hb1<|WL.w (R.pickT rfl hb1 rfl) ?_
   exact WL.e ⟨(orT hb1), ag, rfl⟩
  ·refine WL.y rfl rfl hb1<|WL.m (int p_received) rfl<|WL.y rfl rfl hb1<|WL.m (int p_requested) rfl<|WL.y rfl rfl hb1<|WL.w (R.lss rfl rfl)<|WL.w (R.pickF rfl hb1 rfl) ?_
   exact WL.e ⟨(orF hb1), ag, rfl⟩
 ·intro us
  refine WL.m (boo ((decide (p_requested < 0)) || (decide (p_received < p_requested)))) rfl ?_
  refine WL.grp 4 [23, 24, 25] 26 (boo (((decide (p_requested < 0)) || (decide (p_received < p_requested))) || (decide (p_now < p_received)))) ?_ ?_
  ·rcases boolE ((decide (p_requested < 0)) || (decide (p_received < p_requested))) with hb3 | hb3
   ·refine WL.n rfl rfl hb3<|WL.n rfl rfl hb3<|WL.n rfl rfl hb3<|WL.w (R.pickT rfl hb3 rfl) ?_
    exact WL.e ⟨(orT hb3), ag, rfl⟩
   ·refine WL.y rfl rfl hb3<|WL.m (int p_now) rfl<|WL.y rfl rfl hb3<|WL.m (int p_received) rfl<|WL.y rfl rfl hb3<|WL.w (R.lss rfl rfl)<|WL.w (R.pickF rfl hb3 rfl) ?_
    exact WL.e ⟨(orF hb3), ag, rfl⟩
  ·intro us
   refine WL.m (boo (((decide (p_requested < 0)) || (decide (p_received < p_requested))) || (decide (p_now < p_received)))) rfl ?_
   refine WL.grp 3 [28, 29] 30 (boo ((((decide (p_requested < 0)) || (decide (p_received < p_requested))) || (decide (p_now < p_received))) || (decide (1099511627776 < p_now)))) ?_ ?_
   ·rcases boolE (((decide (p_requested < 0)) || (decide (p_received < p_requested))) || (decide (p_now < p_received))) with hb5 | hb5
    ·refine WL.n rfl rfl hb5<|WL.n rfl rfl hb5<|WL.w (R.pickT rfl hb5 rfl) ?_
     exact WL.e ⟨(orT hb5), ag, rfl⟩
    ·refine WL.y rfl rfl hb5<|WL.m (int p_now) rfl<|WL.y rfl rfl hb5<|WL.w (R.gtr rfl rfl)<|WL.w (R.pickF rfl hb5 rfl) ?_
     exact WL.e ⟨(orF hb5), ag, rfl⟩
   ·intro us
    refine WL.e ?_
    rcases condE h with ⟨hc7, h⟩ | ⟨hc7, h⟩
    ·refine WP.condT rfl hc7<|WP.s<|WP.g<|WL.a (int 2147483647) rfl<|WL.e ?_
     obtain rfl := oi h
     refine WP.ret (Out.one rfl S rfl ?_)
     exact rfl
    ·refine WP.condF rfl hc7<|WP.skip<|WP.s<|WP.g<|WL.m (vp_l) rfl ?_
     obtain ⟨r8, hr8, h⟩ := bindE h
     refine W.call S rfl (fieldline_First_ok S.holds (hG.post S.post) p_l [65, 103, 101] Rp_l hr8) ?_
     rintro v9 w10 H11 hle12 S rfl
     have Rp_l := Sl.mono Rp_l hle12
     refine WL.m (.tuple ⟨[(str r8.1), (boo r8.2)]⟩) rfl<|WL.w (R.ext rfl rfl)<|WL.w (R.ext rfl rfl)<|WL.a (str r8.1) rfl<|WL.a (boo r8.2) rfl<|WL.e<|WP.s<|WP.g<|WL.m (str r8.1) rfl ?_
     obtain ⟨r13, hr13, h⟩ := bindE h
     refine W.call S rfl (ascii_Number_ok S.holds (hG.post S.post) r8.1 hr13) ?_
     rintro v14 w15 H16 hle17 S rfl
     have Rp_l := Sl.mono Rp_l hle17
     refine WL.m (.tuple ⟨[(int r13.1), (boo r13.2)]⟩) rfl<|WL.w (R.ext rfl rfl)<|WL.w (R.ext rfl rfl)<|WL.a (int r13.1) rfl<|WL.a (boo r13.2) rfl<|WL.e<|WP.s<|WP.g<|WL.m (int p_received) rfl<|WL.m (vp_l) rfl<|WL.m (int p_received) rfl ?_
     obtain ⟨r18, hr18, h⟩ := bindE h
     refine W.call S rfl (freshness_Date_ok S.holds (hG.post S.post) p_l p_received Rp_l hr18) ?_
     rintro v19 w20 H21 hle22 S rfl
     refine WL.w (R.sub rfl rfl)<|WL.w (R.max rfl rfl)<|WL.a (int (if 0 < (wr (p_received - r18)) then (wr (p_received - r18)) else 0)) rfl<|WL.e<|WP.s<|WP.g<|WL.m (int r13.1) rfl<|WL.m (int p_received) rfl<|WL.w (R.add rfl rfl)<|WL.m (int p_requested) rfl<|WL.w (R.sub rfl rfl)<|WL.a (int (wr ((wr (r13.1 + p_received)) - p_requested))) rfl ?_
     refine WL.e<|WP.s<|WP.g<|WL.m (int (if 0 < (wr (p_received - r18)) then (wr (p_received - r18)) else 0)) rfl<|WL.m (int (wr ((wr (r13.1 + p_received)) - p_requested))) rfl<|WL.w (R.max rfl rfl)<|WL.m (int p_now) rfl<|WL.w (R.add rfl rfl)<|WL.m (int p_received) rfl<|WL.w (R.sub rfl rfl) ?_
     obtain ⟨r23, hr23, h⟩ := bindE h
     refine W.call S rfl (freshness_saturate_ok S.holds (hG.post S.post) (wr ((wr ((if (if 0 < (wr (p_received - r18)) then (wr (p_received - r18)) else 0) < (wr ((wr (r13.1 + p_received)) - p_requested)) then (wr ((wr (r13.1 + p_received)) - p_requested)) else (if 0 < (wr (p_received - r18)) then (wr (p_received - r18)) else 0)) + p_now)) - p_received)) 0 hr23) ?_
     rintro v24 w25 H26 hle27 S rfl
     refine WL.a (int r23) rfl<|WL.e ?_
     obtain rfl := oi h
     refine WP.ret (Out.one rfl S rfl ?_)
     exact rfl
theorem entry_Age_ok {w0 : World} {H0 : Hp} (hw : Holds w0 H0) (hG : Tryz.Gl w0) (p_e : GEntry) (p_now : Int) {vp_e0 : Value} {vp_e1 : Value} {vp_e2 : Value} {vp_e4 : Value} (Rp_e0 : Sl (α := (List Str)) H0 vp_e0 p_e.fKeys) (Rp_e1 : Sl (α := Str) H0 vp_e1 p_e.fVary) (Rp_e2 : Sl (α := Str) H0 vp_e2 p_e.fSnapshot) (Rp_e4 : Sl (α := GField) H0 vp_e4 p_e.fFields) {r : Int} (h : entry_Age p_e p_now = some r) :
  Con Tryz.prog 32 [(agg [vp_e0, vp_e1, vp_e2, (str p_e.fReason), vp_e4, (str p_e.fBody), (int p_e.fRequested), (int p_e.fReceived)]), (int p_now)] w0 H0 (fun H' v => v = (int r)) := by
 refine Con.mk (N := 13) Tryz.func32 rfl rfl (by kernel_rfl) rfl ?_
 have S := St.start hw
 refine WP.s<|WP.g<|W.box [vp_e0, vp_e1, vp_e2, (str p_e.fReason), vp_e4, (str p_e.fBody), (int p_e.fRequested), (int p_e.fReceived)] S rfl rfl ?_
 intro b1 w2 S
 refine WL.a (int 0) rfl<|WL.e<|WP.s<|WP.g<|WL.w (R.fieldB rfl fld26_4)<|WL.w (R.loadB (i := 0) (v := vp_e4) S rfl rfl lay24 rfl)<|WL.w (R.fieldB rfl fld26_6)<|WL.w (R.loadB (i := 0) (v := int p_e.fRequested) S rfl rfl lay2 rfl)<|WL.w (R.fieldB rfl fld26_7)<|WL.w (R.loadB (i := 0) (v := int p_e.fReceived) S rfl rfl lay2 rfl)<|WL.m (int p_now) rfl ?_
 obtain ⟨r3, hr3, h⟩ := bindE h
 refine W.call S rfl (freshness_Age_ok S.holds (hG.post S.post) p_e.fFields p_e.fRequested p_e.fReceived p_now Rp_e4 hr3) ?_
 rintro v4 w5 H6 hle7 S rfl
 refine WL.a (int r3) rfl<|WL.e ?_
 obtain rfl := oi h
 refine WP.ret (Out.one rfl S rfl ?_)
 exact rfl
theorem fieldline_Remove_1_ok {w0 : World} {H0 : Hp} (hw : Holds w0 H0) (hG : Tryz.Gl w0) (p_f : GField) (c_x0 : (GField → Option Bool)) {ac_x0 : Addr} {kc_x0 : FuncId} {cc_x0 : List Value} (Ac_x0 : At H0 ac_x0 [(.func (.func kc_x0) #[] cc_x0.toArray)]) (Fc_x0 : ∀ {w : World} {H : Hp}, H0.le H → Holds w H → Tryz.Gl w → ∀ (x0 : GField) (rr : Bool), c_x0 x0 = some rr → Con Tryz.prog kc_x0 ([(agg [(str x0.fName), (str x0.fValue)])] ++ cc_x0) w H (fun H' v => v = (boo rr))) {r : Bool} (h : fieldline_Remove_1 p_f c_x0 = some r) :
  Con Tryz.prog 108 [(agg [(str p_f.fName), (str p_f.fValue)]), (.pointer (some ac_x0))] w0 H0 (fun H' v => v = (boo r)) := by
 refine Con.mk (N := 8) Tryz.func108 rfl rfl (by kernel_rfl) rfl ?_
 have S := St.start hw
 refine WP.s<|WP.g<|W.box [(str p_f.fName), (str p_f.fValue)] S rfl rfl ?_
 intro b1 w2 S
 refine WL.a (boo false) rfl<|WL.e<|WP.s<|WP.g<|WL.w (R.loadH (v := .func (.func kc_x0) #[] cc_x0.toArray) S rfl Ac_x0 lay94 rfl)<|WL.w (R.loadBN (i := 0) (vs := [(str p_f.fName), (str p_f.fValue)]) S rfl rfl lay53 rfl rfl) ?_
 obtain ⟨r3, hr3, h⟩ := bindE h
 refine W.callv S rfl rfl (Fc_x0 (S.post.le) S.holds (hG.post S.post) p_f _ hr3) ?_
 rintro v4 w5 H6 hle7 S rfl
 refine WL.w (R.not rfl)<|WL.a (boo (!r3)) rfl<|WL.e ?_
 obtain rfl := oi h
 refine WP.ret (Out.one rfl S rfl ?_)
 exact rfl
theorem ascii_Decimal_ok {w0 : World} {H0 : Hp} (hw : Holds w0 H0) (hG : Tryz.Gl w0) (p_n : Int) {r : Str} (h : ascii_Decimal p_n = some r) :
  Con Tryz.prog 61 [(int p_n)] w0 H0 (fun H' v => v = (str r)) := by
 refine Con.mk (N := 5) Tryz.func61 rfl rfl (by kernel_rfl) rfl ?_
 have S := St.start hw
 refine WP.s<|WP.g<|WL.a (str []) rfl<|WL.e<|WP.s<|WP.g<|WL.m (int p_n) rfl ?_
 obtain ⟨r1, hr1, h⟩ := bindE h
 refine W.call S rfl (strconv_Itoa_ok S.holds (hG.post S.post) p_n hr1) ?_
 rintro v2 w3 H4 hle5 S rfl
 refine WL.a (str r1) rfl<|WL.e ?_
 obtain rfl := oi h
 refine WP.ret (Out.one rfl S rfl ?_)
 exact rfl
theorem hop_Via_ok {w0 : World} {H0 : Hp} (hw : Holds w0 H0) (hG : Tryz.Gl w0) (p_l : (List GField)) (p_minor : Int) (p_name : Str) {vp_l : Value} (Rp_l : Sl (α := GField) H0 vp_l p_l) {r : (List GField)} (h : hop_Via p_l p_minor p_name = some r) :
  Con Tryz.prog 62 [vp_l, (int p_minor), (str p_name)] w0 H0 (fun H' v => Sl (α := GField) H' v r) := by
 refine Con.mk (N := 20) Tryz.func62 rfl rfl (by kernel_rfl) rfl ?_
 have S := St.start hw
 refine WP.s<|WP.g<|WL.a (.slice none 0 0) rfl<|WL.e<|WP.s<|WP.g<|WL.m (vp_l) rfl ?_
 have S := S.addNil 53 2
 obtain ⟨l1, hl1, h⟩ := bindE h
 refine W.app (α := GField) (i := 0) S el24 rfl rfl rfl Sl.nil Rp_l hl1 ?_
 intro v2 w3 H4 hle5 R6 S
 refine WL.a (v2) rfl<|WL.e<|WP.s<|WP.g<|WL.m (v2) rfl<|WL.m (int p_minor) rfl ?_
 obtain ⟨r7, hr7, h⟩ := bindE h
 refine W.call S rfl (ascii_Decimal_ok S.holds (hG.post S.post) p_minor hr7) ?_
 rintro v8 w9 H10 hle11 S rfl
 have R6 := Sl.mono R6 hle11
 obtain ⟨s12, hs12, h⟩ := bindE h
 refine WL.w (R.cat (a := [49, 46]) (b := r7) rfl rfl hs12) ?_
 obtain ⟨s13, hs13, h⟩ := bindE h
 refine WL.w (R.cat (a := s12) (b := [32]) rfl rfl hs13)<|WL.m (str p_name) rfl ?_
 obtain ⟨s14, hs14, h⟩ := bindE h
 refine WL.w (R.cat (a := s13) (b := p_name) rfl rfl hs14)<|WL.w (R.build [(0, (str [86, 105, 97])), (1, (str s14))] [(str [86, 105, 97]), (str s14)] bp53 zer53 rfl rfl)<|W.bslice (α := GField) [(agg [(str [86, 105, 97]), (str s14)])] ([(⟨[86, 105, 97], s14⟩ : GField)] : List GField) S el24 rfl rfl rfl (by decide) (Go.Eng.encS ⟨rfl, rfl⟩ enc0) ?_
 intro u15 w16 H17 hle18 R19 S
 have R6 := Sl.mono R6 hle18
 obtain ⟨l20, hl20, h⟩ := bindE h
 refine W.app (α := GField) (i := 1) S el24 rfl rfl rfl R6 R19 hl20 ?_
 intro v21 w22 H23 hle24 R25 S
 refine WL.a (v21) rfl<|WL.e ?_
 obtain rfl := oi h
 refine WP.ret (Out.one rfl S rfl ?_)
 exact R25
theorem fieldline_filter_okR {w0 ws : World} {H0 Hs : Hp} {L2 : List Ent} (hG : Tryz.Gl w0) (p_l : (List GField)) (p_keep : (GField → Option Bool)) {vp_l : Value} {kp_keep : FuncId} {cp_keep : List Value} (S : St w0 H0 ws Hs (L2)) (Rp_l : Sl (α := GField) Hs vp_l p_l) (Fp_keep : ∀ {w : World} {H : Hp}, Hs.le H → Holds w H → Tryz.Gl w → ∀ (x0 : GField) (rr : Bool), p_keep x0 = some rr → Con Tryz.prog kp_keep ([(agg [(str x0.fName), (str x0.fValue)])] ++ cp_keep) w H (fun H' v => v = (boo rr))) {r : (List GField)} (h : fieldline_filter p_l p_keep = some r) :
  ConS Tryz.prog 107 [vp_l, (.func (.func kp_keep) #[] cp_keep.toArray)] w0 H0 ws Hs L2 (fun H' v L' => ∃ u1 : Value, L' = [.row u1 53 2 r.length] ∧ v = u1 ∧ Sl (α := GField) H' u1 r) := by
 refine ConS.mk (N := 23) Tryz.func107 rfl rfl (by kernel_rfl) rfl<|WP.s<|WP.g<|WL.a (.slice none 0 0) rfl<|WL.e<|WP.s<|WP.g<|WL.a (.slice none 0 0) rfl<|WL.e<|WP.s<|WP.s<|WP.g ?_
 refine WL.m (vp_l) rfl<|WL.w (R.lenL (α := GField) (xs := p_l) (H := Hs) Rp_l rfl Tryz.underlying24)<|WL.m (int 0) rfl<|WL.e ?_
 have S := S.addNil 53 2
 obtain ⟨out_13, hr22, h⟩ := bindE h
 refine WP.cut (fun f w => ∃ (H12 : Hp) (v14 : Value), f 5 = v14 ∧ Sl (α := GField) H12 v14 out_13 ∧ Hp.le Hs H12 ∧ St w0 H0 w H12 (.row v14 53 2 out_13.length :: L2)) ?_ ?_
 ·refine WP.block ?_
  refine WP.loopM (fieldline_filter_L0 p_l p_keep) (fun s f w => match s with | (out_3, y_9) => ∃ (H1 : Hp) (v4 : Value), f 1 = (.func (.func kp_keep) #[] cp_keep.toArray) ∧ f 5 = v4 ∧ f 8 = vp_l ∧ f 9 = (int (p_l.length : Int)) ∧ f 10 = (int y_9) ∧ Sl (α := GField) H1 v4 out_3 ∧ Sl (α := GField) H1 vp_l p_l ∧ Hp.le Hs H1 ∧ St w0 H0 w H1 (.row v4 53 2 out_3.length :: L2)) (([] : List GField), 0) out_13 hr22 ?_ ?_
  ·exact ⟨Hs, .slice none 0 0, rfl, rfl, rfl, rfl, rfl, Sl.nil, Rp_l, (Hp.le.refl _), S⟩
  ·intro s f w hI y18 hy19 hy20
   obtain ⟨out_3, y_9⟩ := s
   obtain ⟨H1, v4, h2, h6, h7, h8, h10, R5, Rp_l, hE11, S⟩ := hI
   refine WP.s<|WP.g<|WL.w (R.lss h10 h8)<|WL.e<|WP.s ?_
   rcases condE hy19 with ⟨hc23, hy19⟩ | ⟨hc23, hy19⟩
   ·refine WP.condT rfl hc23<|WP.skip<|WP.s<|WP.block<|WP.s<|WP.g ?_
    obtain ⟨x24, hx24, hy19⟩ := bindE hy19
    refine W.idx (α := GField) Rp_l h7 h10 el24 hx24 ?_
    rintro a25 _ hA26 rfl
    refine WL.w (R.loadHN (vs := [(str x24.fName), (str x24.fValue)]) S rfl hA26 lay53 rfl rfl)<|W.alloc [(str []), (str [])] S zer53 ?_
    intro b27 w28 S
    refine W.store (i := 0) [(str x24.fName), (str x24.fValue)] S rfl rfl rfl lay53 rfl rfl (Nat.le_of_ble_eq_true rfl) rfl ?_
    intro w29 S
    refine WL.e<|WP.s<|WP.g<|WL.m (.func (.func kp_keep) #[] cp_keep.toArray) h2<|WL.w (R.loadBN (i := 0) (vs := [(str x24.fName), (str x24.fValue)]) S rfl rfl lay53 rfl rfl) ?_
    obtain ⟨r30, hr30, hy19⟩ := bindE hy19
    refine W.callv S rfl rfl (Fp_keep hE11 S.holds (hG.post S.post) x24 _ hr30) ?_
    rintro v31 w32 H33 hle34 S rfl
    have R5 := Sl.mono R5 hle34
    have Rp_l := Sl.mono Rp_l hle34
    refine WL.e ?_
    rcases condE hy19 with ⟨hc35, hy19⟩ | ⟨hc35, hy19⟩
    ·refine WP.condT rfl hc35<|WP.g<|WL.m (v4) h6<|WL.w (R.loadBN (i := 0) (vs := [(str x24.fName), (str x24.fValue)]) S rfl rfl lay53 rfl rfl)<|W.bslice (α := GField) [(agg [(str x24.fName), (str x24.fValue)])] ([x24] : List GField) S el24 rfl rfl rfl (by decide) (Go.Eng.encS ⟨rfl, rfl⟩ enc0) ?_
     intro u36 w37 H38 hle39 R40 S
     have R5 := Sl.mono R5 hle39
     have Rp_l := Sl.mono Rp_l hle39
     obtain ⟨l41, hl41, hy19⟩ := bindE hy19
     refine W.app (α := GField) (i := 2) S el24 rfl rfl rfl R5 R40 hl41 ?_
     intro v42 w43 H44 hle45 R46 S
     have R5 := Sl.mono R5 hle45
     have Rp_l := Sl.mono Rp_l hle45
     refine WL.a (v42) rfl<|WL.e<|WP.g<|WL.w (R.add h10 rfl)<|WL.m (int (wr (y_9 + 1))) rfl<|WL.e ?_
     obtain rfl := oi hy19
     exact ⟨rfl, ⟨H44, v42, h2, rfl, h7, h8, rfl, R46, Rp_l, (((hE11.trans hle34).trans hle39).trans hle45), (S.drop _ (.cons _ (.cons _ (.cons_cons _ (.refl _)))))⟩⟩
    ·refine WP.condF rfl hc35<|WP.skip<|WP.g<|WL.w (R.add h10 rfl)<|WL.m (int (wr (y_9 + 1))) rfl<|WL.e ?_
     obtain rfl := oi hy19
     exact ⟨rfl, ⟨H33, v4, h2, h6, h7, h8, rfl, R5, Rp_l, (hE11.trans hle34), (S.drop _ (.cons _ (.cons_cons _ (.refl _))))⟩⟩
   ·refine WP.condF rfl hc23<|WP.exit ?_
    obtain rfl := oi hy19
    obtain rfl := hy20
    exact ⟨H1, v4, h6, R5, hE11, S⟩
 ·rintro f w ⟨H12, v14, h16, R15, hE17, S⟩
  refine WP.s<|WP.g<|WL.m (v14) h16<|WL.a (v14) rfl<|WL.e ?_
  obtain rfl := oi h
  have S3 := S
  have S3 := S3.front 0 rfl
  replace S3 : St w0 H0 _ H12 (.row v14 53 2 out_13.length :: L2) := S3
  replace S3 : St w0 H0 _ H12 (.row v14 53 2 out_13.length :: L2) := S3.drop _ (.cons_cons _ (.refl _))
  refine WP.ret (OutS.one (L' := [.row v14 53 2 out_13.length]) rfl hE17 S3 rfl ?_)
  exact ⟨_, rfl, rfl, R15⟩
theorem fieldline_Remove_okR {w0 ws : World} {H0 Hs : Hp} {L2 : List Ent} (hG : Tryz.Gl w0) (p_l : (List GField)) (p_name : Str) {vp_l : Value} (S : St w0 H0 ws Hs (L2)) (Rp_l : Sl (α := GField) Hs vp_l p_l) {r : (List GField)} (h : fieldline_Remove p_l p_name = some r) :
  ConS Tryz.prog 60 [vp_l, (str p_name)] w0 H0 ws Hs L2 (fun H' v L' => ∃ u1 : Value, L' = [.row u1 53 2 r.length] ∧ v = u1 ∧ Sl (α := GField) H' u1 r) := by
 refine ConS.mk (N := 11) Tryz.func60 rfl rfl (by kernel_rfl) rfl<|WP.s<|WP.g<|WL.a (.slice none 0 0) rfl<|WL.e<|WP.s<|WP.g<|WL.m (str p_name) rfl ?_
 obtain ⟨r1, hr1, h⟩ := bindE h
 refine W.call S rfl (fieldline_named_ok S.holds (hG.post S.post) p_name hr1) ?_
 rintro v2 w3 H4 hle5 S ⟨kr1, cr1, rfl, Fr1⟩
 have Rp_l := Sl.mono Rp_l hle5
 refine W.alloc [.nilFunc] S zer94 ?_
 intro b6 w7 S
 refine W.store (i := 0) [(.func (.func kr1) #[] cr1.toArray)] S rfl rfl rfl lay94 rfl rfl (Nat.le_of_ble_eq_true rfl) rfl ?_
 intro w8 S
 refine WL.e<|WP.s<|WP.g<|WL.m (vp_l) rfl ?_
 obtain ⟨H9, hle10, hs11, _, S⟩ := S.settle (i := 0) rfl
 replace S : St w0 H0 _ H9 (L2) := S
 have hA12 : At H9 ⟨b6, 0, none⟩ [(.func (.func kr1) #[] cr1.toArray)] := ⟨_, _, rfl, hs11, [], by simp⟩
 have Rp_l := Sl.mono Rp_l hle10
 refine WL.w (R.mkFunc (vs := [(.pointer (some ⟨b6, 0, none⟩))]) rfl) ?_
 obtain ⟨r13, hr13, h⟩ := bindE h
 refine W.callS rfl (fieldline_filter_okR hG p_l (fun x0 => fieldline_Remove_1 x0 r1) S Rp_l (fun hle hw hG x0 r h => fieldline_Remove_1_ok hw hG x0 r1 (At.mono hA12 hle (by simp)) (fun hle2 => Fr1 (Hp.le.trans (Hp.le.trans hle10 hle) hle2)) h) hr13) ?_
 rintro v14 w15 H16 L20 hle17 S ⟨_, rfl, rfl, R19⟩
 replace S : St w0 H0 _ H16 (.row v14 53 2 r13.length :: L2) := S
 refine WL.a (v14) rfl<|WL.e ?_
 obtain rfl := oi h
 have S3 := S
 have S3 := S3.front 0 rfl
 replace S3 : St w0 H0 _ H16 (.row v14 53 2 r13.length :: L2) := S3
 replace S3 : St w0 H0 _ H16 (.row v14 53 2 r13.length :: L2) := S3.drop _ (.cons_cons _ (.refl _))
 refine WP.ret (OutS.one (L' := [.row v14 53 2 r13.length]) rfl ((hle5.trans hle10).trans hle17) S3 rfl ?_)
 exact ⟨_, rfl, rfl, R19⟩
end Go.Proofs
