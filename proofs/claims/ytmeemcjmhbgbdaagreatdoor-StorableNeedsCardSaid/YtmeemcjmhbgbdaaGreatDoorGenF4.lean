/- A part of the proof of laws of the seat: written by program over the translation. -/
import Derived.Test.YtmeemcjmhbgbdaaGreatDoorGenF3
namespace Go.Proofs
open Go.Eng Go.Eng.Pure
set_option linter.unusedVariables false
set_option maxRecDepth 10000 in
set_option maxHeartbeats 4000000 in
theorem date_Days_ok {w0 : World} {H0 : Hp} (hw : Holds w0 H0) (p_year : Int) (p_month : Int) (p_day : Int) {r : Int} (h : date_Days p_year p_month p_day = some r) :
    Con Tryz.prog 57 [(int p_year), (int p_month), (int p_day)] w0 H0 (fun H' v => v = (int r)) := by
  refine Con.mk (N := 52) Tryz.func57 rfl rfl (by kernel_rfl) rfl ?_
  have S := St.start hw
  refine WP.seq ?_
  refine WP.region ?_
  refine WL.valw (R.as (v := (int 0)) rfl) ?_
  refine WL.nil ?_
  refine WP.seq ?_
  refine WP.seq ?_
  refine WP.region ?_
  refine WL.valw (R.mv (v := (int p_year)) rfl) ?_
  refine WL.valw (R.lss rfl rfl) ?_
  refine WL.valw (R.mv (v := (boo (decide (p_year < 1970)))) rfl) ?_
  refine WL.grp 3 [12, 13] 14 (boo ((decide (p_year < 1970)) || (decide (9999 < p_year)))) ?_ ?_
  · rcases boolE (decide (p_year < 1970)) with hb1 | hb1
    · refine WL.gno rfl rfl hb1 ?_
      refine WL.gno rfl rfl hb1 ?_
      refine WL.valw (R.pickT rfl hb1 rfl) ?_
      exact WL.nil ⟨(orT hb1), (by repeat (first | refine agree_upd rfl ?_ | refine agree_upds' rfl ?_ | exact agree_refl)), rfl⟩
    · refine WL.gyes rfl rfl hb1 ?_
      refine WL.valw (R.mv (v := (int p_year)) rfl) ?_
      refine WL.gyes rfl rfl hb1 ?_
      refine WL.valw (R.gtr rfl rfl) ?_
      refine WL.valw (R.pickF rfl hb1 rfl) ?_
      exact WL.nil ⟨(orF hb1), (by repeat (first | refine agree_upd rfl ?_ | refine agree_upds' rfl ?_ | exact agree_refl)), rfl⟩
  · intro us
    refine WL.valw (R.mv (v := (boo ((decide (p_year < 1970)) || (decide (9999 < p_year))))) rfl) ?_
    refine WL.grp 3 [16, 17] 18 (boo (((decide (p_year < 1970)) || (decide (9999 < p_year))) || (decide (p_month < 1)))) ?_ ?_
    · rcases boolE ((decide (p_year < 1970)) || (decide (9999 < p_year))) with hb3 | hb3
      · refine WL.gno rfl rfl hb3 ?_
        refine WL.gno rfl rfl hb3 ?_
        refine WL.valw (R.pickT rfl hb3 rfl) ?_
        exact WL.nil ⟨(orT hb3), (by repeat (first | refine agree_upd rfl ?_ | refine agree_upds' rfl ?_ | exact agree_refl)), rfl⟩
      · refine WL.gyes rfl rfl hb3 ?_
        refine WL.valw (R.mv (v := (int p_month)) rfl) ?_
        refine WL.gyes rfl rfl hb3 ?_
        refine WL.valw (R.lss rfl rfl) ?_
        refine WL.valw (R.pickF rfl hb3 rfl) ?_
        exact WL.nil ⟨(orF hb3), (by repeat (first | refine agree_upd rfl ?_ | refine agree_upds' rfl ?_ | exact agree_refl)), rfl⟩
    · intro us
      refine WL.valw (R.mv (v := (boo (((decide (p_year < 1970)) || (decide (9999 < p_year))) || (decide (p_month < 1))))) rfl) ?_
      refine WL.grp 3 [20, 21] 22 (boo ((((decide (p_year < 1970)) || (decide (9999 < p_year))) || (decide (p_month < 1))) || (decide (12 < p_month)))) ?_ ?_
      · rcases boolE (((decide (p_year < 1970)) || (decide (9999 < p_year))) || (decide (p_month < 1))) with hb5 | hb5
        · refine WL.gno rfl rfl hb5 ?_
          refine WL.gno rfl rfl hb5 ?_
          refine WL.valw (R.pickT rfl hb5 rfl) ?_
          exact WL.nil ⟨(orT hb5), (by repeat (first | refine agree_upd rfl ?_ | refine agree_upds' rfl ?_ | exact agree_refl)), rfl⟩
        · refine WL.gyes rfl rfl hb5 ?_
          refine WL.valw (R.mv (v := (int p_month)) rfl) ?_
          refine WL.gyes rfl rfl hb5 ?_
          refine WL.valw (R.gtr rfl rfl) ?_
          refine WL.valw (R.pickF rfl hb5 rfl) ?_
          exact WL.nil ⟨(orF hb5), (by repeat (first | refine agree_upd rfl ?_ | refine agree_upds' rfl ?_ | exact agree_refl)), rfl⟩
      · intro us
        refine WL.valw (R.mv (v := (boo ((((decide (p_year < 1970)) || (decide (9999 < p_year))) || (decide (p_month < 1))) || (decide (12 < p_month))))) rfl) ?_
        refine WL.grp 3 [24, 25] 26 (boo (((((decide (p_year < 1970)) || (decide (9999 < p_year))) || (decide (p_month < 1))) || (decide (12 < p_month))) || (decide (p_day < 1)))) ?_ ?_
        · rcases boolE ((((decide (p_year < 1970)) || (decide (9999 < p_year))) || (decide (p_month < 1))) || (decide (12 < p_month))) with hb7 | hb7
          · refine WL.gno rfl rfl hb7 ?_
            refine WL.gno rfl rfl hb7 ?_
            refine WL.valw (R.pickT rfl hb7 rfl) ?_
            exact WL.nil ⟨(orT hb7), (by repeat (first | refine agree_upd rfl ?_ | refine agree_upds' rfl ?_ | exact agree_refl)), rfl⟩
          · refine WL.gyes rfl rfl hb7 ?_
            refine WL.valw (R.mv (v := (int p_day)) rfl) ?_
            refine WL.gyes rfl rfl hb7 ?_
            refine WL.valw (R.lss rfl rfl) ?_
            refine WL.valw (R.pickF rfl hb7 rfl) ?_
            exact WL.nil ⟨(orF hb7), (by repeat (first | refine agree_upd rfl ?_ | refine agree_upds' rfl ?_ | exact agree_refl)), rfl⟩
        · intro us
          refine WL.valw (R.mv (v := (boo (((((decide (p_year < 1970)) || (decide (9999 < p_year))) || (decide (p_month < 1))) || (decide (12 < p_month))) || (decide (p_day < 1))))) rfl) ?_
          obtain ⟨b16, hg10, h⟩ := bindE h
          refine WL.grpw 6 [28, 29, 30, 31, 32] 33 (boo b16) (fun w => ∃ H' : Hp, H0.le H' ∧ St w0 H0 w H' []) ?_ ?_
          · rcases boolE (((((decide (p_year < 1970)) || (decide (9999 < p_year))) || (decide (p_month < 1))) || (decide (12 < p_month))) || (decide (p_day < 1))) with hb9 | hb9
            · replace hg10 := condT hg10 hb9
              refine WL.gno rfl rfl hb9 ?_
              refine WL.gno rfl rfl hb9 ?_
              refine WL.gno rfl rfl hb9 ?_
              refine WL.gno rfl rfl hb9 ?_
              refine WL.gno rfl rfl hb9 ?_
              refine WL.valw (R.pickT rfl hb9 rfl) ?_
              exact WL.nil ⟨(congrArg boo (Option.some.inj hg10)), (by repeat (first | refine agree_upd rfl ?_ | refine agree_upds' rfl ?_ | exact agree_refl)), ⟨H0, (Hp.le.refl _), S⟩⟩
            · replace hg10 := condF hg10 hb9
              refine WL.gyes rfl rfl hb9 ?_
              refine WL.valw (R.mv (v := (int p_day)) rfl) ?_
              refine WL.gyes rfl rfl hb9 ?_
              refine WL.valw (R.mv (v := (int p_year)) rfl) ?_
              refine WL.gyes rfl rfl hb9 ?_
              refine WL.valw (R.mv (v := (int p_month)) rfl) ?_
              refine WL.gyes rfl rfl hb9 ?_
              obtain ⟨r11, hr11, hg10⟩ := bindE hg10
              refine W.call S rfl (date_length_ok S.holds p_year p_month hr11) ?_
              rintro v12 w13 H14 hle15 S rfl
              refine WL.gyes rfl rfl hb9 ?_
              refine WL.valw (R.gtr rfl rfl) ?_
              refine WL.valw (R.pickF rfl hb9 rfl) ?_
              exact WL.nil ⟨(congrArg boo (Option.some.inj hg10)), (by repeat (first | refine agree_upd rfl ?_ | refine agree_upds' rfl ?_ | exact agree_refl)), ⟨H14, hle15, S⟩⟩
          · intro us w18 ⟨H17, hle19, S⟩
            refine WL.nil ?_
            rcases condE h with ⟨hc20, h⟩ | ⟨hc20, h⟩
            · refine WP.condT rfl hc20 ?_
              refine WP.seq ?_
              refine WP.region ?_
              refine WL.valw (R.as (v := (int (-1))) rfl) ?_
              refine WL.nil ?_
              obtain rfl := Option.some.inj h
              refine WP.ret (Out.one rfl S rfl ?_)
              exact rfl
            · refine WP.condF rfl hc20 ?_
              refine WP.skip ?_
              refine WP.seq ?_
              refine WP.region ?_
              refine WL.valw (R.mv (v := (int p_year)) rfl) ?_
              obtain ⟨r21, hr21, h⟩ := bindE h
              refine W.call S rfl (date_before_ok S.holds p_year hr21) ?_
              rintro v22 w23 H24 hle25 S rfl
              obtain ⟨r26, hr26, h⟩ := bindE h
              refine W.call S rfl (date_before_ok S.holds 1970 hr26) ?_
              rintro v27 w28 H29 hle30 S rfl
              refine WL.valw (R.sub rfl rfl) ?_
              refine WL.valw (R.mv (v := (int p_day)) rfl) ?_
              refine WL.valw (R.add rfl rfl) ?_
              refine WL.valw (R.sub rfl rfl) ?_
              refine WL.valw (R.as (v := (int (wr ((wr ((wr (r21 - r26)) + p_day)) - 1)))) rfl) ?_
              refine WL.nil ?_
              refine WP.seq ?_
              refine WP.seq ?_
              refine WP.region ?_
              refine WL.valw (R.as (v := (int 1)) rfl) ?_
              refine WL.nil ?_
              obtain ⟨n_39, hr45, h⟩ := bindE h
              refine WP.cut (fun f w => ∃ (H38 : Hp), f 7 = (int n_39) ∧ St w0 H0 w H38 []) ?_ ?_
              · refine WP.block ?_
                refine WP.loopM (date_Days_L0 p_year p_month) (fun s f w => match s with | (n_34, m_36) => ∃ (H31 : Hp), f 0 = (int p_year) ∧ f 1 = (int p_month) ∧ f 7 = (int n_34) ∧ f 8 = (int m_36) ∧ St w0 H0 w H31 []) (wr ((wr ((wr (r21 - r26)) + p_day)) - 1), 1) n_39 hr45 ?_ ?_
                · exact ⟨H29, rfl, rfl, rfl, rfl, S⟩
                · intro s f w hI y41 hy42 hy43
                  obtain ⟨n_34, m_36⟩ := s
                  obtain ⟨H31, h32, h33, h35, h37, S⟩ := hI
                  refine WP.seq ?_
                  refine WP.seq ?_
                  refine WP.region ?_
                  refine WL.valw (R.mv (v := (int m_36)) h37) ?_
                  refine WL.valw (R.mv (v := (int p_month)) h33) ?_
                  refine WL.valw (R.lss rfl rfl) ?_
                  refine WL.nil ?_
                  rcases condE hy42 with ⟨hc46, hy42⟩ | ⟨hc46, hy42⟩
                  · refine WP.condT rfl hc46 ?_
                    refine WP.skip ?_
                    refine WP.seq ?_
                    refine WP.block ?_
                    refine WP.region ?_
                    refine WL.valw (R.mv (v := (int n_34)) h35) ?_
                    refine WL.valw (R.mv (v := (int p_year)) h32) ?_
                    refine WL.valw (R.mv (v := (int m_36)) h37) ?_
                    obtain ⟨r47, hr47, hy42⟩ := bindE hy42
                    refine W.call S rfl (date_length_ok S.holds p_year m_36 hr47) ?_
                    rintro v48 w49 H50 hle51 S rfl
                    refine WL.valw (R.add rfl rfl) ?_
                    refine WL.valw (R.as (v := (int (wr (n_34 + r47)))) rfl) ?_
                    refine WL.nil ?_
                    refine WP.region ?_
                    refine WL.valw (R.mv (v := (int m_36)) h37) ?_
                    refine WL.valw (R.add rfl rfl) ?_
                    refine WL.valw (R.as (v := (int (wr (m_36 + 1)))) rfl) ?_
                    refine WL.nil ?_
                    obtain rfl := Option.some.inj hy42
                    exact ⟨rfl, ⟨H50, h32, h33, rfl, rfl, S⟩⟩
                  · refine WP.condF rfl hc46 ?_
                    refine WP.exit ?_
                    obtain rfl := Option.some.inj hy42
                    obtain rfl := hy43
                    exact ⟨H31, h35, S⟩
              · rintro f w ⟨H38, h40, S⟩
                refine WP.seq ?_
                refine WP.region ?_
                refine WL.valw (R.mv (v := (int n_39)) h40) ?_
                refine WL.valw (R.as (v := (int n_39)) rfl) ?_
                refine WL.nil ?_
                obtain rfl := Option.some.inj h
                refine WP.ret (Out.one rfl S rfl ?_)
                exact rfl
set_option maxRecDepth 10000 in
set_option maxHeartbeats 4000000 in
theorem date_dayName_ok {w0 : World} {H0 : Hp} (hw : Holds w0 H0) (p_i : Int) {r : Str} (h : date_dayName p_i = some r) :
    Con Tryz.prog 58 [(int p_i)] w0 H0 (fun H' v => v = (str r)) := by
  refine Con.mk (N := 6) Tryz.func58 rfl rfl (by kernel_rfl) rfl ?_
  have S := St.start hw
  refine WP.seq ?_
  refine WP.region ?_
  refine WL.valw (R.as (v := (str [])) rfl) ?_
  refine WL.nil ?_
  refine WP.seq ?_
  refine WP.region ?_
  refine WL.valw (R.buildArr [(0, (str [77, 111, 110])), (1, (str [84, 117, 101])), (2, (str [87, 101, 100])), (3, (str [84, 104, 117])), (4, (str [70, 114, 105])), (5, (str [83, 97, 116])), (6, (str [83, 117, 110]))] [(str [77, 111, 110]), (str [84, 117, 101]), (str [87, 101, 100]), (str [84, 104, 117]), (str [70, 114, 105]), (str [83, 97, 116]), (str [83, 117, 110])] Tryz.underlying94 lay9 zer94 rfl rfl) ?_
  refine WL.valw (R.mv (v := (int p_i)) rfl) ?_
  obtain ⟨s1, hs1, h⟩ := bindE h
  refine WL.valw (R.idxA str (l := ([[77, 111, 110], [84, 117, 101], [87, 101, 100], [84, 104, 117], [70, 114, 105], [83, 97, 116], [83, 117, 110]] : List Str)) rfl rfl Tryz.underlying94 lay9 rfl hs1) ?_
  refine WL.valw (R.as (v := (str s1)) rfl) ?_
  refine WL.nil ?_
  obtain rfl := Option.some.inj h
  refine WP.ret (Out.one rfl S rfl ?_)
  exact rfl
set_option maxRecDepth 10000 in
set_option maxHeartbeats 4000000 in
theorem date_Parse_ok {w0 : World} {H0 : Hp} (hw : Holds w0 H0) (p_ppend : Str) {r : (Int × Bool)} (h : date_Parse p_ppend = some r) :
    Con Tryz.prog 28 [(str p_ppend)] w0 H0 (fun H' v => v = (.tuple ⟨[(int r.1), (boo r.2)]⟩)) := by
  refine Con.mk (N := 122) Tryz.func28 rfl rfl (by kernel_rfl) rfl ?_
  have S := St.start hw
  refine WP.seq ?_
  refine WP.region ?_
  refine WL.valw (R.as (v := (int 0)) rfl) ?_
  refine WL.valw (R.as (v := (boo false)) rfl) ?_
  refine WL.nil ?_
  refine WP.seq ?_
  refine WP.seq ?_
  refine WP.region ?_
  refine WL.valw (R.mv (v := (str p_ppend)) rfl) ?_
  refine WL.valw (R.lenS (a := p_ppend) rfl Tryz.underlying9) ?_
  refine WL.valw (R.neq rfl rfl) ?_
  refine WL.valw (R.mv (v := (boo ((p_ppend.length : Int) != 29))) rfl) ?_
  obtain ⟨b4, hg2, h⟩ := bindE h
  refine WL.grp 4 [14, 15, 16] 17 (boo b4) ?_ ?_
  · rcases boolE ((p_ppend.length : Int) != 29) with hb1 | hb1
    · replace hg2 := condT hg2 hb1
      refine WL.gno rfl rfl hb1 ?_
      refine WL.gno rfl rfl hb1 ?_
      refine WL.gno rfl rfl hb1 ?_
      refine WL.valw (R.pickT rfl hb1 rfl) ?_
      exact WL.nil ⟨(congrArg boo (Option.some.inj hg2)), (by repeat (first | refine agree_upd rfl ?_ | refine agree_upds' rfl ?_ | exact agree_refl)), rfl⟩
    · replace hg2 := condF hg2 hb1
      refine WL.gyes rfl rfl hb1 ?_
      refine WL.valw (R.mv (v := (str p_ppend)) rfl) ?_
      refine WL.gyes rfl rfl hb1 ?_
      obtain ⟨s3, hs3, hg2⟩ := bindE hg2
      refine WL.valw (R.subS rfl rfl rfl Tryz.underlying9 hs3) ?_
      refine WL.gyes rfl rfl hb1 ?_
      refine WL.valw (R.neqS (a := s3) (b := [44, 32]) rfl rfl) ?_
      refine WL.valw (R.pickF rfl hb1 rfl) ?_
      exact WL.nil ⟨(congrArg boo (Option.some.inj hg2)), (by repeat (first | refine agree_upd rfl ?_ | refine agree_upds' rfl ?_ | exact agree_refl)), rfl⟩
  · intro us
    refine WL.valw (R.mv (v := (boo b4)) rfl) ?_
    obtain ⟨b8, hg6, h⟩ := bindE h
    refine WL.grp 4 [19, 20, 21] 22 (boo b8) ?_ ?_
    · rcases boolE b4 with hb5 | hb5
      · replace hg6 := condT hg6 hb5
        refine WL.gno rfl rfl hb5 ?_
        refine WL.gno rfl rfl hb5 ?_
        refine WL.gno rfl rfl hb5 ?_
        refine WL.valw (R.pickT rfl hb5 rfl) ?_
        exact WL.nil ⟨(congrArg boo (Option.some.inj hg6)), (by repeat (first | refine agree_upd rfl ?_ | refine agree_upds' rfl ?_ | exact agree_refl)), rfl⟩
      · replace hg6 := condF hg6 hb5
        refine WL.gyes rfl rfl hb5 ?_
        refine WL.valw (R.mv (v := (str p_ppend)) rfl) ?_
        refine WL.gyes rfl rfl hb5 ?_
        obtain ⟨c7, hc7, hg6⟩ := bindE hg6
        refine WL.valw (R.idxS rfl rfl Tryz.underlying9 hc7) ?_
        refine WL.gyes rfl rfl hb5 ?_
        refine WL.valw (R.neq8 (a := c7) (b := 32) rfl rfl) ?_
        refine WL.valw (R.pickF rfl hb5 rfl) ?_
        exact WL.nil ⟨(congrArg boo (Option.some.inj hg6)), (by repeat (first | refine agree_upd rfl ?_ | refine agree_upds' rfl ?_ | exact agree_refl)), rfl⟩
    · intro us
      refine WL.valw (R.mv (v := (boo b8)) rfl) ?_
      obtain ⟨b12, hg10, h⟩ := bindE h
      refine WL.grp 4 [24, 25, 26] 27 (boo b12) ?_ ?_
      · rcases boolE b8 with hb9 | hb9
        · replace hg10 := condT hg10 hb9
          refine WL.gno rfl rfl hb9 ?_
          refine WL.gno rfl rfl hb9 ?_
          refine WL.gno rfl rfl hb9 ?_
          refine WL.valw (R.pickT rfl hb9 rfl) ?_
          exact WL.nil ⟨(congrArg boo (Option.some.inj hg10)), (by repeat (first | refine agree_upd rfl ?_ | refine agree_upds' rfl ?_ | exact agree_refl)), rfl⟩
        · replace hg10 := condF hg10 hb9
          refine WL.gyes rfl rfl hb9 ?_
          refine WL.valw (R.mv (v := (str p_ppend)) rfl) ?_
          refine WL.gyes rfl rfl hb9 ?_
          obtain ⟨c11, hc11, hg10⟩ := bindE hg10
          refine WL.valw (R.idxS rfl rfl Tryz.underlying9 hc11) ?_
          refine WL.gyes rfl rfl hb9 ?_
          refine WL.valw (R.neq8 (a := c11) (b := 32) rfl rfl) ?_
          refine WL.valw (R.pickF rfl hb9 rfl) ?_
          exact WL.nil ⟨(congrArg boo (Option.some.inj hg10)), (by repeat (first | refine agree_upd rfl ?_ | refine agree_upds' rfl ?_ | exact agree_refl)), rfl⟩
      · intro us
        refine WL.valw (R.mv (v := (boo b12)) rfl) ?_
        obtain ⟨b16, hg14, h⟩ := bindE h
        refine WL.grp 4 [29, 30, 31] 32 (boo b16) ?_ ?_
        · rcases boolE b12 with hb13 | hb13
          · replace hg14 := condT hg14 hb13
            refine WL.gno rfl rfl hb13 ?_
            refine WL.gno rfl rfl hb13 ?_
            refine WL.gno rfl rfl hb13 ?_
            refine WL.valw (R.pickT rfl hb13 rfl) ?_
            exact WL.nil ⟨(congrArg boo (Option.some.inj hg14)), (by repeat (first | refine agree_upd rfl ?_ | refine agree_upds' rfl ?_ | exact agree_refl)), rfl⟩
          · replace hg14 := condF hg14 hb13
            refine WL.gyes rfl rfl hb13 ?_
            refine WL.valw (R.mv (v := (str p_ppend)) rfl) ?_
            refine WL.gyes rfl rfl hb13 ?_
            obtain ⟨c15, hc15, hg14⟩ := bindE hg14
            refine WL.valw (R.idxS rfl rfl Tryz.underlying9 hc15) ?_
            refine WL.gyes rfl rfl hb13 ?_
            refine WL.valw (R.neq8 (a := c15) (b := 32) rfl rfl) ?_
            refine WL.valw (R.pickF rfl hb13 rfl) ?_
            exact WL.nil ⟨(congrArg boo (Option.some.inj hg14)), (by repeat (first | refine agree_upd rfl ?_ | refine agree_upds' rfl ?_ | exact agree_refl)), rfl⟩
        · intro us
          refine WL.valw (R.mv (v := (boo b16)) rfl) ?_
          obtain ⟨b20, hg18, h⟩ := bindE h
          refine WL.grp 4 [34, 35, 36] 37 (boo b20) ?_ ?_
          · rcases boolE b16 with hb17 | hb17
            · replace hg18 := condT hg18 hb17
              refine WL.gno rfl rfl hb17 ?_
              refine WL.gno rfl rfl hb17 ?_
              refine WL.gno rfl rfl hb17 ?_
              refine WL.valw (R.pickT rfl hb17 rfl) ?_
              exact WL.nil ⟨(congrArg boo (Option.some.inj hg18)), (by repeat (first | refine agree_upd rfl ?_ | refine agree_upds' rfl ?_ | exact agree_refl)), rfl⟩
            · replace hg18 := condF hg18 hb17
              refine WL.gyes rfl rfl hb17 ?_
              refine WL.valw (R.mv (v := (str p_ppend)) rfl) ?_
              refine WL.gyes rfl rfl hb17 ?_
              obtain ⟨c19, hc19, hg18⟩ := bindE hg18
              refine WL.valw (R.idxS rfl rfl Tryz.underlying9 hc19) ?_
              refine WL.gyes rfl rfl hb17 ?_
              refine WL.valw (R.neq8 (a := c19) (b := 58) rfl rfl) ?_
              refine WL.valw (R.pickF rfl hb17 rfl) ?_
              exact WL.nil ⟨(congrArg boo (Option.some.inj hg18)), (by repeat (first | refine agree_upd rfl ?_ | refine agree_upds' rfl ?_ | exact agree_refl)), rfl⟩
          · intro us
            refine WL.valw (R.mv (v := (boo b20)) rfl) ?_
            obtain ⟨b24, hg22, h⟩ := bindE h
            refine WL.grp 4 [39, 40, 41] 42 (boo b24) ?_ ?_
            · rcases boolE b20 with hb21 | hb21
              · replace hg22 := condT hg22 hb21
                refine WL.gno rfl rfl hb21 ?_
                refine WL.gno rfl rfl hb21 ?_
                refine WL.gno rfl rfl hb21 ?_
                refine WL.valw (R.pickT rfl hb21 rfl) ?_
                exact WL.nil ⟨(congrArg boo (Option.some.inj hg22)), (by repeat (first | refine agree_upd rfl ?_ | refine agree_upds' rfl ?_ | exact agree_refl)), rfl⟩
              · replace hg22 := condF hg22 hb21
                refine WL.gyes rfl rfl hb21 ?_
                refine WL.valw (R.mv (v := (str p_ppend)) rfl) ?_
                refine WL.gyes rfl rfl hb21 ?_
                obtain ⟨c23, hc23, hg22⟩ := bindE hg22
                refine WL.valw (R.idxS rfl rfl Tryz.underlying9 hc23) ?_
                refine WL.gyes rfl rfl hb21 ?_
                refine WL.valw (R.neq8 (a := c23) (b := 58) rfl rfl) ?_
                refine WL.valw (R.pickF rfl hb21 rfl) ?_
                exact WL.nil ⟨(congrArg boo (Option.some.inj hg22)), (by repeat (first | refine agree_upd rfl ?_ | refine agree_upds' rfl ?_ | exact agree_refl)), rfl⟩
            · intro us
              refine WL.valw (R.mv (v := (boo b24)) rfl) ?_
              obtain ⟨b28, hg26, h⟩ := bindE h
              refine WL.grp 4 [44, 45, 46] 47 (boo b28) ?_ ?_
              · rcases boolE b24 with hb25 | hb25
                · replace hg26 := condT hg26 hb25
                  refine WL.gno rfl rfl hb25 ?_
                  refine WL.gno rfl rfl hb25 ?_
                  refine WL.gno rfl rfl hb25 ?_
                  refine WL.valw (R.pickT rfl hb25 rfl) ?_
                  exact WL.nil ⟨(congrArg boo (Option.some.inj hg26)), (by repeat (first | refine agree_upd rfl ?_ | refine agree_upds' rfl ?_ | exact agree_refl)), rfl⟩
                · replace hg26 := condF hg26 hb25
                  refine WL.gyes rfl rfl hb25 ?_
                  refine WL.valw (R.mv (v := (str p_ppend)) rfl) ?_
                  refine WL.gyes rfl rfl hb25 ?_
                  obtain ⟨s27, hs27, hg26⟩ := bindE hg26
                  refine WL.valw (R.subSlo rfl rfl Tryz.underlying9 hs27) ?_
                  refine WL.gyes rfl rfl hb25 ?_
                  refine WL.valw (R.neqS (a := s27) (b := [32, 71, 77, 84]) rfl rfl) ?_
                  refine WL.valw (R.pickF rfl hb25 rfl) ?_
                  exact WL.nil ⟨(congrArg boo (Option.some.inj hg26)), (by repeat (first | refine agree_upd rfl ?_ | refine agree_upds' rfl ?_ | exact agree_refl)), rfl⟩
              · intro us
                refine WL.nil ?_
                rcases condE h with ⟨hc29, h⟩ | ⟨hc29, h⟩
                · refine WP.condT rfl hc29 ?_
                  refine WP.seq ?_
                  refine WP.region ?_
                  refine WL.valw (R.as (v := (int 0)) rfl) ?_
                  refine WL.valw (R.as (v := (boo false)) rfl) ?_
                  refine WL.nil ?_
                  obtain rfl := Option.some.inj h
                  refine WP.ret (Out.two rfl S rfl rfl ?_)
                  exact rfl
                · refine WP.condF rfl hc29 ?_
                  refine WP.skip ?_
                  refine WP.seq ?_
                  refine WP.region ?_
                  refine W.alloc [(int 0), (int 0), (int 0), (int 0), (int 0)] S zer75 ?_
                  intro b30 w31 S
                  refine WL.nil ?_
                  refine WP.seq ?_
                  refine WP.seq ?_
                  refine WP.quiet S (by kernel_rfl) (by kernel_rfl) ?_
                  refine WQ.val (fun _ _ => (R.mv (v := (str p_ppend)) rfl)) ?_
                  obtain ⟨s35, hs35, h⟩ := bindE h
                  refine WQ.val (fun _ _ => (R.subS rfl rfl rfl Tryz.underlying9 hs35)) ?_
                  refine WQ.val (fun _ _ => (R.mv (v := (str p_ppend)) rfl)) ?_
                  obtain ⟨s36, hs36, h⟩ := bindE h
                  refine WQ.val (fun _ _ => (R.subS rfl rfl rfl Tryz.underlying9 hs36)) ?_
                  refine WQ.val (fun _ _ => (R.mv (v := (str p_ppend)) rfl)) ?_
                  obtain ⟨s37, hs37, h⟩ := bindE h
                  refine WQ.val (fun _ _ => (R.subS rfl rfl rfl Tryz.underlying9 hs37)) ?_
                  refine WQ.val (fun _ _ => (R.mv (v := (str p_ppend)) rfl)) ?_
                  obtain ⟨s38, hs38, h⟩ := bindE h
                  refine WQ.val (fun _ _ => (R.subS rfl rfl rfl Tryz.underlying9 hs38)) ?_
                  refine WQ.val (fun _ _ => (R.mv (v := (str p_ppend)) rfl)) ?_
                  obtain ⟨s39, hs39, h⟩ := bindE h
                  refine WQ.val (fun _ _ => (R.subS rfl rfl rfl Tryz.underlying9 hs39)) ?_
                  refine WQ.val (fun _ _ => (R.buildArr [(0, (str s35)), (1, (str s36)), (2, (str s37)), (3, (str s38)), (4, (str s39))] [(str s35), (str s36), (str s37), (str s38), (str s39)] Tryz.underlying76 lay9 zer76 rfl rfl)) ?_
                  refine WQ.val (fun _ _ => (R.mv (v := (int 0)) rfl)) ?_
                  refine WQ.nil ?_
                  intro w32 H33 hle34 S
                  refine WP.block ?_
                  refine WP.loopRd 6 ?_
                  refine RD.succ ?_
                  refine WP.seq ?_
                  refine WP.region ?_
                  refine WL.valw (v := (boo true)) (R.ofEq (R.lss rfl rfl) rfl) ?_
                  refine WL.nil ?_
                  refine WP.seq ?_
                  refine WP.condT (b := true) rfl rfl ?_
                  refine WP.skip ?_
                  refine WP.seq ?_
                  refine WP.block ?_
                  refine WP.seq ?_
                  refine WP.region ?_
                  refine WL.valw (R.mv (v := (int 0)) rfl) ?_
                  refine WL.valw (v := (str s35)) (R.idxA str (l := ([s35, s36, s37, s38, s39] : List Str)) (c := s35) rfl rfl Tryz.underlying76 lay9 rfl rfl) ?_
                  refine WL.valw (R.as (v := (int 0)) rfl) ?_
                  refine WL.valw (R.as (v := (str s35)) rfl) ?_
                  refine WL.nil ?_
                  refine WP.seq ?_
                  refine WP.region ?_
                  refine WL.valw (R.as (v := (boo false)) rfl) ?_
                  refine WL.nil ?_
                  refine WP.seq ?_
                  refine WP.region ?_
                  refine WL.valw (R.mv (v := (int 0)) rfl) ?_
                  refine WL.valw (R.mv (v := (str s35)) rfl) ?_
                  obtain ⟨r40, hr40, h⟩ := bindE h
                  refine W.call S rfl (ascii_Number_ok S.holds s35 hr40) ?_
                  rintro v41 w42 H43 hle44 S rfl
                  refine WL.valw (R.mv (v := (.tuple ⟨[(int r40.1), (boo r40.2)]⟩)) rfl) ?_
                  refine WL.valw (R.ext rfl rfl) ?_
                  refine WL.valw (R.ext rfl rfl) ?_
                  refine WL.valw (v := (ptr b30 0)) (R.ofEq (R.idxAddrA rfl rfl Tryz.underlying75 lay3 ⟨by decide, by decide⟩) rfl) ?_
                  refine W.store (i := 0) [(int r40.1), (int 0), (int 0), (int 0), (int 0)] S rfl rfl rfl lay3 rfl rfl (Nat.le_of_ble_eq_true rfl) rfl ?_
                  intro w45 S
                  refine WL.valw (R.as (v := (boo r40.2)) rfl) ?_
                  refine WL.nil ?_
                  refine WP.seq ?_
                  refine WP.region ?_
                  refine WL.valw (R.mv (v := (boo r40.2)) rfl) ?_
                  refine WL.valw (R.not rfl) ?_
                  refine WL.nil ?_
                  rcases condE h with ⟨hc46, h⟩ | ⟨hc46, h⟩
                  · refine WP.condT rfl hc46 ?_
                    refine WP.seq ?_
                    refine WP.region ?_
                    refine WL.valw (R.as (v := (int 0)) rfl) ?_
                    refine WL.valw (R.as (v := (boo false)) rfl) ?_
                    refine WL.nil ?_
                    obtain rfl := Option.some.inj h
                    refine WP.ret (Out.two rfl S rfl rfl ?_)
                    exact rfl
                  · refine WP.condF rfl hc46 ?_
                    refine WP.skip ?_
                    refine WP.region ?_
                    refine WL.valw (v := (int 1)) (R.ofEq (R.add rfl rfl) rfl) ?_
                    refine WL.valw (R.mv (v := (int 1)) rfl) ?_
                    refine WL.nil ?_
                    refine RD.succ ?_
                    refine WP.seq ?_
                    refine WP.region ?_
                    refine WL.valw (v := (boo true)) (R.ofEq (R.lss rfl rfl) rfl) ?_
                    refine WL.nil ?_
                    refine WP.seq ?_
                    refine WP.condT (b := true) rfl rfl ?_
                    refine WP.skip ?_
                    refine WP.seq ?_
                    refine WP.block ?_
                    refine WP.seq ?_
                    refine WP.region ?_
                    refine WL.valw (R.mv (v := (int 1)) rfl) ?_
                    refine WL.valw (v := (str s36)) (R.idxA str (l := ([s35, s36, s37, s38, s39] : List Str)) (c := s36) rfl rfl Tryz.underlying76 lay9 rfl rfl) ?_
                    refine WL.valw (R.as (v := (int 1)) rfl) ?_
                    refine WL.valw (R.as (v := (str s36)) rfl) ?_
                    refine WL.nil ?_
                    refine WP.seq ?_
                    refine WP.region ?_
                    refine WL.valw (R.as (v := (boo false)) rfl) ?_
                    refine WL.nil ?_
                    refine WP.seq ?_
                    refine WP.region ?_
                    refine WL.valw (R.mv (v := (int 1)) rfl) ?_
                    refine WL.valw (R.mv (v := (str s36)) rfl) ?_
                    obtain ⟨r47, hr47, h⟩ := bindE h
                    refine W.call S rfl (ascii_Number_ok S.holds s36 hr47) ?_
                    rintro v48 w49 H50 hle51 S rfl
                    refine WL.valw (R.mv (v := (.tuple ⟨[(int r47.1), (boo r47.2)]⟩)) rfl) ?_
                    refine WL.valw (R.ext rfl rfl) ?_
                    refine WL.valw (R.ext rfl rfl) ?_
                    refine WL.valw (v := (ptr b30 1)) (R.ofEq (R.idxAddrA rfl rfl Tryz.underlying75 lay3 ⟨by decide, by decide⟩) rfl) ?_
                    refine W.store (i := 0) [(int r40.1), (int r47.1), (int 0), (int 0), (int 0)] S rfl rfl rfl lay3 rfl rfl (Nat.le_of_ble_eq_true rfl) rfl ?_
                    intro w52 S
                    refine WL.valw (R.as (v := (boo r47.2)) rfl) ?_
                    refine WL.nil ?_
                    refine WP.seq ?_
                    refine WP.region ?_
                    refine WL.valw (R.mv (v := (boo r47.2)) rfl) ?_
                    refine WL.valw (R.not rfl) ?_
                    refine WL.nil ?_
                    rcases condE h with ⟨hc53, h⟩ | ⟨hc53, h⟩
                    · refine WP.condT rfl hc53 ?_
                      refine WP.seq ?_
                      refine WP.region ?_
                      refine WL.valw (R.as (v := (int 0)) rfl) ?_
                      refine WL.valw (R.as (v := (boo false)) rfl) ?_
                      refine WL.nil ?_
                      obtain rfl := Option.some.inj h
                      refine WP.ret (Out.two rfl S rfl rfl ?_)
                      exact rfl
                    · refine WP.condF rfl hc53 ?_
                      refine WP.skip ?_
                      refine WP.region ?_
                      refine WL.valw (v := (int 2)) (R.ofEq (R.add rfl rfl) rfl) ?_
                      refine WL.valw (R.mv (v := (int 2)) rfl) ?_
                      refine WL.nil ?_
                      refine RD.succ ?_
                      refine WP.seq ?_
                      refine WP.region ?_
                      refine WL.valw (v := (boo true)) (R.ofEq (R.lss rfl rfl) rfl) ?_
                      refine WL.nil ?_
                      refine WP.seq ?_
                      refine WP.condT (b := true) rfl rfl ?_
                      refine WP.skip ?_
                      refine WP.seq ?_
                      refine WP.block ?_
                      refine WP.seq ?_
                      refine WP.region ?_
                      refine WL.valw (R.mv (v := (int 2)) rfl) ?_
                      refine WL.valw (v := (str s37)) (R.idxA str (l := ([s35, s36, s37, s38, s39] : List Str)) (c := s37) rfl rfl Tryz.underlying76 lay9 rfl rfl) ?_
                      refine WL.valw (R.as (v := (int 2)) rfl) ?_
                      refine WL.valw (R.as (v := (str s37)) rfl) ?_
                      refine WL.nil ?_
                      refine WP.seq ?_
                      refine WP.region ?_
                      refine WL.valw (R.as (v := (boo false)) rfl) ?_
                      refine WL.nil ?_
                      refine WP.seq ?_
                      refine WP.region ?_
                      refine WL.valw (R.mv (v := (int 2)) rfl) ?_
                      refine WL.valw (R.mv (v := (str s37)) rfl) ?_
                      obtain ⟨r54, hr54, h⟩ := bindE h
                      refine W.call S rfl (ascii_Number_ok S.holds s37 hr54) ?_
                      rintro v55 w56 H57 hle58 S rfl
                      refine WL.valw (R.mv (v := (.tuple ⟨[(int r54.1), (boo r54.2)]⟩)) rfl) ?_
                      refine WL.valw (R.ext rfl rfl) ?_
                      refine WL.valw (R.ext rfl rfl) ?_
                      refine WL.valw (v := (ptr b30 2)) (R.ofEq (R.idxAddrA rfl rfl Tryz.underlying75 lay3 ⟨by decide, by decide⟩) rfl) ?_
                      refine W.store (i := 0) [(int r40.1), (int r47.1), (int r54.1), (int 0), (int 0)] S rfl rfl rfl lay3 rfl rfl (Nat.le_of_ble_eq_true rfl) rfl ?_
                      intro w59 S
                      refine WL.valw (R.as (v := (boo r54.2)) rfl) ?_
                      refine WL.nil ?_
                      refine WP.seq ?_
                      refine WP.region ?_
                      refine WL.valw (R.mv (v := (boo r54.2)) rfl) ?_
                      refine WL.valw (R.not rfl) ?_
                      refine WL.nil ?_
                      rcases condE h with ⟨hc60, h⟩ | ⟨hc60, h⟩
                      · refine WP.condT rfl hc60 ?_
                        refine WP.seq ?_
                        refine WP.region ?_
                        refine WL.valw (R.as (v := (int 0)) rfl) ?_
                        refine WL.valw (R.as (v := (boo false)) rfl) ?_
                        refine WL.nil ?_
                        obtain rfl := Option.some.inj h
                        refine WP.ret (Out.two rfl S rfl rfl ?_)
                        exact rfl
                      · refine WP.condF rfl hc60 ?_
                        refine WP.skip ?_
                        refine WP.region ?_
                        refine WL.valw (v := (int 3)) (R.ofEq (R.add rfl rfl) rfl) ?_
                        refine WL.valw (R.mv (v := (int 3)) rfl) ?_
                        refine WL.nil ?_
                        refine RD.succ ?_
                        refine WP.seq ?_
                        refine WP.region ?_
                        refine WL.valw (v := (boo true)) (R.ofEq (R.lss rfl rfl) rfl) ?_
                        refine WL.nil ?_
                        refine WP.seq ?_
                        refine WP.condT (b := true) rfl rfl ?_
                        refine WP.skip ?_
                        refine WP.seq ?_
                        refine WP.block ?_
                        refine WP.seq ?_
                        refine WP.region ?_
                        refine WL.valw (R.mv (v := (int 3)) rfl) ?_
                        refine WL.valw (v := (str s38)) (R.idxA str (l := ([s35, s36, s37, s38, s39] : List Str)) (c := s38) rfl rfl Tryz.underlying76 lay9 rfl rfl) ?_
                        refine WL.valw (R.as (v := (int 3)) rfl) ?_
                        refine WL.valw (R.as (v := (str s38)) rfl) ?_
                        refine WL.nil ?_
                        refine WP.seq ?_
                        refine WP.region ?_
                        refine WL.valw (R.as (v := (boo false)) rfl) ?_
                        refine WL.nil ?_
                        refine WP.seq ?_
                        refine WP.region ?_
                        refine WL.valw (R.mv (v := (int 3)) rfl) ?_
                        refine WL.valw (R.mv (v := (str s38)) rfl) ?_
                        obtain ⟨r61, hr61, h⟩ := bindE h
                        refine W.call S rfl (ascii_Number_ok S.holds s38 hr61) ?_
                        rintro v62 w63 H64 hle65 S rfl
                        refine WL.valw (R.mv (v := (.tuple ⟨[(int r61.1), (boo r61.2)]⟩)) rfl) ?_
                        refine WL.valw (R.ext rfl rfl) ?_
                        refine WL.valw (R.ext rfl rfl) ?_
                        refine WL.valw (v := (ptr b30 3)) (R.ofEq (R.idxAddrA rfl rfl Tryz.underlying75 lay3 ⟨by decide, by decide⟩) rfl) ?_
                        refine W.store (i := 0) [(int r40.1), (int r47.1), (int r54.1), (int r61.1), (int 0)] S rfl rfl rfl lay3 rfl rfl (Nat.le_of_ble_eq_true rfl) rfl ?_
                        intro w66 S
                        refine WL.valw (R.as (v := (boo r61.2)) rfl) ?_
                        refine WL.nil ?_
                        refine WP.seq ?_
                        refine WP.region ?_
                        refine WL.valw (R.mv (v := (boo r61.2)) rfl) ?_
                        refine WL.valw (R.not rfl) ?_
                        refine WL.nil ?_
                        rcases condE h with ⟨hc67, h⟩ | ⟨hc67, h⟩
                        · refine WP.condT rfl hc67 ?_
                          refine WP.seq ?_
                          refine WP.region ?_
                          refine WL.valw (R.as (v := (int 0)) rfl) ?_
                          refine WL.valw (R.as (v := (boo false)) rfl) ?_
                          refine WL.nil ?_
                          obtain rfl := Option.some.inj h
                          refine WP.ret (Out.two rfl S rfl rfl ?_)
                          exact rfl
                        · refine WP.condF rfl hc67 ?_
                          refine WP.skip ?_
                          refine WP.region ?_
                          refine WL.valw (v := (int 4)) (R.ofEq (R.add rfl rfl) rfl) ?_
                          refine WL.valw (R.mv (v := (int 4)) rfl) ?_
                          refine WL.nil ?_
                          refine RD.succ ?_
                          refine WP.seq ?_
                          refine WP.region ?_
                          refine WL.valw (v := (boo true)) (R.ofEq (R.lss rfl rfl) rfl) ?_
                          refine WL.nil ?_
                          refine WP.seq ?_
                          refine WP.condT (b := true) rfl rfl ?_
                          refine WP.skip ?_
                          refine WP.seq ?_
                          refine WP.block ?_
                          refine WP.seq ?_
                          refine WP.region ?_
                          refine WL.valw (R.mv (v := (int 4)) rfl) ?_
                          refine WL.valw (v := (str s39)) (R.idxA str (l := ([s35, s36, s37, s38, s39] : List Str)) (c := s39) rfl rfl Tryz.underlying76 lay9 rfl rfl) ?_
                          refine WL.valw (R.as (v := (int 4)) rfl) ?_
                          refine WL.valw (R.as (v := (str s39)) rfl) ?_
                          refine WL.nil ?_
                          refine WP.seq ?_
                          refine WP.region ?_
                          refine WL.valw (R.as (v := (boo false)) rfl) ?_
                          refine WL.nil ?_
                          refine WP.seq ?_
                          refine WP.region ?_
                          refine WL.valw (R.mv (v := (int 4)) rfl) ?_
                          refine WL.valw (R.mv (v := (str s39)) rfl) ?_
                          obtain ⟨r68, hr68, h⟩ := bindE h
                          refine W.call S rfl (ascii_Number_ok S.holds s39 hr68) ?_
                          rintro v69 w70 H71 hle72 S rfl
                          refine WL.valw (R.mv (v := (.tuple ⟨[(int r68.1), (boo r68.2)]⟩)) rfl) ?_
                          refine WL.valw (R.ext rfl rfl) ?_
                          refine WL.valw (R.ext rfl rfl) ?_
                          refine WL.valw (v := (ptr b30 4)) (R.ofEq (R.idxAddrA rfl rfl Tryz.underlying75 lay3 ⟨by decide, by decide⟩) rfl) ?_
                          refine W.store (i := 0) [(int r40.1), (int r47.1), (int r54.1), (int r61.1), (int r68.1)] S rfl rfl rfl lay3 rfl rfl (Nat.le_of_ble_eq_true rfl) rfl ?_
                          intro w73 S
                          refine WL.valw (R.as (v := (boo r68.2)) rfl) ?_
                          refine WL.nil ?_
                          refine WP.seq ?_
                          refine WP.region ?_
                          refine WL.valw (R.mv (v := (boo r68.2)) rfl) ?_
                          refine WL.valw (R.not rfl) ?_
                          refine WL.nil ?_
                          rcases condE h with ⟨hc74, h⟩ | ⟨hc74, h⟩
                          · refine WP.condT rfl hc74 ?_
                            refine WP.seq ?_
                            refine WP.region ?_
                            refine WL.valw (R.as (v := (int 0)) rfl) ?_
                            refine WL.valw (R.as (v := (boo false)) rfl) ?_
                            refine WL.nil ?_
                            obtain rfl := Option.some.inj h
                            refine WP.ret (Out.two rfl S rfl rfl ?_)
                            exact rfl
                          · refine WP.condF rfl hc74 ?_
                            refine WP.skip ?_
                            refine WP.region ?_
                            refine WL.valw (v := (int 5)) (R.ofEq (R.add rfl rfl) rfl) ?_
                            refine WL.valw (R.mv (v := (int 5)) rfl) ?_
                            refine WL.nil ?_
                            refine RD.succ ?_
                            refine WP.seq ?_
                            refine WP.region ?_
                            refine WL.valw (v := (boo false)) (R.ofEq (R.lss rfl rfl) rfl) ?_
                            refine WL.nil ?_
                            refine WP.seq ?_
                            refine WP.condF (b := false) rfl rfl ?_
                            refine WP.exit ?_
                            refine WP.seq ?_
                            refine WP.region ?_
                            refine WL.valw (R.mv (v := (str p_ppend)) rfl) ?_
                            obtain ⟨s75, hs75, h⟩ := bindE h
                            refine WL.valw (R.subS rfl rfl rfl Tryz.underlying9 hs75) ?_
                            obtain ⟨r76, hr76, h⟩ := bindE h
                            refine W.call S rfl (date_index_ok S.holds 12 date_monthName s75 (fun hle hw x0 r h => date_monthName_ok hw x0 h) hr76) ?_
                            rintro v77 w78 H79 hle80 S rfl
                            refine WL.valw (R.add rfl rfl) ?_
                            refine WL.valw (R.as (v := (int (wr (r76 + 1)))) rfl) ?_
                            refine WL.nil ?_
                            refine WP.seq ?_
                            refine WP.region ?_
                            refine WL.valw (v := (ptr b30 1)) (R.ofEq (R.idxAddrA rfl rfl Tryz.underlying75 lay3 ⟨by decide, by decide⟩) rfl) ?_
                            refine WL.valw (R.loadB (i := 0) (v := (int r47.1)) S rfl rfl lay3 rfl) ?_
                            refine WL.valw (R.mv (v := (int (wr (r76 + 1)))) rfl) ?_
                            refine WL.valw (v := (ptr b30 0)) (R.ofEq (R.idxAddrA rfl rfl Tryz.underlying75 lay3 ⟨by decide, by decide⟩) rfl) ?_
                            refine WL.valw (R.loadB (i := 0) (v := (int r40.1)) S rfl rfl lay3 rfl) ?_
                            obtain ⟨r81, hr81, h⟩ := bindE h
                            refine W.call S rfl (date_Days_ok S.holds r47.1 (wr (r76 + 1)) r40.1 hr81) ?_
                            rintro v82 w83 H84 hle85 S rfl
                            refine WL.valw (R.as (v := (int r81)) rfl) ?_
                            refine WL.nil ?_
                            refine WP.seq ?_
                            refine WP.seq ?_
                            refine WP.region ?_
                            refine WL.valw (R.mv (v := (int r81)) rfl) ?_
                            refine WL.valw (R.lss rfl rfl) ?_
                            refine WL.valw (R.mv (v := (boo (decide (r81 < 0)))) rfl) ?_
                            refine WL.grp 4 [86, 87, 88] 89 (boo ((decide (r81 < 0)) || (decide (23 < r54.1)))) ?_ ?_
                            · rcases boolE (decide (r81 < 0)) with hb86 | hb86
                              · refine WL.gno rfl rfl hb86 ?_
                                refine WL.gno rfl rfl hb86 ?_
                                refine WL.gno rfl rfl hb86 ?_
                                refine WL.valw (R.pickT rfl hb86 rfl) ?_
                                exact WL.nil ⟨(orT hb86), (by repeat (first | refine agree_upd rfl ?_ | refine agree_upds' rfl ?_ | exact agree_refl)), rfl⟩
                              · refine WL.gyes rfl rfl hb86 ?_
                                refine WL.valw (v := (ptr b30 2)) (R.ofEq (R.idxAddrA rfl rfl Tryz.underlying75 lay3 ⟨by decide, by decide⟩) rfl) ?_
                                refine WL.gyes rfl rfl hb86 ?_
                                refine WL.valw (R.loadB (i := 0) (v := (int r54.1)) S rfl rfl lay3 rfl) ?_
                                refine WL.gyes rfl rfl hb86 ?_
                                refine WL.valw (R.gtr rfl rfl) ?_
                                refine WL.valw (R.pickF rfl hb86 rfl) ?_
                                exact WL.nil ⟨(orF hb86), (by repeat (first | refine agree_upd rfl ?_ | refine agree_upds' rfl ?_ | exact agree_refl)), rfl⟩
                            · intro us
                              refine WL.valw (R.mv (v := (boo ((decide (r81 < 0)) || (decide (23 < r54.1))))) rfl) ?_
                              refine WL.grp 4 [91, 92, 93] 94 (boo (((decide (r81 < 0)) || (decide (23 < r54.1))) || (decide (59 < r61.1)))) ?_ ?_
                              · rcases boolE ((decide (r81 < 0)) || (decide (23 < r54.1))) with hb88 | hb88
                                · refine WL.gno rfl rfl hb88 ?_
                                  refine WL.gno rfl rfl hb88 ?_
                                  refine WL.gno rfl rfl hb88 ?_
                                  refine WL.valw (R.pickT rfl hb88 rfl) ?_
                                  exact WL.nil ⟨(orT hb88), (by repeat (first | refine agree_upd rfl ?_ | refine agree_upds' rfl ?_ | exact agree_refl)), rfl⟩
                                · refine WL.gyes rfl rfl hb88 ?_
                                  refine WL.valw (v := (ptr b30 3)) (R.ofEq (R.idxAddrA rfl rfl Tryz.underlying75 lay3 ⟨by decide, by decide⟩) rfl) ?_
                                  refine WL.gyes rfl rfl hb88 ?_
                                  refine WL.valw (R.loadB (i := 0) (v := (int r61.1)) S rfl rfl lay3 rfl) ?_
                                  refine WL.gyes rfl rfl hb88 ?_
                                  refine WL.valw (R.gtr rfl rfl) ?_
                                  refine WL.valw (R.pickF rfl hb88 rfl) ?_
                                  exact WL.nil ⟨(orF hb88), (by repeat (first | refine agree_upd rfl ?_ | refine agree_upds' rfl ?_ | exact agree_refl)), rfl⟩
                              · intro us
                                refine WL.valw (R.mv (v := (boo (((decide (r81 < 0)) || (decide (23 < r54.1))) || (decide (59 < r61.1))))) rfl) ?_
                                refine WL.grp 4 [96, 97, 98] 99 (boo ((((decide (r81 < 0)) || (decide (23 < r54.1))) || (decide (59 < r61.1))) || (decide (59 < r68.1)))) ?_ ?_
                                · rcases boolE (((decide (r81 < 0)) || (decide (23 < r54.1))) || (decide (59 < r61.1))) with hb90 | hb90
                                  · refine WL.gno rfl rfl hb90 ?_
                                    refine WL.gno rfl rfl hb90 ?_
                                    refine WL.gno rfl rfl hb90 ?_
                                    refine WL.valw (R.pickT rfl hb90 rfl) ?_
                                    exact WL.nil ⟨(orT hb90), (by repeat (first | refine agree_upd rfl ?_ | refine agree_upds' rfl ?_ | exact agree_refl)), rfl⟩
                                  · refine WL.gyes rfl rfl hb90 ?_
                                    refine WL.valw (v := (ptr b30 4)) (R.ofEq (R.idxAddrA rfl rfl Tryz.underlying75 lay3 ⟨by decide, by decide⟩) rfl) ?_
                                    refine WL.gyes rfl rfl hb90 ?_
                                    refine WL.valw (R.loadB (i := 0) (v := (int r68.1)) S rfl rfl lay3 rfl) ?_
                                    refine WL.gyes rfl rfl hb90 ?_
                                    refine WL.valw (R.gtr rfl rfl) ?_
                                    refine WL.valw (R.pickF rfl hb90 rfl) ?_
                                    exact WL.nil ⟨(orF hb90), (by repeat (first | refine agree_upd rfl ?_ | refine agree_upds' rfl ?_ | exact agree_refl)), rfl⟩
                                · intro us
                                  refine WL.valw (R.mv (v := (boo ((((decide (r81 < 0)) || (decide (23 < r54.1))) || (decide (59 < r61.1))) || (decide (59 < r68.1))))) rfl) ?_
                                  obtain ⟨b101, hg93, h⟩ := bindE h
                                  refine WL.grpw 8 [101, 102, 103, 104, 105, 106, 107] 108 (boo b101) (fun w => ∃ H' : Hp, H84.le H' ∧ St w0 H0 w H' [.box b30 75 [(int r40.1), (int r47.1), (int r54.1), (int r61.1), (int r68.1)]]) ?_ ?_
                                  · rcases boolE ((((decide (r81 < 0)) || (decide (23 < r54.1))) || (decide (59 < r61.1))) || (decide (59 < r68.1))) with hb92 | hb92
                                    · replace hg93 := condT hg93 hb92
                                      refine WL.gno rfl rfl hb92 ?_
                                      refine WL.gno rfl rfl hb92 ?_
                                      refine WL.gno rfl rfl hb92 ?_
                                      refine WL.gno rfl rfl hb92 ?_
                                      refine WL.gno rfl rfl hb92 ?_
                                      refine WL.gno rfl rfl hb92 ?_
                                      refine WL.gno rfl rfl hb92 ?_
                                      refine WL.valw (R.pickT rfl hb92 rfl) ?_
                                      exact WL.nil ⟨(congrArg boo (Option.some.inj hg93)), (by repeat (first | refine agree_upd rfl ?_ | refine agree_upds' rfl ?_ | exact agree_refl)), ⟨H84, (Hp.le.refl _), S⟩⟩
                                    · replace hg93 := condF hg93 hb92
                                      refine WL.gyes rfl rfl hb92 ?_
                                      refine WL.valw (R.mv (v := (str p_ppend)) rfl) ?_
                                      refine WL.gyes rfl rfl hb92 ?_
                                      obtain ⟨s94, hs94, hg93⟩ := bindE hg93
                                      refine WL.valw (R.subShi rfl rfl Tryz.underlying9 hs94) ?_
                                      refine WL.gyes rfl rfl hb92 ?_
                                      obtain ⟨r95, hr95, hg93⟩ := bindE hg93
                                      refine W.call S rfl (date_index_ok S.holds 7 date_dayName s94 (fun hle hw x0 r h => date_dayName_ok hw x0 h) hr95) ?_
                                      rintro v96 w97 H98 hle99 S rfl
                                      refine WL.gyes rfl rfl hb92 ?_
                                      refine WL.valw (R.mv (v := (int r81)) rfl) ?_
                                      refine WL.gyes rfl rfl hb92 ?_
                                      refine WL.valw (R.add rfl rfl) ?_
                                      refine WL.gyes rfl rfl hb92 ?_
                                      obtain ⟨n100, hn100, hg93⟩ := bindE hg93
                                      refine WL.valw (R.rem' rfl rfl hn100) ?_
                                      refine WL.gyes rfl rfl hb92 ?_
                                      refine WL.valw (R.neq rfl rfl) ?_
                                      refine WL.valw (R.pickF rfl hb92 rfl) ?_
                                      exact WL.nil ⟨(congrArg boo (Option.some.inj hg93)), (by repeat (first | refine agree_upd rfl ?_ | refine agree_upds' rfl ?_ | exact agree_refl)), ⟨H98, hle99, S⟩⟩
                                  · intro us w103 ⟨H102, hle104, S⟩
                                    refine WL.nil ?_
                                    rcases condE h with ⟨hc105, h⟩ | ⟨hc105, h⟩
                                    · refine WP.condT rfl hc105 ?_
                                      refine WP.seq ?_
                                      refine WP.region ?_
                                      refine WL.valw (R.as (v := (int 0)) rfl) ?_
                                      refine WL.valw (R.as (v := (boo false)) rfl) ?_
                                      refine WL.nil ?_
                                      obtain rfl := Option.some.inj h
                                      refine WP.ret (Out.two rfl S rfl rfl ?_)
                                      exact rfl
                                    · refine WP.condF rfl hc105 ?_
                                      refine WP.skip ?_
                                      refine WP.seq ?_
                                      refine WP.region ?_
                                      refine WL.valw (R.mv (v := (int r81)) rfl) ?_
                                      refine WL.valw (R.mul rfl rfl) ?_
                                      refine WL.valw (v := (ptr b30 2)) (R.ofEq (R.idxAddrA rfl rfl Tryz.underlying75 lay3 ⟨by decide, by decide⟩) rfl) ?_
                                      refine WL.valw (R.loadB (i := 0) (v := (int r54.1)) S rfl rfl lay3 rfl) ?_
                                      refine WL.valw (R.mul rfl rfl) ?_
                                      refine WL.valw (v := (ptr b30 3)) (R.ofEq (R.idxAddrA rfl rfl Tryz.underlying75 lay3 ⟨by decide, by decide⟩) rfl) ?_
                                      refine WL.valw (R.loadB (i := 0) (v := (int r61.1)) S rfl rfl lay3 rfl) ?_
                                      refine WL.valw (R.mul rfl rfl) ?_
                                      refine WL.valw (R.add rfl rfl) ?_
                                      refine WL.valw (v := (ptr b30 4)) (R.ofEq (R.idxAddrA rfl rfl Tryz.underlying75 lay3 ⟨by decide, by decide⟩) rfl) ?_
                                      refine WL.valw (R.loadB (i := 0) (v := (int r68.1)) S rfl rfl lay3 rfl) ?_
                                      refine WL.valw (R.add rfl rfl) ?_
                                      refine WL.valw (R.add rfl rfl) ?_
                                      refine WL.valw (R.as (v := (int (wr ((wr (r81 * 86400)) + (wr ((wr ((wr (r54.1 * 3600)) + (wr (r61.1 * 60)))) + r68.1)))))) rfl) ?_
                                      refine WL.valw (R.as (v := (boo true)) rfl) ?_
                                      refine WL.nil ?_
                                      obtain rfl := Option.some.inj h
                                      refine WP.ret (Out.two rfl S rfl rfl ?_)
                                      exact rfl
set_option maxRecDepth 10000 in
set_option maxHeartbeats 4000000 in
theorem freshness_first_ok {w0 : World} {H0 : Hp} (hw : Holds w0 H0) (p_l : (List GField)) (p_name : Str) {vp_l : Value} (Rp_l : Sl (α := GField) H0 vp_l p_l) {r : (Int × Bool)} (h : freshness_first p_l p_name = some r) :
    Con Tryz.prog 43 [vp_l, (str p_name)] w0 H0 (fun H' v => v = (.tuple ⟨[(int r.1), (boo r.2)]⟩)) := by
  refine Con.mk (N := 18) Tryz.func43 rfl rfl (by kernel_rfl) rfl ?_
  have S := St.start hw
  refine WP.seq ?_
  refine WP.region ?_
  refine WL.valw (R.as (v := (int 0)) rfl) ?_
  refine WL.valw (R.as (v := (boo false)) rfl) ?_
  refine WL.nil ?_
  refine WP.seq ?_
  refine WP.region ?_
  refine WL.valw (R.mv (v := vp_l) rfl) ?_
  refine WL.valw (R.mv (v := (str p_name)) rfl) ?_
  obtain ⟨r1, hr1, h⟩ := bindE h
  refine W.call S rfl (fieldline_First_ok S.holds p_l p_name Rp_l hr1) ?_
  rintro v2 w3 H4 hle5 S rfl
  have Rp_l := Sl.mono Rp_l hle5
  refine WL.valw (R.mv (v := (.tuple ⟨[(str r1.1), (boo r1.2)]⟩)) rfl) ?_
  refine WL.valw (R.ext rfl rfl) ?_
  refine WL.valw (R.ext rfl rfl) ?_
  refine WL.valw (R.as (v := (str r1.1)) rfl) ?_
  refine WL.valw (R.as (v := (boo r1.2)) rfl) ?_
  refine WL.nil ?_
  refine WP.seq ?_
  refine WP.region ?_
  refine WL.valw (R.mv (v := (str r1.1)) rfl) ?_
  obtain ⟨r6, hr6, h⟩ := bindE h
  refine W.call S rfl (date_Parse_ok S.holds r1.1 hr6) ?_
  rintro v7 w8 H9 hle10 S rfl
  have Rp_l := Sl.mono Rp_l hle10
  refine WL.valw (R.ext rfl rfl) ?_
  refine WL.valw (R.ext rfl rfl) ?_
  refine WL.valw (R.as (v := (int r6.1)) rfl) ?_
  refine WL.valw (R.as (v := (boo r6.2)) rfl) ?_
  refine WL.nil ?_
  obtain rfl := Option.some.inj h
  refine WP.ret (Out.two rfl S rfl rfl ?_)
  exact rfl
set_option maxRecDepth 10000 in
set_option maxHeartbeats 4000000 in
theorem freshness_saturate_ok {w0 : World} {H0 : Hp} (hw : Holds w0 H0) (p_a : Int) (p_b : Int) {r : Int} (h : freshness_saturate p_a p_b = some r) :
    Con Tryz.prog 44 [(int p_a), (int p_b)] w0 H0 (fun H' v => v = (int r)) := by
  refine Con.mk (N := 10) Tryz.func44 rfl rfl (by kernel_rfl) rfl ?_
  have S := St.start hw
  refine WP.seq ?_
  refine WP.region ?_
  refine WL.valw (R.as (v := (int 0)) rfl) ?_
  refine WL.nil ?_
  refine WP.seq ?_
  refine WP.region ?_
  refine WL.valw (R.mv (v := (int p_a)) rfl) ?_
  refine WL.valw (R.mv (v := (int p_b)) rfl) ?_
  refine WL.valw (R.sub rfl rfl) ?_
  refine WL.valw (R.max rfl rfl) ?_
  refine WL.valw (R.min rfl rfl) ?_
  refine WL.valw (R.as (v := (int (if 2147483647 < (if (wr (p_a - p_b)) < 0 then 0 else (wr (p_a - p_b))) then 2147483647 else (if (wr (p_a - p_b)) < 0 then 0 else (wr (p_a - p_b)))))) rfl) ?_
  refine WL.nil ?_
  obtain rfl := Option.some.inj h
  refine WP.ret (Out.one rfl S rfl ?_)
  exact rfl
set_option maxRecDepth 10000 in
set_option maxHeartbeats 4000000 in
theorem freshness_Lifetime_ok {w0 : World} {H0 : Hp} (hw : Holds w0 H0) (p_l : (List GField)) {vp_l : Value} (Rp_l : Sl (α := GField) H0 vp_l p_l) {r : Int} (h : freshness_Lifetime p_l = some r) :
    Con Tryz.prog 21 [vp_l] w0 H0 (fun H' v => v = (int r)) := by
  refine Con.mk (N := 39) Tryz.func21 rfl rfl (by kernel_rfl) rfl ?_
  have S := St.start hw
  refine WP.seq ?_
  refine WP.region ?_
  refine WL.valw (R.as (v := (int 0)) rfl) ?_
  refine WL.nil ?_
  refine WP.seq ?_
  refine WP.region ?_
  refine WL.valw (R.mv (v := vp_l) rfl) ?_
  obtain ⟨r1, hr1, h⟩ := bindE h
  refine W.call S rfl (cachecontrol_Response_ok S.holds p_l Rp_l hr1) ?_
  rintro v2 w3 H4 hle5 S rfl
  have Rp_l := Sl.mono Rp_l hle5
  refine W.alloc [(boo false), (boo false), (boo false), (boo false), (boo false), (boo false), (boo false), (int 0), (int 0), (int 0), (int 0)] S zer36 ?_
  intro b6 w7 S
  refine W.store (i := 0) [(boo r1.fNoStore), (boo r1.fNoCache), (boo r1.fMustRevalidate), (boo r1.fProxyRevalidate), (boo r1.fPrivate), (boo r1.fPublic), (boo r1.fOnlyIfCached), (int r1.fMaxAge), (int r1.fSMaxAge), (int r1.fMinFresh), (int r1.fMaxStale)] S rfl rfl rfl lay36 rfl rfl (Nat.le_of_ble_eq_true rfl) rfl ?_
  intro w8 S
  refine WL.nil ?_
  refine WP.seq ?_
  refine WP.seq ?_
  refine WP.region ?_
  refine WL.valw (R.fieldB rfl fld36_8) ?_
  refine WL.valw (R.loadB (i := 0) (v := (int r1.fSMaxAge)) S rfl rfl lay3 rfl) ?_
  refine WL.valw (R.geq rfl rfl) ?_
  refine WL.nil ?_
  rcases condE h with ⟨hc9, h⟩ | ⟨hc9, h⟩
  · refine WP.condT rfl hc9 ?_
    refine WP.seq ?_
    refine WP.region ?_
    refine WL.valw (R.fieldB rfl fld36_8) ?_
    refine WL.valw (R.loadB (i := 0) (v := (int r1.fSMaxAge)) S rfl rfl lay3 rfl) ?_
    refine WL.valw (R.as (v := (int r1.fSMaxAge)) rfl) ?_
    refine WL.nil ?_
    obtain rfl := Option.some.inj h
    refine WP.ret (Out.one rfl S rfl ?_)
    exact rfl
  · refine WP.condF rfl hc9 ?_
    refine WP.skip ?_
    refine WP.seq ?_
    refine WP.seq ?_
    refine WP.region ?_
    refine WL.valw (R.fieldB rfl fld36_7) ?_
    refine WL.valw (R.loadB (i := 0) (v := (int r1.fMaxAge)) S rfl rfl lay3 rfl) ?_
    refine WL.valw (R.geq rfl rfl) ?_
    refine WL.nil ?_
    rcases condE h with ⟨hc10, h⟩ | ⟨hc10, h⟩
    · refine WP.condT rfl hc10 ?_
      refine WP.seq ?_
      refine WP.region ?_
      refine WL.valw (R.fieldB rfl fld36_7) ?_
      refine WL.valw (R.loadB (i := 0) (v := (int r1.fMaxAge)) S rfl rfl lay3 rfl) ?_
      refine WL.valw (R.as (v := (int r1.fMaxAge)) rfl) ?_
      refine WL.nil ?_
      obtain rfl := Option.some.inj h
      refine WP.ret (Out.one rfl S rfl ?_)
      exact rfl
    · refine WP.condF rfl hc10 ?_
      refine WP.skip ?_
      refine WP.seq ?_
      refine WP.region ?_
      refine WL.valw (R.mv (v := vp_l) rfl) ?_
      obtain ⟨r11, hr11, h⟩ := bindE h
      refine W.call S rfl (freshness_first_ok S.holds p_l [69, 120, 112, 105, 114, 101, 115] Rp_l hr11) ?_
      rintro v12 w13 H14 hle15 S rfl
      have Rp_l := Sl.mono Rp_l hle15
      refine WL.valw (R.mv (v := (.tuple ⟨[(int r11.1), (boo r11.2)]⟩)) rfl) ?_
      refine WL.valw (R.ext rfl rfl) ?_
      refine WL.valw (R.ext rfl rfl) ?_
      refine WL.valw (R.as (v := (int r11.1)) rfl) ?_
      refine WL.valw (R.as (v := (boo r11.2)) rfl) ?_
      refine WL.nil ?_
      refine WP.seq ?_
      refine WP.region ?_
      refine WL.valw (R.mv (v := vp_l) rfl) ?_
      obtain ⟨r16, hr16, h⟩ := bindE h
      refine W.call S rfl (freshness_first_ok S.holds p_l [68, 97, 116, 101] Rp_l hr16) ?_
      rintro v17 w18 H19 hle20 S rfl
      have Rp_l := Sl.mono Rp_l hle20
      refine WL.valw (R.mv (v := (.tuple ⟨[(int r16.1), (boo r16.2)]⟩)) rfl) ?_
      refine WL.valw (R.ext rfl rfl) ?_
      refine WL.valw (R.ext rfl rfl) ?_
      refine WL.valw (R.as (v := (int r16.1)) rfl) ?_
      refine WL.valw (R.as (v := (boo r16.2)) rfl) ?_
      refine WL.nil ?_
      refine WP.seq ?_
      refine WP.seq ?_
      refine WP.region ?_
      refine WL.valw (R.mv (v := (boo r11.2)) rfl) ?_
      refine WL.valw (R.not rfl) ?_
      refine WL.valw (R.mv (v := (boo (!r11.2))) rfl) ?_
      refine WL.grp 3 [33, 34] 35 (boo ((!r11.2) || (!r16.2))) ?_ ?_
      · rcases boolE (!r11.2) with hb21 | hb21
        · refine WL.gno rfl rfl hb21 ?_
          refine WL.gno rfl rfl hb21 ?_
          refine WL.valw (R.pickT rfl hb21 rfl) ?_
          exact WL.nil ⟨(orT hb21), (by repeat (first | refine agree_upd rfl ?_ | refine agree_upds' rfl ?_ | exact agree_refl)), rfl⟩
        · refine WL.gyes rfl rfl hb21 ?_
          refine WL.valw (R.mv (v := (boo r16.2)) rfl) ?_
          refine WL.gyes rfl rfl hb21 ?_
          refine WL.valw (R.not rfl) ?_
          refine WL.valw (R.pickF rfl hb21 rfl) ?_
          exact WL.nil ⟨(orF hb21), (by repeat (first | refine agree_upd rfl ?_ | refine agree_upds' rfl ?_ | exact agree_refl)), rfl⟩
      · intro us
        refine WL.nil ?_
        rcases condE h with ⟨hc23, h⟩ | ⟨hc23, h⟩
        · refine WP.condT rfl hc23 ?_
          refine WP.seq ?_
          refine WP.region ?_
          refine WL.valw (R.as (v := (int 0)) rfl) ?_
          refine WL.nil ?_
          obtain rfl := Option.some.inj h
          refine WP.ret (Out.one rfl S rfl ?_)
          exact rfl
        · refine WP.condF rfl hc23 ?_
          refine WP.skip ?_
          refine WP.seq ?_
          refine WP.region ?_
          refine WL.valw (R.mv (v := (int r11.1)) rfl) ?_
          refine WL.valw (R.mv (v := (int r16.1)) rfl) ?_
          obtain ⟨r24, hr24, h⟩ := bindE h
          refine W.call S rfl (freshness_saturate_ok S.holds r11.1 r16.1 hr24) ?_
          rintro v25 w26 H27 hle28 S rfl
          have Rp_l := Sl.mono Rp_l hle28
          refine WL.valw (R.as (v := (int r24)) rfl) ?_
          refine WL.nil ?_
          obtain rfl := Option.some.inj h
          refine WP.ret (Out.one rfl S rfl ?_)
          exact rfl
set_option maxRecDepth 10000 in
set_option maxHeartbeats 4000000 in
theorem stringslite_HasPrefix_ok {w0 : World} {H0 : Hp} (hw : Holds w0 H0) (p_s : Str) (p_prefix : Str) {r : Bool} (h : stringslite_HasPrefix p_s p_prefix = some r) :
    Con Tryz.prog 111 [(str p_s), (str p_prefix)] w0 H0 (fun H' v => v = (boo r)) := by
  refine Con.mk (N := 18) Tryz.func111 rfl rfl (by kernel_rfl) rfl ?_
  have S := St.start hw
  refine WP.seq ?_
  refine WP.region ?_
  refine WL.valw (R.as (v := (boo false)) rfl) ?_
  refine WL.nil ?_
  refine WP.seq ?_
  refine WP.region ?_
  refine WL.valw (R.mv (v := (str p_s)) rfl) ?_
  refine WL.valw (R.lenS (a := p_s) rfl Tryz.underlying9) ?_
  refine WL.valw (R.mv (v := (str p_prefix)) rfl) ?_
  refine WL.valw (R.lenS (a := p_prefix) rfl Tryz.underlying9) ?_
  refine WL.valw (R.geq rfl rfl) ?_
  refine WL.valw (R.mv (v := (boo (decide ((p_prefix.length : Int) ≤ (p_s.length : Int))))) rfl) ?_
  obtain ⟨b4, hg2, h⟩ := bindE h
  refine WL.grp 7 [11, 12, 13, 14, 15, 16] 17 (boo b4) ?_ ?_
  · rcases boolE (decide ((p_prefix.length : Int) ≤ (p_s.length : Int))) with hb1 | hb1
    · replace hg2 := condT hg2 hb1
      refine WL.gyes rfl rfl hb1 ?_
      refine WL.valw (R.mv (v := (str p_s)) rfl) ?_
      refine WL.gyes rfl rfl hb1 ?_
      refine WL.valw (R.mv (v := (str p_prefix)) rfl) ?_
      refine WL.gyes rfl rfl hb1 ?_
      refine WL.valw (R.lenS (a := p_prefix) rfl Tryz.underlying9) ?_
      refine WL.gyes rfl rfl hb1 ?_
      obtain ⟨s3, hs3, hg2⟩ := bindE hg2
      refine WL.valw (R.subShi rfl rfl Tryz.underlying9 hs3) ?_
      refine WL.gyes rfl rfl hb1 ?_
      refine WL.valw (R.mv (v := (str p_prefix)) rfl) ?_
      refine WL.gyes rfl rfl hb1 ?_
      refine WL.valw (R.eqlS (a := s3) (b := p_prefix) rfl rfl) ?_
      refine WL.valw (R.pickT rfl hb1 rfl) ?_
      exact WL.nil ⟨(congrArg boo (Option.some.inj hg2)), (by repeat (first | refine agree_upd rfl ?_ | refine agree_upds' rfl ?_ | exact agree_refl)), rfl⟩
    · replace hg2 := condF hg2 hb1
      refine WL.gno rfl rfl hb1 ?_
      refine WL.gno rfl rfl hb1 ?_
      refine WL.gno rfl rfl hb1 ?_
      refine WL.gno rfl rfl hb1 ?_
      refine WL.gno rfl rfl hb1 ?_
      refine WL.gno rfl rfl hb1 ?_
      refine WL.valw (R.pickF rfl hb1 rfl) ?_
      exact WL.nil ⟨(congrArg boo (Option.some.inj hg2)), (by repeat (first | refine agree_upd rfl ?_ | refine agree_upds' rfl ?_ | exact agree_refl)), rfl⟩
  · intro us
    refine WL.valw (R.as (v := (boo b4)) rfl) ?_
    refine WL.nil ?_
    obtain rfl := Option.some.inj h
    refine WP.ret (Out.one rfl S rfl ?_)
    exact rfl
set_option maxRecDepth 10000 in
set_option maxHeartbeats 4000000 in
theorem stringslite_CutPrefix_ok {w0 : World} {H0 : Hp} (hw : Holds w0 H0) (p_s : Str) (p_prefix : Str) {r : (Str × Bool)} (h : stringslite_CutPrefix p_s p_prefix = some r) :
    Con Tryz.prog 98 [(str p_s), (str p_prefix)] w0 H0 (fun H' v => v = (.tuple ⟨[(str r.1), (boo r.2)]⟩)) := by
  refine Con.mk (N := 15) Tryz.func98 rfl rfl (by kernel_rfl) rfl ?_
  have S := St.start hw
  refine WP.seq ?_
  refine WP.region ?_
  refine WL.valw (R.as (v := (str [])) rfl) ?_
  refine WL.valw (R.as (v := (boo false)) rfl) ?_
  refine WL.nil ?_
  refine WP.seq ?_
  refine WP.seq ?_
  refine WP.region ?_
  refine WL.valw (R.mv (v := (str p_s)) rfl) ?_
  refine WL.valw (R.mv (v := (str p_prefix)) rfl) ?_
  obtain ⟨r1, hr1, h⟩ := bindE h
  refine W.call S rfl (stringslite_HasPrefix_ok S.holds p_s p_prefix hr1) ?_
  rintro v2 w3 H4 hle5 S rfl
  refine WL.valw (R.not rfl) ?_
  refine WL.nil ?_
  rcases condE h with ⟨hc6, h⟩ | ⟨hc6, h⟩
  · refine WP.condT rfl hc6 ?_
    refine WP.seq ?_
    refine WP.region ?_
    refine WL.valw (R.mv (v := (str p_s)) rfl) ?_
    refine WL.valw (R.as (v := (str p_s)) rfl) ?_
    refine WL.valw (R.as (v := (boo false)) rfl) ?_
    refine WL.nil ?_
    obtain rfl := Option.some.inj h
    refine WP.ret (Out.two rfl S rfl rfl ?_)
    exact rfl
  · refine WP.condF rfl hc6 ?_
    refine WP.skip ?_
    refine WP.seq ?_
    refine WP.region ?_
    refine WL.valw (R.mv (v := (str p_s)) rfl) ?_
    refine WL.valw (R.mv (v := (str p_prefix)) rfl) ?_
    refine WL.valw (R.lenS (a := p_prefix) rfl Tryz.underlying9) ?_
    obtain ⟨s7, hs7, h⟩ := bindE h
    refine WL.valw (R.subSlo rfl rfl Tryz.underlying9 hs7) ?_
    refine WL.valw (R.as (v := (str s7)) rfl) ?_
    refine WL.valw (R.as (v := (boo true)) rfl) ?_
    refine WL.nil ?_
    obtain rfl := Option.some.inj h
    refine WP.ret (Out.two rfl S rfl rfl ?_)
    exact rfl
set_option maxRecDepth 10000 in
set_option maxHeartbeats 4000000 in
theorem strings_CutPrefix_ok {w0 : World} {H0 : Hp} (hw : Holds w0 H0) (p_s : Str) (p_prefix : Str) {r : (Str × Bool)} (h : strings_CutPrefix p_s p_prefix = some r) :
    Con Tryz.prog 73 [(str p_s), (str p_prefix)] w0 H0 (fun H' v => v = (.tuple ⟨[(str r.1), (boo r.2)]⟩)) := by
  refine Con.mk (N := 11) Tryz.func73 rfl rfl (by kernel_rfl) rfl ?_
  have S := St.start hw
  refine WP.seq ?_
  refine WP.region ?_
  refine WL.valw (R.as (v := (str [])) rfl) ?_
  refine WL.valw (R.as (v := (boo false)) rfl) ?_
  refine WL.nil ?_
  refine WP.seq ?_
  refine WP.region ?_
  refine WL.valw (R.mv (v := (str p_s)) rfl) ?_
  refine WL.valw (R.mv (v := (str p_prefix)) rfl) ?_
  obtain ⟨r1, hr1, h⟩ := bindE h
  refine W.call S rfl (stringslite_CutPrefix_ok S.holds p_s p_prefix hr1) ?_
  rintro v2 w3 H4 hle5 S rfl
  refine WL.valw (R.ext rfl rfl) ?_
  refine WL.valw (R.ext rfl rfl) ?_
  refine WL.valw (R.as (v := (str r1.1)) rfl) ?_
  refine WL.valw (R.as (v := (boo r1.2)) rfl) ?_
  refine WL.nil ?_
  obtain rfl := Option.some.inj h
  refine WP.ret (Out.two rfl S rfl rfl ?_)
  exact rfl
set_option maxRecDepth 10000 in
set_option maxHeartbeats 4000000 in
theorem etag_permitted_ok {w0 : World} {H0 : Hp} (hw : Holds w0 H0) (p_s : Str) {r : Bool} (h : etag_permitted p_s = some r) :
    Con Tryz.prog 74 [(str p_s)] w0 H0 (fun H' v => v = (boo r)) := by
  refine Con.mk (N := 24) Tryz.func74 rfl rfl (by kernel_rfl) rfl ?_
  have S := St.start hw
  refine WP.seq ?_
  refine WP.region ?_
  refine WL.valw (R.as (v := (boo false)) rfl) ?_
  refine WL.nil ?_
  refine WP.seq ?_
  refine WP.seq ?_
  refine WP.region ?_
  refine WL.valw (R.mv (v := (str p_s)) rfl) ?_
  refine WL.valw (R.lenS (a := p_s) rfl Tryz.underlying9) ?_
  refine WL.valw (R.mv (v := (int 0)) rfl) ?_
  refine WL.nil ?_
  obtain ⟨r10, hr11, h⟩ := bindE h
  refine WP.cut (fun f w => match r10 with | .inl _ => ∃ (H6 : Hp), St w0 H0 w H6 [] | .inr _ => False) ?_ ?_
  · refine WP.block ?_
    refine WP.loopM (etag_permitted_L0 p_s) (fun s f w => match s with | y_4 => ∃ (H1 : Hp), f 0 = (str p_s) ∧ f 6 = (int (p_s.length : Int)) ∧ f 7 = (int y_4) ∧ St w0 H0 w H1 []) 0 r10 hr11 ?_ ?_
    · exact ⟨H0, rfl, rfl, rfl, S⟩
    · intro y_4 f w hI y7 hy8 hy9
      obtain ⟨H1, h2, h3, h5, S⟩ := hI
      refine WP.seq ?_
      refine WP.region ?_
      refine WL.valw (R.lss h5 h3) ?_
      refine WL.nil ?_
      refine WP.seq ?_
      rcases condE hy8 with ⟨hc12, hy8⟩ | ⟨hc12, hy8⟩
      · refine WP.condT rfl hc12 ?_
        refine WP.skip ?_
        refine WP.seq ?_
        refine WP.block ?_
        refine WP.seq ?_
        refine WP.region ?_
        refine WL.valw (R.mv (v := (int y_4)) h5) ?_
        refine WL.valw (R.as (v := (int y_4)) rfl) ?_
        refine WL.nil ?_
        refine WP.seq ?_
        refine WP.region ?_
        refine WL.valw (R.mv (v := (str p_s)) h2) ?_
        refine WL.valw (R.mv (v := (int y_4)) rfl) ?_
        obtain ⟨c13, hc13, hy8⟩ := bindE hy8
        refine WL.valw (R.idxS rfl rfl Tryz.underlying9 hc13) ?_
        refine WL.valw (R.as (v := (byt c13)) rfl) ?_
        refine WL.nil ?_
        refine WP.seq ?_
        refine WP.region ?_
        refine WL.valw (R.mv (v := (byt c13)) rfl) ?_
        refine WL.valw (R.lss8 (a := c13) (b := 33) rfl rfl) ?_
        refine WL.valw (R.mv (v := (boo (decide (c13 < 33)))) rfl) ?_
        refine WL.grp 3 [16, 17] 18 (boo ((decide (c13 < 33)) || (c13 == 34))) ?_ ?_
        · rcases boolE (decide (c13 < 33)) with hb14 | hb14
          · refine WL.gno rfl rfl hb14 ?_
            refine WL.gno rfl rfl hb14 ?_
            refine WL.valw (R.pickT rfl hb14 rfl) ?_
            exact WL.nil ⟨(orT hb14), (by repeat (first | refine agree_upd rfl ?_ | refine agree_upds' rfl ?_ | exact agree_refl)), rfl⟩
          · refine WL.gyes rfl rfl hb14 ?_
            refine WL.valw (R.mv (v := (byt c13)) rfl) ?_
            refine WL.gyes rfl rfl hb14 ?_
            refine WL.valw (R.eql8 (a := c13) (b := 34) rfl rfl) ?_
            refine WL.valw (R.pickF rfl hb14 rfl) ?_
            exact WL.nil ⟨(orF hb14), (by repeat (first | refine agree_upd rfl ?_ | refine agree_upds' rfl ?_ | exact agree_refl)), rfl⟩
        · intro us
          refine WL.valw (R.mv (v := (boo ((decide (c13 < 33)) || (c13 == 34)))) rfl) ?_
          refine WL.grp 3 [20, 21] 22 (boo (((decide (c13 < 33)) || (c13 == 34)) || (c13 == 127))) ?_ ?_
          · rcases boolE ((decide (c13 < 33)) || (c13 == 34)) with hb16 | hb16
            · refine WL.gno rfl rfl hb16 ?_
              refine WL.gno rfl rfl hb16 ?_
              refine WL.valw (R.pickT rfl hb16 rfl) ?_
              exact WL.nil ⟨(orT hb16), (by repeat (first | refine agree_upd rfl ?_ | refine agree_upds' rfl ?_ | exact agree_refl)), rfl⟩
            · refine WL.gyes rfl rfl hb16 ?_
              refine WL.valw (R.mv (v := (byt c13)) rfl) ?_
              refine WL.gyes rfl rfl hb16 ?_
              refine WL.valw (R.eql8 (a := c13) (b := 127) rfl rfl) ?_
              refine WL.valw (R.pickF rfl hb16 rfl) ?_
              exact WL.nil ⟨(orF hb16), (by repeat (first | refine agree_upd rfl ?_ | refine agree_upds' rfl ?_ | exact agree_refl)), rfl⟩
          · intro us
            refine WL.nil ?_
            rcases condE hy8 with ⟨hc18, hy8⟩ | ⟨hc18, hy8⟩
            · refine WP.condT rfl hc18 ?_
              refine WP.seq ?_
              refine WP.region ?_
              refine WL.valw (R.as (v := (boo false)) rfl) ?_
              refine WL.nil ?_
              obtain rfl := Option.some.inj hy8
              obtain rfl := hy9
              obtain rfl := Option.some.inj h
              refine WP.ret (Out.one rfl S rfl ?_)
              exact rfl
            · refine WP.condF rfl hc18 ?_
              refine WP.skip ?_
              refine WP.region ?_
              refine WL.valw (R.add h5 rfl) ?_
              refine WL.valw (R.mv (v := (int (wr (y_4 + 1)))) rfl) ?_
              refine WL.nil ?_
              obtain rfl := Option.some.inj hy8
              exact ⟨rfl, ⟨H1, h2, h3, rfl, S⟩⟩
      · refine WP.condF rfl hc12 ?_
        refine WP.exit ?_
        obtain rfl := Option.some.inj hy8
        obtain rfl := hy9
        exact ⟨H1, S⟩
  · intro f w hM
    rcases r10 with _ | e
    · obtain ⟨H6, S⟩ := hM
      refine WP.seq ?_
      refine WP.region ?_
      refine WL.valw (R.as (v := (boo true)) rfl) ?_
      refine WL.nil ?_
      obtain rfl := Option.some.inj h
      refine WP.ret (Out.one rfl S rfl ?_)
      exact rfl
    · exact hM.elim
set_option maxRecDepth 10000 in
set_option maxHeartbeats 4000000 in
theorem etag_Parse_ok {w0 : World} {H0 : Hp} (hw : Holds w0 H0) (p_s : Str) {r : (GETag × Bool)} (h : etag_Parse p_s = some r) :
    Con Tryz.prog 52 [(str p_s)] w0 H0 (fun H' v => v = (.tuple ⟨[(agg [(boo r.1.fWeak), (str r.1.fTag)]), (boo r.2)]⟩)) := by
  refine Con.mk (N := 43) Tryz.func52 rfl rfl (by kernel_rfl) rfl ?_
  have S := St.start hw
  refine WP.seq ?_
  refine WP.region ?_
  refine W.alloc [(boo false), (str [])] S zer44 ?_
  intro b1 w2 S
  refine WL.valw (R.as (v := (boo false)) rfl) ?_
  refine WL.nil ?_
  refine WP.seq ?_
  refine WP.region ?_
  refine WL.valw (R.mv (v := (str p_s)) rfl) ?_
  obtain ⟨r3, hr3, h⟩ := bindE h
  refine W.call S rfl (strings_CutPrefix_ok S.holds p_s [87, 47] hr3) ?_
  rintro v4 w5 H6 hle7 S rfl
  refine WL.valw (R.mv (v := (.tuple ⟨[(str r3.1), (boo r3.2)]⟩)) rfl) ?_
  refine WL.valw (R.ext rfl rfl) ?_
  refine WL.valw (R.ext rfl rfl) ?_
  refine WL.valw (R.as (v := (str r3.1)) rfl) ?_
  refine WL.valw (R.as (v := (boo r3.2)) rfl) ?_
  refine WL.nil ?_
  refine WP.seq ?_
  refine WP.seq ?_
  refine WP.region ?_
  refine WL.valw (R.mv (v := (str r3.1)) rfl) ?_
  refine WL.valw (R.lenS (a := r3.1) rfl Tryz.underlying9) ?_
  refine WL.valw (R.lss rfl rfl) ?_
  refine WL.valw (R.mv (v := (boo (decide ((r3.1.length : Int) < 2)))) rfl) ?_
  obtain ⟨b11, hg9, h⟩ := bindE h
  refine WL.grp 4 [14, 15, 16] 17 (boo b11) ?_ ?_
  · rcases boolE (decide ((r3.1.length : Int) < 2)) with hb8 | hb8
    · replace hg9 := condT hg9 hb8
      refine WL.gno rfl rfl hb8 ?_
      refine WL.gno rfl rfl hb8 ?_
      refine WL.gno rfl rfl hb8 ?_
      refine WL.valw (R.pickT rfl hb8 rfl) ?_
      exact WL.nil ⟨(congrArg boo (Option.some.inj hg9)), (by repeat (first | refine agree_upd rfl ?_ | refine agree_upds' rfl ?_ | exact agree_refl)), rfl⟩
    · replace hg9 := condF hg9 hb8
      refine WL.gyes rfl rfl hb8 ?_
      refine WL.valw (R.mv (v := (str r3.1)) rfl) ?_
      refine WL.gyes rfl rfl hb8 ?_
      obtain ⟨c10, hc10, hg9⟩ := bindE hg9
      refine WL.valw (R.idxS rfl rfl Tryz.underlying9 hc10) ?_
      refine WL.gyes rfl rfl hb8 ?_
      refine WL.valw (R.neq8 (a := c10) (b := 34) rfl rfl) ?_
      refine WL.valw (R.pickF rfl hb8 rfl) ?_
      exact WL.nil ⟨(congrArg boo (Option.some.inj hg9)), (by repeat (first | refine agree_upd rfl ?_ | refine agree_upds' rfl ?_ | exact agree_refl)), rfl⟩
  · intro us
    refine WL.valw (R.mv (v := (boo b11)) rfl) ?_
    obtain ⟨b15, hg13, h⟩ := bindE h
    refine WL.grp 7 [19, 20, 21, 22, 23, 24] 25 (boo b15) ?_ ?_
    · rcases boolE b11 with hb12 | hb12
      · replace hg13 := condT hg13 hb12
        refine WL.gno rfl rfl hb12 ?_
        refine WL.gno rfl rfl hb12 ?_
        refine WL.gno rfl rfl hb12 ?_
        refine WL.gno rfl rfl hb12 ?_
        refine WL.gno rfl rfl hb12 ?_
        refine WL.gno rfl rfl hb12 ?_
        refine WL.valw (R.pickT rfl hb12 rfl) ?_
        exact WL.nil ⟨(congrArg boo (Option.some.inj hg13)), (by repeat (first | refine agree_upd rfl ?_ | refine agree_upds' rfl ?_ | exact agree_refl)), rfl⟩
      · replace hg13 := condF hg13 hb12
        refine WL.gyes rfl rfl hb12 ?_
        refine WL.valw (R.mv (v := (str r3.1)) rfl) ?_
        refine WL.gyes rfl rfl hb12 ?_
        refine WL.valw (R.mv (v := (str r3.1)) rfl) ?_
        refine WL.gyes rfl rfl hb12 ?_
        refine WL.valw (R.lenS (a := r3.1) rfl Tryz.underlying9) ?_
        refine WL.gyes rfl rfl hb12 ?_
        refine WL.valw (R.sub rfl rfl) ?_
        refine WL.gyes rfl rfl hb12 ?_
        obtain ⟨c14, hc14, hg13⟩ := bindE hg13
        refine WL.valw (R.idxS rfl rfl Tryz.underlying9 hc14) ?_
        refine WL.gyes rfl rfl hb12 ?_
        refine WL.valw (R.neq8 (a := c14) (b := 34) rfl rfl) ?_
        refine WL.valw (R.pickF rfl hb12 rfl) ?_
        exact WL.nil ⟨(congrArg boo (Option.some.inj hg13)), (by repeat (first | refine agree_upd rfl ?_ | refine agree_upds' rfl ?_ | exact agree_refl)), rfl⟩
    · intro us
      refine WL.valw (R.mv (v := (boo b15)) rfl) ?_
      obtain ⟨b24, hg17, h⟩ := bindE h
      refine WL.grpw 8 [27, 28, 29, 30, 31, 32, 33] 34 (boo b24) (fun w => ∃ H' : Hp, H6.le H' ∧ St w0 H0 w H' [.box b1 44 [(boo false), (str [])]]) ?_ ?_
      · rcases boolE b15 with hb16 | hb16
        · replace hg17 := condT hg17 hb16
          refine WL.gno rfl rfl hb16 ?_
          refine WL.gno rfl rfl hb16 ?_
          refine WL.gno rfl rfl hb16 ?_
          refine WL.gno rfl rfl hb16 ?_
          refine WL.gno rfl rfl hb16 ?_
          refine WL.gno rfl rfl hb16 ?_
          refine WL.gno rfl rfl hb16 ?_
          refine WL.valw (R.pickT rfl hb16 rfl) ?_
          exact WL.nil ⟨(congrArg boo (Option.some.inj hg17)), (by repeat (first | refine agree_upd rfl ?_ | refine agree_upds' rfl ?_ | exact agree_refl)), ⟨H6, (Hp.le.refl _), S⟩⟩
        · replace hg17 := condF hg17 hb16
          refine WL.gyes rfl rfl hb16 ?_
          refine WL.valw (R.mv (v := (str r3.1)) rfl) ?_
          refine WL.gyes rfl rfl hb16 ?_
          refine WL.valw (R.mv (v := (str r3.1)) rfl) ?_
          refine WL.gyes rfl rfl hb16 ?_
          refine WL.valw (R.lenS (a := r3.1) rfl Tryz.underlying9) ?_
          refine WL.gyes rfl rfl hb16 ?_
          refine WL.valw (R.sub rfl rfl) ?_
          refine WL.gyes rfl rfl hb16 ?_
          obtain ⟨s18, hs18, hg17⟩ := bindE hg17
          refine WL.valw (R.subS rfl rfl rfl Tryz.underlying9 hs18) ?_
          refine WL.gyes rfl rfl hb16 ?_
          obtain ⟨r19, hr19, hg17⟩ := bindE hg17
          refine W.call S rfl (etag_permitted_ok S.holds s18 hr19) ?_
          rintro v20 w21 H22 hle23 S rfl
          refine WL.gyes rfl rfl hb16 ?_
          refine WL.valw (R.not rfl) ?_
          refine WL.valw (R.pickF rfl hb16 rfl) ?_
          exact WL.nil ⟨(congrArg boo (Option.some.inj hg17)), (by repeat (first | refine agree_upd rfl ?_ | refine agree_upds' rfl ?_ | exact agree_refl)), ⟨H22, hle23, S⟩⟩
      · intro us w26 ⟨H25, hle27, S⟩
        refine WL.nil ?_
        rcases condE h with ⟨hc28, h⟩ | ⟨hc28, h⟩
        · refine WP.condT rfl hc28 ?_
          refine WP.seq ?_
          refine WP.region ?_
          refine WL.valw (R.build [] [(boo false), (str [])] bp44 zer44 rfl rfl) ?_
          refine W.store (i := 0) [(boo false), (str [])] S rfl rfl rfl lay44 rfl rfl (Nat.le_of_ble_eq_true rfl) rfl ?_
          intro w29 S
          refine WL.valw (R.as (v := (boo false)) rfl) ?_
          refine WL.nil ?_
          obtain rfl := Option.some.inj h
          refine WP.ret (Out.two rfl S (Res.cellB (i := 0) (cs := [(boo false), (str [])]) S rfl rfl lay44 rfl rfl) rfl ?_)
          exact rfl
        · refine WP.condF rfl hc28 ?_
          refine WP.skip ?_
          refine WP.seq ?_
          refine WP.region ?_
          refine WL.valw (R.mv (v := (boo r3.2)) rfl) ?_
          refine WL.valw (R.mv (v := (str r3.1)) rfl) ?_
          refine WL.valw (R.mv (v := (str r3.1)) rfl) ?_
          refine WL.valw (R.lenS (a := r3.1) rfl Tryz.underlying9) ?_
          refine WL.valw (R.sub rfl rfl) ?_
          obtain ⟨s30, hs30, h⟩ := bindE h
          refine WL.valw (R.subS rfl rfl rfl Tryz.underlying9 hs30) ?_
          refine WL.valw (R.build [(0, (boo r3.2)), (1, (str s30))] [(boo r3.2), (str s30)] bp44 zer44 rfl rfl) ?_
          refine W.store (i := 0) [(boo r3.2), (str s30)] S rfl rfl rfl lay44 rfl rfl (Nat.le_of_ble_eq_true rfl) rfl ?_
          intro w31 S
          refine WL.valw (R.as (v := (boo true)) rfl) ?_
          refine WL.nil ?_
          obtain rfl := Option.some.inj h
          refine WP.ret (Out.two rfl S (Res.cellB (i := 0) (cs := [(boo r3.2), (str s30)]) S rfl rfl lay44 rfl rfl) rfl ?_)
          exact rfl
set_option maxRecDepth 10000 in
set_option maxHeartbeats 4000000 in
theorem etag_Of_ok {w0 : World} {H0 : Hp} (hw : Holds w0 H0) (p_l : (List GField)) {vp_l : Value} (Rp_l : Sl (α := GField) H0 vp_l p_l) {r : (GETag × Bool)} (h : etag_Of p_l = some r) :
    Con Tryz.prog 26 [vp_l] w0 H0 (fun H' v => v = (.tuple ⟨[(agg [(boo r.1.fWeak), (str r.1.fTag)]), (boo r.2)]⟩)) := by
  refine Con.mk (N := 18) Tryz.func26 rfl rfl (by kernel_rfl) rfl ?_
  have S := St.start hw
  refine WP.seq ?_
  refine WP.region ?_
  refine W.alloc [(boo false), (str [])] S zer44 ?_
  intro b1 w2 S
  refine WL.valw (R.as (v := (boo false)) rfl) ?_
  refine WL.nil ?_
  refine WP.seq ?_
  refine WP.region ?_
  refine WL.valw (R.mv (v := vp_l) rfl) ?_
  obtain ⟨r3, hr3, h⟩ := bindE h
  refine W.call S rfl (fieldline_First_ok S.holds p_l [69, 84, 97, 103] Rp_l hr3) ?_
  rintro v4 w5 H6 hle7 S rfl
  have Rp_l := Sl.mono Rp_l hle7
  refine WL.valw (R.mv (v := (.tuple ⟨[(str r3.1), (boo r3.2)]⟩)) rfl) ?_
  refine WL.valw (R.ext rfl rfl) ?_
  refine WL.valw (R.ext rfl rfl) ?_
  refine WL.valw (R.as (v := (str r3.1)) rfl) ?_
  refine WL.valw (R.as (v := (boo r3.2)) rfl) ?_
  refine WL.nil ?_
  refine WP.seq ?_
  refine WP.seq ?_
  refine WP.region ?_
  refine WL.valw (R.mv (v := (boo r3.2)) rfl) ?_
  refine WL.valw (R.not rfl) ?_
  refine WL.nil ?_
  rcases condE h with ⟨hc8, h⟩ | ⟨hc8, h⟩
  · refine WP.condT rfl hc8 ?_
    refine WP.seq ?_
    refine WP.region ?_
    refine WL.valw (R.build [] [(boo false), (str [])] bp44 zer44 rfl rfl) ?_
    refine W.store (i := 0) [(boo false), (str [])] S rfl rfl rfl lay44 rfl rfl (Nat.le_of_ble_eq_true rfl) rfl ?_
    intro w9 S
    refine WL.valw (R.as (v := (boo false)) rfl) ?_
    refine WL.nil ?_
    obtain rfl := Option.some.inj h
    refine WP.ret (Out.two rfl S (Res.cellB (i := 0) (cs := [(boo false), (str [])]) S rfl rfl lay44 rfl rfl) rfl ?_)
    exact rfl
  · refine WP.condF rfl hc8 ?_
    refine WP.skip ?_
    refine WP.seq ?_
    refine WP.region ?_
    refine WL.valw (R.mv (v := (str r3.1)) rfl) ?_
    obtain ⟨r10, hr10, h⟩ := bindE h
    refine W.call S rfl (etag_Parse_ok S.holds r3.1 hr10) ?_
    rintro v11 w12 H13 hle14 S rfl
    have Rp_l := Sl.mono Rp_l hle14
    refine WL.valw (R.ext rfl rfl) ?_
    refine WL.valw (R.ext rfl rfl) ?_
    refine W.store (i := 0) [(boo r10.1.fWeak), (str r10.1.fTag)] S rfl rfl rfl lay44 rfl rfl (Nat.le_of_ble_eq_true rfl) rfl ?_
    intro w15 S
    refine WL.valw (R.as (v := (boo r10.2)) rfl) ?_
    refine WL.nil ?_
    obtain rfl := Option.some.inj h
    refine WP.ret (Out.two rfl S (Res.cellB (i := 0) (cs := [(boo r10.1.fWeak), (str r10.1.fTag)]) S rfl rfl lay44 rfl rfl) rfl ?_)
    exact rfl
set_option maxRecDepth 10000 in
set_option maxHeartbeats 4000000 in
theorem storable_Validator_ok {w0 : World} {H0 : Hp} (hw : Holds w0 H0) (p_l : (List GField)) {vp_l : Value} (Rp_l : Sl (α := GField) H0 vp_l p_l) {r : Bool} (h : storable_Validator p_l = some r) :
    Con Tryz.prog 12 [vp_l] w0 H0 (fun H' v => v = (boo r)) := by
  refine Con.mk (N := 26) Tryz.func12 rfl rfl (by kernel_rfl) rfl ?_
  have S := St.start hw
  refine WP.seq ?_
  refine WP.region ?_
  refine WL.valw (R.as (v := (boo false)) rfl) ?_
  refine WL.nil ?_
  refine WP.seq ?_
  refine WP.seq ?_
  refine WP.region ?_
  refine WL.valw (R.mv (v := vp_l) rfl) ?_
  obtain ⟨r1, hr1, h⟩ := bindE h
  refine W.call S rfl (etag_Of_ok S.holds p_l Rp_l hr1) ?_
  rintro v2 w3 H4 hle5 S rfl
  have Rp_l := Sl.mono Rp_l hle5
  refine WL.valw (R.mv (v := (.tuple ⟨[(agg [(boo r1.1.fWeak), (str r1.1.fTag)]), (boo r1.2)]⟩)) rfl) ?_
  refine WL.valw (R.ext rfl rfl) ?_
  refine WL.valw (R.ext rfl rfl) ?_
  refine W.alloc [(boo false), (str [])] S zer44 ?_
  intro b6 w7 S
  refine W.store (i := 0) [(boo r1.1.fWeak), (str r1.1.fTag)] S rfl rfl rfl lay44 rfl rfl (Nat.le_of_ble_eq_true rfl) rfl ?_
  intro w8 S
  refine WL.valw (R.as (v := (boo r1.2)) rfl) ?_
  refine WL.nil ?_
  refine WP.seq ?_
  refine WP.region ?_
  refine WL.valw (R.mv (v := (boo r1.2)) rfl) ?_
  refine WL.nil ?_
  rcases condE h with ⟨hc9, h⟩ | ⟨hc9, h⟩
  · refine WP.condT rfl hc9 ?_
    refine WP.seq ?_
    refine WP.region ?_
    refine WL.valw (R.as (v := (boo true)) rfl) ?_
    refine WL.nil ?_
    obtain rfl := Option.some.inj h
    refine WP.ret (Out.one rfl S rfl ?_)
    exact rfl
  · refine WP.condF rfl hc9 ?_
    refine WP.skip ?_
    refine WP.seq ?_
    refine WP.region ?_
    refine WL.valw (R.mv (v := vp_l) rfl) ?_
    obtain ⟨r10, hr10, h⟩ := bindE h
    refine W.call S rfl (fieldline_First_ok S.holds p_l [76, 97, 115, 116, 45, 77, 111, 100, 105, 102, 105, 101, 100] Rp_l hr10) ?_
    rintro v11 w12 H13 hle14 S rfl
    have Rp_l := Sl.mono Rp_l hle14
    refine WL.valw (R.mv (v := (.tuple ⟨[(str r10.1), (boo r10.2)]⟩)) rfl) ?_
    refine WL.valw (R.ext rfl rfl) ?_
    refine WL.valw (R.ext rfl rfl) ?_
    refine WL.valw (R.as (v := (str r10.1)) rfl) ?_
    refine WL.valw (R.as (v := (boo r10.2)) rfl) ?_
    refine WL.nil ?_
    refine WP.seq ?_
    refine WP.region ?_
    refine WL.valw (R.mv (v := (str r10.1)) rfl) ?_
    obtain ⟨r15, hr15, h⟩ := bindE h
    refine W.call S rfl (date_Parse_ok S.holds r10.1 hr15) ?_
    rintro v16 w17 H18 hle19 S rfl
    have Rp_l := Sl.mono Rp_l hle19
    refine WL.valw (R.mv (v := (.tuple ⟨[(int r15.1), (boo r15.2)]⟩)) rfl) ?_
    refine WL.valw (R.ext rfl rfl) ?_
    refine WL.valw (R.ext rfl rfl) ?_
    refine WL.valw (R.as (v := (int r15.1)) rfl) ?_
    refine WL.valw (R.as (v := (boo r15.2)) rfl) ?_
    refine WL.nil ?_
    refine WP.seq ?_
    refine WP.region ?_
    refine WL.valw (R.mv (v := (boo r15.2)) rfl) ?_
    refine WL.valw (R.as (v := (boo r15.2)) rfl) ?_
    refine WL.nil ?_
    obtain rfl := Option.some.inj h
    refine WP.ret (Out.one rfl S rfl ?_)
    exact rfl
end Go.Proofs
