/- A part of the proof of laws of the seat: written by program over the translation. -/
import Derived.Test.YtogfdiigokidaaaGreatDoorGenH9
namespace Go.Proofs
open Go.Eng Go.Eng.Pure
set_option linter.unusedVariables false
set_option maxRecDepth 10000 in
set_option maxHeartbeats 4000000 in
theorem ref01_DecodeChunks_ok {w0 : World} {H0 : Hp} (hw : Holds w0 H0) (hG : Tryz.Gl w0) (p_ppend : Str) {r : (Str × Int × Int)} (h : ref01_DecodeChunks p_ppend = some r) :
    Con Tryz.prog 81 [(str p_ppend)] w0 H0 (fun H' v => v = (.tuple ⟨[(str r.1), (int r.2.1), (int r.2.2)]⟩)) := by
  refine Con.mk (N := 107) Tryz.func81 rfl rfl (by kernel_rfl) rfl ?_
  have S := St.start hw
  refine WP.seq ?_
  refine WP.region ?_
  refine WL.valw (R.as (v := (str [])) rfl) ?_
  refine WL.valw (R.as (v := (int 0)) rfl) ?_
  refine WL.valw (R.as (v := (int 0)) rfl) ?_
  refine WL.nil ?_
  refine WP.seq ?_
  refine WP.region ?_
  refine WL.valw (R.as (v := (str [])) rfl) ?_
  refine WL.nil ?_
  refine WP.seq ?_
  refine WP.region ?_
  refine WL.valw (R.as (v := (int 0)) rfl) ?_
  refine WL.nil ?_
  refine WP.seq ?_
  obtain ⟨r16, hr17, h⟩ := bindE h
  refine WP.cut (fun f w => match r16 with | .inl (y_9, y_11) => ∃ (H7 : Hp), f 0 = (str p_ppend) ∧ f 5 = (str y_9) ∧ f 6 = (int y_11) ∧ St w0 H0 w H7 [] | .inr _ => False) ?_ ?_
  · refine WP.block ?_
    refine WP.loopM (ref01_DecodeChunks_L0 p_ppend) (fun s f w => match s with | (y_3, y_5) => ∃ (H1 : Hp), f 0 = (str p_ppend) ∧ f 5 = (str y_3) ∧ f 6 = (int y_5) ∧ St w0 H0 w H1 []) ([], 0) r16 hr17 ?_ ?_
    · exact ⟨H0, rfl, rfl, rfl, S⟩
    · intro s f w hI y13 hy14 hy15
      obtain ⟨y_3, y_5⟩ := s
      obtain ⟨H1, h2, h4, h6, S⟩ := hI
      refine WP.block ?_
      refine WP.seq ?_
      refine WP.region ?_
      refine WL.valw (R.mv (v := (str p_ppend)) h2) ?_
      refine WL.valw (R.mv (v := (int y_5)) h6) ?_
      obtain ⟨r18, hr18, hy14⟩ := bindE hy14
      refine W.call S rfl (ref01_NextLine_ok S.holds (hG.post S.post) p_ppend y_5 hr18) ?_
      rintro v19 w20 H21 hle22 S rfl
      refine WL.valw (R.mv (v := (.tuple ⟨[(str r18.1), (int r18.2.1), (int r18.2.2)]⟩)) rfl) ?_
      refine WL.valw (R.ext rfl rfl) ?_
      refine WL.valw (R.ext rfl rfl) ?_
      refine WL.valw (R.ext rfl rfl) ?_
      refine WL.valw (R.as (v := (str r18.1)) rfl) ?_
      refine WL.valw (R.as (v := (int r18.2.1)) rfl) ?_
      refine WL.valw (R.as (v := (int r18.2.2)) rfl) ?_
      refine WL.nil ?_
      refine WP.seq ?_
      refine WP.seq ?_
      refine WP.region ?_
      refine WL.valw (R.mv (v := (int r18.2.2)) rfl) ?_
      refine WL.valw (R.neq rfl rfl) ?_
      refine WL.nil ?_
      rcases condE hy14 with ⟨hc23, hy14⟩ | ⟨hc23, hy14⟩
      · refine WP.condT rfl hc23 ?_
        refine WP.seq ?_
        refine WP.region ?_
        refine WL.valw (R.mv (v := (int r18.2.2)) rfl) ?_
        refine WL.valw (R.as (v := (str [])) rfl) ?_
        refine WL.valw (R.as (v := (int 0)) rfl) ?_
        refine WL.valw (R.as (v := (int r18.2.2)) rfl) ?_
        refine WL.nil ?_
        obtain rfl := Option.some.inj hy14
        obtain rfl := hy15
        obtain rfl := Option.some.inj h
        refine WP.ret (Out.three rfl S rfl rfl rfl ?_)
        exact rfl
      · refine WP.condF rfl hc23 ?_
        refine WP.skip ?_
        refine WP.seq ?_
        refine WP.region ?_
        refine WL.valw (R.mv (v := (str r18.1)) rfl) ?_
        obtain ⟨r24, hr24, hy14⟩ := bindE hy14
        refine W.call S rfl (ref01_size_ok S.holds (hG.post S.post) r18.1 hr24) ?_
        rintro v25 w26 H27 hle28 S rfl
        refine WL.valw (R.mv (v := (.tuple ⟨[(int r24.1), (boo r24.2)]⟩)) rfl) ?_
        refine WL.valw (R.ext rfl rfl) ?_
        refine WL.valw (R.ext rfl rfl) ?_
        refine WL.valw (R.as (v := (int r24.1)) rfl) ?_
        refine WL.valw (R.as (v := (boo r24.2)) rfl) ?_
        refine WL.nil ?_
        refine WP.seq ?_
        refine WP.seq ?_
        refine WP.region ?_
        refine WL.valw (R.mv (v := (boo r24.2)) rfl) ?_
        refine WL.valw (R.not rfl) ?_
        refine WL.nil ?_
        rcases condE hy14 with ⟨hc29, hy14⟩ | ⟨hc29, hy14⟩
        · refine WP.condT rfl hc29 ?_
          refine WP.seq ?_
          refine WP.region ?_
          refine WL.valw (R.as (v := (str [])) rfl) ?_
          refine WL.valw (R.as (v := (int 0)) rfl) ?_
          refine WL.valw (R.as (v := (int 1)) rfl) ?_
          refine WL.nil ?_
          obtain rfl := Option.some.inj hy14
          obtain rfl := hy15
          obtain rfl := Option.some.inj h
          refine WP.ret (Out.three rfl S rfl rfl rfl ?_)
          exact rfl
        · refine WP.condF rfl hc29 ?_
          refine WP.skip ?_
          refine WP.seq ?_
          refine WP.seq ?_
          refine WP.region ?_
          refine WL.valw (R.mv (v := (int r24.1)) rfl) ?_
          refine WL.valw (R.mv (v := (str y_3)) h4) ?_
          refine WL.valw (R.lenS (a := y_3) rfl Tryz.underlying9) ?_
          refine WL.valw (R.sub rfl rfl) ?_
          refine WL.valw (R.gtr rfl rfl) ?_
          refine WL.nil ?_
          rcases condE hy14 with ⟨hc30, hy14⟩ | ⟨hc30, hy14⟩
          · refine WP.condT rfl hc30 ?_
            refine WP.seq ?_
            refine WP.region ?_
            refine WL.valw (R.as (v := (str [])) rfl) ?_
            refine WL.valw (R.as (v := (int 0)) rfl) ?_
            refine WL.valw (R.as (v := (int 5)) rfl) ?_
            refine WL.nil ?_
            obtain rfl := Option.some.inj hy14
            obtain rfl := hy15
            obtain rfl := Option.some.inj h
            refine WP.ret (Out.three rfl S rfl rfl rfl ?_)
            exact rfl
          · refine WP.condF rfl hc30 ?_
            refine WP.skip ?_
            refine WP.seq ?_
            refine WP.region ?_
            refine WL.valw (R.mv (v := (int r18.2.1)) rfl) ?_
            refine WL.valw (R.as (v := (int r18.2.1)) rfl) ?_
            refine WL.nil ?_
            refine WP.seq ?_
            refine WP.seq ?_
            refine WP.region ?_
            refine WL.valw (R.mv (v := (int r24.1)) rfl) ?_
            refine WL.valw (R.eql rfl rfl) ?_
            refine WL.nil ?_
            rcases condE hy14 with ⟨hc31, hy14⟩ | ⟨hc31, hy14⟩
            · refine WP.condT rfl hc31 ?_
              refine WP.exit ?_
              obtain rfl := Option.some.inj hy14
              obtain rfl := hy15
              exact ⟨H27, h2, h4, rfl, S⟩
            · refine WP.condF rfl hc31 ?_
              refine WP.skip ?_
              refine WP.seq ?_
              refine WP.seq ?_
              refine WP.region ?_
              refine WL.valw (R.mv (v := (str p_ppend)) h2) ?_
              refine WL.valw (R.lenS (a := p_ppend) rfl Tryz.underlying9) ?_
              refine WL.valw (R.mv (v := (int r18.2.1)) rfl) ?_
              refine WL.valw (R.sub rfl rfl) ?_
              refine WL.valw (R.mv (v := (int r24.1)) rfl) ?_
              refine WL.valw (R.lss rfl rfl) ?_
              refine WL.nil ?_
              rcases condE hy14 with ⟨hc32, hy14⟩ | ⟨hc32, hy14⟩
              · refine WP.condT rfl hc32 ?_
                refine WP.seq ?_
                refine WP.region ?_
                refine WL.valw (R.as (v := (str [])) rfl) ?_
                refine WL.valw (R.as (v := (int 0)) rfl) ?_
                refine WL.valw (R.as (v := (int 2)) rfl) ?_
                refine WL.nil ?_
                obtain rfl := Option.some.inj hy14
                obtain rfl := hy15
                obtain rfl := Option.some.inj h
                refine WP.ret (Out.three rfl S rfl rfl rfl ?_)
                exact rfl
              · refine WP.condF rfl hc32 ?_
                refine WP.skip ?_
                refine WP.seq ?_
                refine WP.region ?_
                refine WL.valw (R.mv (v := (str y_3)) h4) ?_
                refine WL.valw (R.mv (v := (str p_ppend)) h2) ?_
                refine WL.valw (R.mv (v := (int r18.2.1)) rfl) ?_
                refine WL.valw (R.mv (v := (int r18.2.1)) rfl) ?_
                refine WL.valw (R.mv (v := (int r24.1)) rfl) ?_
                refine WL.valw (R.add rfl rfl) ?_
                obtain ⟨s33, hs33, hy14⟩ := bindE hy14
                refine WL.valw (R.subS rfl rfl rfl Tryz.underlying9 hs33) ?_
                obtain ⟨s34, hs34, hy14⟩ := bindE hy14
                refine WL.valw (R.cat (a := y_3) (b := s33) rfl rfl hs34) ?_
                refine WL.valw (R.as (v := (str s34)) rfl) ?_
                refine WL.nil ?_
                refine WP.seq ?_
                refine WP.region ?_
                refine WL.valw (R.mv (v := (int r18.2.1)) rfl) ?_
                refine WL.valw (R.mv (v := (int r24.1)) rfl) ?_
                refine WL.valw (R.add rfl rfl) ?_
                refine WL.valw (R.as (v := (int (wr (r18.2.1 + r24.1)))) rfl) ?_
                refine WL.nil ?_
                refine WP.seq ?_
                refine WP.region ?_
                refine WL.valw (R.mv (v := (str p_ppend)) h2) ?_
                refine WL.valw (R.mv (v := (int (wr (r18.2.1 + r24.1)))) rfl) ?_
                obtain ⟨s35, hs35, hy14⟩ := bindE hy14
                refine WL.valw (R.subSlo rfl rfl Tryz.underlying9 hs35) ?_
                refine WL.valw (R.as (v := (str s35)) rfl) ?_
                refine WL.nil ?_
                refine WP.seq ?_
                refine WP.seq ?_
                refine WP.region ?_
                refine WL.valw (R.mv (v := (str s35)) rfl) ?_
                refine WL.valw (R.eqlS (a := s35) (b := []) rfl rfl) ?_
                refine WL.valw (R.mv (v := (boo (s35 == []))) rfl) ?_
                refine WL.grp 3 [67, 68] 69 (boo ((s35 == []) || (s35 == [13]))) ?_ ?_
                · rcases boolE (s35 == []) with hb36 | hb36
                  · refine WL.gno rfl rfl hb36 ?_
                    refine WL.gno rfl rfl hb36 ?_
                    refine WL.valw (R.pickT rfl hb36 rfl) ?_
                    exact WL.nil ⟨(orT hb36), (by repeat (first | refine agree_upd rfl ?_ | refine agree_upds' rfl ?_ | exact agree_refl)), rfl⟩
                  · refine WL.gyes rfl rfl hb36 ?_
                    refine WL.valw (R.mv (v := (str s35)) rfl) ?_
                    refine WL.gyes rfl rfl hb36 ?_
                    refine WL.valw (R.eqlS (a := s35) (b := [13]) rfl rfl) ?_
                    refine WL.valw (R.pickF rfl hb36 rfl) ?_
                    exact WL.nil ⟨(orF hb36), (by repeat (first | refine agree_upd rfl ?_ | refine agree_upds' rfl ?_ | exact agree_refl)), rfl⟩
                · intro us
                  refine WL.nil ?_
                  rcases condE hy14 with ⟨hc38, hy14⟩ | ⟨hc38, hy14⟩
                  · refine WP.condT rfl hc38 ?_
                    refine WP.seq ?_
                    refine WP.region ?_
                    refine WL.valw (R.as (v := (str [])) rfl) ?_
                    refine WL.valw (R.as (v := (int 0)) rfl) ?_
                    refine WL.valw (R.as (v := (int 2)) rfl) ?_
                    refine WL.nil ?_
                    obtain rfl := Option.some.inj hy14
                    obtain rfl := hy15
                    obtain rfl := Option.some.inj h
                    refine WP.ret (Out.three rfl S rfl rfl rfl ?_)
                    exact rfl
                  · refine WP.condF rfl hc38 ?_
                    refine WP.skip ?_
                    refine WP.seq ?_
                    refine WP.seq ?_
                    refine WP.region ?_
                    refine WL.valw (R.mv (v := (str s35)) rfl) ?_
                    refine WL.valw (R.lenS (a := s35) rfl Tryz.underlying9) ?_
                    refine WL.valw (R.lss rfl rfl) ?_
                    refine WL.valw (R.mv (v := (boo (decide ((s35.length : Int) < 2)))) rfl) ?_
                    obtain ⟨b42, hg40, hy14⟩ := bindE hy14
                    refine WL.grp 4 [74, 75, 76] 77 (boo b42) ?_ ?_
                    · rcases boolE (decide ((s35.length : Int) < 2)) with hb39 | hb39
                      · replace hg40 := condT hg40 hb39
                        refine WL.gno rfl rfl hb39 ?_
                        refine WL.gno rfl rfl hb39 ?_
                        refine WL.gno rfl rfl hb39 ?_
                        refine WL.valw (R.pickT rfl hb39 rfl) ?_
                        exact WL.nil ⟨(congrArg boo (Option.some.inj hg40)), (by repeat (first | refine agree_upd rfl ?_ | refine agree_upds' rfl ?_ | exact agree_refl)), rfl⟩
                      · replace hg40 := condF hg40 hb39
                        refine WL.gyes rfl rfl hb39 ?_
                        refine WL.valw (R.mv (v := (str s35)) rfl) ?_
                        refine WL.gyes rfl rfl hb39 ?_
                        obtain ⟨s41, hs41, hg40⟩ := bindE hg40
                        refine WL.valw (R.subShi rfl rfl Tryz.underlying9 hs41) ?_
                        refine WL.gyes rfl rfl hb39 ?_
                        refine WL.valw (R.neqS (a := s41) (b := [13, 10]) rfl rfl) ?_
                        refine WL.valw (R.pickF rfl hb39 rfl) ?_
                        exact WL.nil ⟨(congrArg boo (Option.some.inj hg40)), (by repeat (first | refine agree_upd rfl ?_ | refine agree_upds' rfl ?_ | exact agree_refl)), rfl⟩
                    · intro us
                      refine WL.nil ?_
                      rcases condE hy14 with ⟨hc43, hy14⟩ | ⟨hc43, hy14⟩
                      · refine WP.condT rfl hc43 ?_
                        refine WP.seq ?_
                        refine WP.region ?_
                        refine WL.valw (R.as (v := (str [])) rfl) ?_
                        refine WL.valw (R.as (v := (int 0)) rfl) ?_
                        refine WL.valw (R.as (v := (int 1)) rfl) ?_
                        refine WL.nil ?_
                        obtain rfl := Option.some.inj hy14
                        obtain rfl := hy15
                        obtain rfl := Option.some.inj h
                        refine WP.ret (Out.three rfl S rfl rfl rfl ?_)
                        exact rfl
                      · refine WP.condF rfl hc43 ?_
                        refine WP.skip ?_
                        refine WP.region ?_
                        refine WL.valw (R.mv (v := (int (wr (r18.2.1 + r24.1)))) rfl) ?_
                        refine WL.valw (R.add rfl rfl) ?_
                        refine WL.valw (R.as (v := (int (wr ((wr (r18.2.1 + r24.1)) + 2)))) rfl) ?_
                        refine WL.nil ?_
                        obtain rfl := Option.some.inj hy14
                        exact ⟨rfl, ⟨H27, h2, rfl, rfl, S⟩⟩
  · intro f w hM
    rcases r16 with ⟨y_9, y_11⟩ | e
    · obtain ⟨H7, h8, h10, h12, S⟩ := hM
      refine WP.seq ?_
      refine WP.region ?_
      refine WL.valw (R.as (v := (int 0)) rfl) ?_
      refine WL.nil ?_
      obtain ⟨r54, hr55, h⟩ := bindE h
      refine WP.cut (fun _ _ => False) ?_ (fun _ _ h => h.elim)
      refine WP.block ?_
      refine WP.loopM (ref01_DecodeChunks_L1 p_ppend y_9) (fun s f w => match s with | (y_47, y_49) => ∃ (H44 : Hp), f 0 = (str p_ppend) ∧ f 5 = (str y_9) ∧ f 6 = (int y_47) ∧ f 13 = (int y_49) ∧ St w0 H0 w H44 []) (y_11, 0) r54 hr55 ?_ ?_
      · exact ⟨H7, h8, h10, h12, rfl, S⟩
      · intro s f w hI y51 hy52 hy53
        obtain ⟨y_47, y_49⟩ := s
        obtain ⟨H44, h45, h46, h48, h50, S⟩ := hI
        refine WP.seq ?_
        refine WP.block ?_
        refine WP.seq ?_
        refine WP.region ?_
        refine WL.valw (R.mv (v := (str p_ppend)) h45) ?_
        refine WL.valw (R.mv (v := (int y_47)) h48) ?_
        obtain ⟨r56, hr56, hy52⟩ := bindE hy52
        refine W.call S rfl (ref01_NextLine_ok S.holds (hG.post S.post) p_ppend y_47 hr56) ?_
        rintro v57 w58 H59 hle60 S rfl
        refine WL.valw (R.mv (v := (.tuple ⟨[(str r56.1), (int r56.2.1), (int r56.2.2)]⟩)) rfl) ?_
        refine WL.valw (R.ext rfl rfl) ?_
        refine WL.valw (R.ext rfl rfl) ?_
        refine WL.valw (R.ext rfl rfl) ?_
        refine WL.valw (R.as (v := (str r56.1)) rfl) ?_
        refine WL.valw (R.as (v := (int r56.2.1)) rfl) ?_
        refine WL.valw (R.as (v := (int r56.2.2)) rfl) ?_
        refine WL.nil ?_
        refine WP.seq ?_
        refine WP.seq ?_
        refine WP.region ?_
        refine WL.valw (R.mv (v := (int r56.2.2)) rfl) ?_
        refine WL.valw (R.neq rfl rfl) ?_
        refine WL.nil ?_
        rcases condE hy52 with ⟨hc61, hy52⟩ | ⟨hc61, hy52⟩
        · refine WP.condT rfl hc61 ?_
          refine WP.seq ?_
          refine WP.region ?_
          refine WL.valw (R.mv (v := (int r56.2.2)) rfl) ?_
          refine WL.valw (R.as (v := (str [])) rfl) ?_
          refine WL.valw (R.as (v := (int 0)) rfl) ?_
          refine WL.valw (R.as (v := (int r56.2.2)) rfl) ?_
          refine WL.nil ?_
          obtain rfl := Option.some.inj hy52
          obtain rfl := hy53
          obtain rfl := Option.some.inj h
          refine WP.ret (Out.three rfl S rfl rfl rfl ?_)
          exact rfl
        · refine WP.condF rfl hc61 ?_
          refine WP.skip ?_
          refine WP.seq ?_
          refine WP.region ?_
          refine WL.valw (R.mv (v := (int r56.2.1)) rfl) ?_
          refine WL.valw (R.as (v := (int r56.2.1)) rfl) ?_
          refine WL.nil ?_
          refine WP.seq ?_
          refine WP.seq ?_
          refine WP.region ?_
          refine WL.valw (R.mv (v := (str r56.1)) rfl) ?_
          refine WL.valw (R.eqlS (a := r56.1) (b := []) rfl rfl) ?_
          refine WL.nil ?_
          rcases condE hy52 with ⟨hc62, hy52⟩ | ⟨hc62, hy52⟩
          · refine WP.condT rfl hc62 ?_
            refine WP.seq ?_
            refine WP.region ?_
            refine WL.valw (R.mv (v := (str y_9)) h46) ?_
            refine WL.valw (R.mv (v := (int r56.2.1)) rfl) ?_
            refine WL.valw (R.as (v := (str y_9)) rfl) ?_
            refine WL.valw (R.as (v := (int r56.2.1)) rfl) ?_
            refine WL.valw (R.as (v := (int 0)) rfl) ?_
            refine WL.nil ?_
            obtain rfl := Option.some.inj hy52
            obtain rfl := hy53
            obtain rfl := Option.some.inj h
            refine WP.ret (Out.three rfl S rfl rfl rfl ?_)
            exact rfl
          · refine WP.condF rfl hc62 ?_
            refine WP.skip ?_
            refine WP.seq ?_
            refine WP.seq ?_
            refine WP.region ?_
            refine WL.valw (R.mv (v := (int y_49)) h50) ?_
            refine WL.valw (R.eql rfl rfl) ?_
            refine WL.nil ?_
            rcases condE hy52 with ⟨hc63, hy52⟩ | ⟨hc63, hy52⟩
            · refine WP.condT rfl hc63 ?_
              refine WP.seq ?_
              refine WP.region ?_
              refine WL.valw (R.as (v := (str [])) rfl) ?_
              refine WL.valw (R.as (v := (int 0)) rfl) ?_
              refine WL.valw (R.as (v := (int 4)) rfl) ?_
              refine WL.nil ?_
              obtain rfl := Option.some.inj hy52
              obtain rfl := hy53
              obtain rfl := Option.some.inj h
              refine WP.ret (Out.three rfl S rfl rfl rfl ?_)
              exact rfl
            · refine WP.condF rfl hc63 ?_
              refine WP.skip ?_
              refine WP.seq ?_
              refine WP.region ?_
              refine WL.valw (R.mv (v := (str r56.1)) rfl) ?_
              obtain ⟨r64, hr64, hy52⟩ := bindE hy52
              refine W.call S rfl (ref01_ParseField_ok S.holds (hG.post S.post) r56.1 hr64) ?_
              rintro v65 w66 H67 hle68 S rfl
              refine WL.valw (R.mv (v := (.tuple ⟨[(agg [(str r64.1.fName), (str r64.1.fValue)]), (int r64.2)]⟩)) rfl) ?_
              refine WL.valw (R.ext rfl rfl) ?_
              refine WL.valw (R.ext rfl rfl) ?_
              refine W.alloc [(str []), (str [])] S zer53 ?_
              intro b69 w70 S
              refine W.store (i := 0) [(str r64.1.fName), (str r64.1.fValue)] S rfl rfl rfl lay53 rfl rfl (Nat.le_of_ble_eq_true rfl) rfl ?_
              intro w71 S
              refine WL.valw (R.as (v := (int r64.2)) rfl) ?_
              refine WL.nil ?_
              refine WP.seq ?_
              refine WP.region ?_
              refine WL.valw (R.mv (v := (int r64.2)) rfl) ?_
              refine WL.valw (R.neq rfl rfl) ?_
              refine WL.nil ?_
              rcases condE hy52 with ⟨hc72, hy52⟩ | ⟨hc72, hy52⟩
              · refine WP.condT rfl hc72 ?_
                refine WP.seq ?_
                refine WP.region ?_
                refine WL.valw (R.mv (v := (int r64.2)) rfl) ?_
                refine WL.valw (R.as (v := (str [])) rfl) ?_
                refine WL.valw (R.as (v := (int 0)) rfl) ?_
                refine WL.valw (R.as (v := (int r64.2)) rfl) ?_
                refine WL.nil ?_
                obtain rfl := Option.some.inj hy52
                obtain rfl := hy53
                obtain rfl := Option.some.inj h
                refine WP.ret (Out.three rfl S rfl rfl rfl ?_)
                exact rfl
              · refine WP.condF rfl hc72 ?_
                refine WP.skip ?_
                refine WP.region ?_
                refine WL.valw (R.mv (v := (int y_49)) h50) ?_
                refine WL.valw (R.add rfl rfl) ?_
                refine WL.valw (R.as (v := (int (wr (y_49 + 1)))) rfl) ?_
                refine WL.nil ?_
                obtain rfl := Option.some.inj hy52
                exact ⟨rfl, ⟨H67, h45, h46, rfl, rfl, (S.drop _ (.cons _ .slnil))⟩⟩
    · exact hM.elim
set_option maxRecDepth 10000 in
set_option maxHeartbeats 4000000 in
theorem ref01_body_ok {w0 : World} {H0 : Hp} (hw : Holds w0 H0) (hG : Tryz.Gl w0) (p_s : Str) (p_at : Int) (p_how : Int) {r : (Str × Int × Int)} (h : ref01_body p_s p_at p_how = some r) :
    Con Tryz.prog 44 [(str p_s), (int p_at), (int p_how)] w0 H0 (fun H' v => v = (.tuple ⟨[(str r.1), (int r.2.1), (int r.2.2)]⟩)) := by
  refine Con.mk (N := 46) Tryz.func44 rfl rfl (by kernel_rfl) rfl ?_
  have S := St.start hw
  refine WP.seq ?_
  refine WP.region ?_
  refine WL.valw (R.as (v := (str [])) rfl) ?_
  refine WL.valw (R.as (v := (int 0)) rfl) ?_
  refine WL.valw (R.as (v := (int 0)) rfl) ?_
  refine WL.nil ?_
  refine WP.seq ?_
  refine WP.seq ?_
  refine WP.region ?_
  refine WL.valw (R.mv (v := (int p_how)) rfl) ?_
  refine WL.valw (R.eql rfl rfl) ?_
  refine WL.nil ?_
  rcases condE h with ⟨hc1, h⟩ | ⟨hc1, h⟩
  · refine WP.condT rfl hc1 ?_
    refine WP.seq ?_
    refine WP.region ?_
    refine WL.valw (R.mv (v := (str p_s)) rfl) ?_
    refine WL.valw (R.mv (v := (int p_at)) rfl) ?_
    obtain ⟨s2, hs2, h⟩ := bindE h
    refine WL.valw (R.subSlo rfl rfl Tryz.underlying9 hs2) ?_
    obtain ⟨r3, hr3, h⟩ := bindE h
    refine W.call S rfl (ref01_DecodeChunks_ok S.holds (hG.post S.post) s2 hr3) ?_
    rintro v4 w5 H6 hle7 S rfl
    refine WL.valw (R.mv (v := (.tuple ⟨[(str r3.1), (int r3.2.1), (int r3.2.2)]⟩)) rfl) ?_
    refine WL.valw (R.ext rfl rfl) ?_
    refine WL.valw (R.ext rfl rfl) ?_
    refine WL.valw (R.ext rfl rfl) ?_
    refine WL.valw (R.as (v := (str r3.1)) rfl) ?_
    refine WL.valw (R.as (v := (int r3.2.1)) rfl) ?_
    refine WL.valw (R.as (v := (int r3.2.2)) rfl) ?_
    refine WL.nil ?_
    refine WP.seq ?_
    refine WP.seq ?_
    refine WP.region ?_
    refine WL.valw (R.mv (v := (int r3.2.2)) rfl) ?_
    refine WL.valw (R.neq rfl rfl) ?_
    refine WL.nil ?_
    rcases condE h with ⟨hc8, h⟩ | ⟨hc8, h⟩
    · refine WP.condT rfl hc8 ?_
      refine WP.seq ?_
      refine WP.region ?_
      refine WL.valw (R.mv (v := (int r3.2.2)) rfl) ?_
      refine WL.valw (R.as (v := (str [])) rfl) ?_
      refine WL.valw (R.as (v := (int 0)) rfl) ?_
      refine WL.valw (R.as (v := (int r3.2.2)) rfl) ?_
      refine WL.nil ?_
      obtain rfl := Option.some.inj h
      refine WP.ret (Out.three rfl S rfl rfl rfl ?_)
      exact rfl
    · refine WP.condF rfl hc8 ?_
      refine WP.skip ?_
      refine WP.seq ?_
      refine WP.region ?_
      refine WL.valw (R.mv (v := (str r3.1)) rfl) ?_
      refine WL.valw (R.mv (v := (int p_at)) rfl) ?_
      refine WL.valw (R.mv (v := (int r3.2.1)) rfl) ?_
      refine WL.valw (R.add rfl rfl) ?_
      refine WL.valw (R.as (v := (str r3.1)) rfl) ?_
      refine WL.valw (R.as (v := (int (wr (p_at + r3.2.1)))) rfl) ?_
      refine WL.valw (R.as (v := (int 0)) rfl) ?_
      refine WL.nil ?_
      obtain rfl := Option.some.inj h
      refine WP.ret (Out.three rfl S rfl rfl rfl ?_)
      exact rfl
  · refine WP.condF rfl hc1 ?_
    refine WP.skip ?_
    refine WP.seq ?_
    refine WP.seq ?_
    refine WP.region ?_
    refine WL.valw (R.mv (v := (int p_how)) rfl) ?_
    refine WL.valw (R.gtr rfl rfl) ?_
    refine WL.nil ?_
    rcases condE h with ⟨hc9, h⟩ | ⟨hc9, h⟩
    · refine WP.condT rfl hc9 ?_
      refine WP.seq ?_
      refine WP.region ?_
      refine WL.valw (R.as (v := (str [])) rfl) ?_
      refine WL.valw (R.as (v := (int 0)) rfl) ?_
      refine WL.valw (R.as (v := (int 5)) rfl) ?_
      refine WL.nil ?_
      obtain rfl := Option.some.inj h
      refine WP.ret (Out.three rfl S rfl rfl rfl ?_)
      exact rfl
    · refine WP.condF rfl hc9 ?_
      refine WP.skip ?_
      refine WP.seq ?_
      refine WP.seq ?_
      refine WP.region ?_
      refine WL.valw (R.mv (v := (str p_s)) rfl) ?_
      refine WL.valw (R.lenS (a := p_s) rfl Tryz.underlying9) ?_
      refine WL.valw (R.mv (v := (int p_at)) rfl) ?_
      refine WL.valw (R.sub rfl rfl) ?_
      refine WL.valw (R.mv (v := (int p_how)) rfl) ?_
      refine WL.valw (R.lss rfl rfl) ?_
      refine WL.nil ?_
      rcases condE h with ⟨hc10, h⟩ | ⟨hc10, h⟩
      · refine WP.condT rfl hc10 ?_
        refine WP.seq ?_
        refine WP.region ?_
        refine WL.valw (R.as (v := (str [])) rfl) ?_
        refine WL.valw (R.as (v := (int 0)) rfl) ?_
        refine WL.valw (R.as (v := (int 2)) rfl) ?_
        refine WL.nil ?_
        obtain rfl := Option.some.inj h
        refine WP.ret (Out.three rfl S rfl rfl rfl ?_)
        exact rfl
      · refine WP.condF rfl hc10 ?_
        refine WP.skip ?_
        refine WP.seq ?_
        refine WP.region ?_
        refine WL.valw (R.mv (v := (str p_s)) rfl) ?_
        refine WL.valw (R.mv (v := (int p_at)) rfl) ?_
        refine WL.valw (R.mv (v := (int p_at)) rfl) ?_
        refine WL.valw (R.mv (v := (int p_how)) rfl) ?_
        refine WL.valw (R.add rfl rfl) ?_
        obtain ⟨s11, hs11, h⟩ := bindE h
        refine WL.valw (R.subS rfl rfl rfl Tryz.underlying9 hs11) ?_
        refine WL.valw (R.mv (v := (int p_at)) rfl) ?_
        refine WL.valw (R.mv (v := (int p_how)) rfl) ?_
        refine WL.valw (R.add rfl rfl) ?_
        refine WL.valw (R.as (v := (str s11)) rfl) ?_
        refine WL.valw (R.as (v := (int (wr (p_at + p_how)))) rfl) ?_
        refine WL.valw (R.as (v := (int 0)) rfl) ?_
        refine WL.nil ?_
        obtain rfl := Option.some.inj h
        refine WP.ret (Out.three rfl S rfl rfl rfl ?_)
        exact rfl
set_option maxRecDepth 10000 in
set_option maxHeartbeats 4000000 in
theorem ref01_ParseResponse_ok {w0 : World} {H0 : Hp} (hw : Holds w0 H0) (hG : Tryz.Gl w0) (p_ppend : Str) (p_x1 : Str) (p_x2 : Bool) {r : (GResponse × Int × Int)} (h : ref01_ParseResponse p_ppend p_x1 p_x2 = some r) :
    Con Tryz.prog 16 [(str p_ppend), (str p_x1), (boo p_x2)] w0 H0 (fun H' v => ∃ u1 : Value, v = (.tuple ⟨[(agg [(int r.1.fMinor), (int r.1.fStatus), (str r.1.fReason), u1, (str r.1.fBody)]), (int r.2.1), (int r.2.2)]⟩) ∧ Sl (α := GField) H' u1 r.1.fFields) := by
  refine Con.mk (N := 81) Tryz.func16 rfl rfl (by kernel_rfl) rfl ?_
  have S := St.start hw
  refine WP.seq ?_
  refine WP.region ?_
  refine W.alloc [(int 0), (int 0), (str []), (.slice none 0 0), (str [])] S zer30 ?_
  intro b1 w2 S
  refine WL.valw (R.as (v := (int 0)) rfl) ?_
  refine WL.valw (R.as (v := (int 0)) rfl) ?_
  refine WL.nil ?_
  refine WP.seq ?_
  refine WP.region ?_
  refine WL.valw (R.mv (v := (str p_ppend)) rfl) ?_
  obtain ⟨r3, hr3, h⟩ := bindE h
  refine W.call S rfl (ref01_head_ok S.holds (hG.post S.post) p_ppend false hr3) ?_
  rintro v4 w5 H6 hle7 S ⟨u8, rfl, R9⟩
  refine WL.valw (R.mv (v := (.tuple ⟨[(str r3.1), u8, (int r3.2.2.1), (int r3.2.2.2)]⟩)) rfl) ?_
  refine WL.valw (R.ext rfl rfl) ?_
  refine WL.valw (R.ext rfl rfl) ?_
  refine WL.valw (R.ext rfl rfl) ?_
  refine WL.valw (R.ext rfl rfl) ?_
  refine WL.valw (R.as (v := (str r3.1)) rfl) ?_
  refine WL.valw (R.as (v := u8) rfl) ?_
  refine WL.valw (R.as (v := (int r3.2.2.1)) rfl) ?_
  refine WL.valw (R.as (v := (int r3.2.2.2)) rfl) ?_
  refine WL.nil ?_
  refine WP.seq ?_
  refine WP.seq ?_
  refine WP.region ?_
  refine WL.valw (R.mv (v := (int r3.2.2.2)) rfl) ?_
  refine WL.valw (R.neq rfl rfl) ?_
  refine WL.nil ?_
  rcases condE h with ⟨hc10, h⟩ | ⟨hc10, h⟩
  · refine WP.condT rfl hc10 ?_
    refine WP.seq ?_
    refine WP.region ?_
    refine WL.valw (R.build [] [(int 0), (int 0), (str []), (.slice none 0 0), (str [])] bp30 zer30 rfl rfl) ?_
    refine WL.valw (R.mv (v := (int r3.2.2.2)) rfl) ?_
    refine W.store (i := 0) [(int 0), (int 0), (str []), (.slice none 0 0), (str [])] S rfl rfl rfl lay30 rfl (AllOne.all (l := [(int 0), (int 0), (str []), (.slice none 0 0), (str [])]) (.cons rfl (.cons rfl (.cons rfl (.cons rfl (.cons rfl .nil)))))) (Nat.le_of_ble_eq_true rfl) rfl ?_
    intro w11 S
    refine WL.valw (R.as (v := (int 0)) rfl) ?_
    refine WL.valw (R.as (v := (int r3.2.2.2)) rfl) ?_
    refine WL.nil ?_
    obtain rfl := Option.some.inj h
    refine WP.ret (Out.three rfl S (Res.cellB (i := 0) (cs := [(int 0), (int 0), (str []), (.slice none 0 0), (str [])]) S rfl rfl lay30 rfl rfl) rfl rfl ?_)
    exact ⟨_, rfl, Sl.nil⟩
  · refine WP.condF rfl hc10 ?_
    refine WP.skip ?_
    refine WP.seq ?_
    refine WP.region ?_
    refine WL.valw (R.mv (v := (str r3.1)) rfl) ?_
    obtain ⟨r12, hr12, h⟩ := bindE h
    refine W.call S rfl (ref01_ParseStatusLine_ok S.holds (hG.post S.post) r3.1 hr12) ?_
    rintro v13 w14 H15 hle16 S rfl
    have R9 := Sl.mono R9 hle16
    refine WL.valw (R.mv (v := (.tuple ⟨[(int r12.1), (int r12.2.1), (str r12.2.2.1), (int r12.2.2.2)]⟩)) rfl) ?_
    refine WL.valw (R.ext rfl rfl) ?_
    refine WL.valw (R.ext rfl rfl) ?_
    refine WL.valw (R.ext rfl rfl) ?_
    refine WL.valw (R.ext rfl rfl) ?_
    refine WL.valw (R.as (v := (int r12.1)) rfl) ?_
    refine WL.valw (R.as (v := (int r12.2.1)) rfl) ?_
    refine WL.valw (R.as (v := (str r12.2.2.1)) rfl) ?_
    refine WL.valw (R.as (v := (int r12.2.2.2)) rfl) ?_
    refine WL.nil ?_
    refine WP.seq ?_
    refine WP.region ?_
    refine WL.valw (R.mv (v := u8) rfl) ?_
    obtain ⟨r17, hr17, h⟩ := bindE h
    refine W.call S rfl (ref01_framed_ok S.holds (hG.post S.post) r3.2.1 R9 hr17) ?_
    rintro v18 w19 H20 hle21 S rfl
    have R9 := Sl.mono R9 hle21
    refine WL.valw (R.mv (v := (.tuple ⟨[(int r17.1), (int r17.2)]⟩)) rfl) ?_
    refine WL.valw (R.ext rfl rfl) ?_
    refine WL.valw (R.ext rfl rfl) ?_
    refine WL.valw (R.as (v := (int r17.1)) rfl) ?_
    refine WL.valw (R.as (v := (int r17.2)) rfl) ?_
    refine WL.nil ?_
    refine WP.seq ?_
    refine WP.seq ?_
    refine WP.region ?_
    refine WL.valw (R.mv (v := (int r17.2)) rfl) ?_
    refine WL.valw (R.neq rfl rfl) ?_
    refine WL.nil ?_
    rcases condE h with ⟨hc22, h⟩ | ⟨hc22, h⟩
    · refine WP.condT rfl hc22 ?_
      refine WP.seq ?_
      refine WP.region ?_
      refine WL.valw (R.build [] [(int 0), (int 0), (str []), (.slice none 0 0), (str [])] bp30 zer30 rfl rfl) ?_
      refine WL.valw (R.mv (v := (int r17.2)) rfl) ?_
      refine W.store (i := 0) [(int 0), (int 0), (str []), (.slice none 0 0), (str [])] S rfl rfl rfl lay30 rfl (AllOne.all (l := [(int 0), (int 0), (str []), (.slice none 0 0), (str [])]) (.cons rfl (.cons rfl (.cons rfl (.cons rfl (.cons rfl .nil)))))) (Nat.le_of_ble_eq_true rfl) rfl ?_
      intro w23 S
      refine WL.valw (R.as (v := (int 0)) rfl) ?_
      refine WL.valw (R.as (v := (int r17.2)) rfl) ?_
      refine WL.nil ?_
      obtain rfl := Option.some.inj h
      refine WP.ret (Out.three rfl S (Res.cellB (i := 0) (cs := [(int 0), (int 0), (str []), (.slice none 0 0), (str [])]) S rfl rfl lay30 rfl rfl) rfl rfl ?_)
      exact ⟨_, rfl, Sl.nil⟩
    · refine WP.condF rfl hc22 ?_
      refine WP.skip ?_
      refine WP.seq ?_
      refine WP.region ?_
      refine WL.valw (R.mv (v := (int r12.1)) rfl) ?_
      refine WL.valw (R.mv (v := (int r12.2.1)) rfl) ?_
      refine WL.valw (R.mv (v := (str r12.2.2.1)) rfl) ?_
      refine WL.valw (R.mv (v := u8) rfl) ?_
      obtain ⟨r24, hr24, h⟩ := bindE h
      refine W.call S rfl (ref01_Unframed_ok S.holds (hG.post S.post) r3.2.1 R9 hr24) ?_
      rintro v25 w26 H27 hle28 S R29
      have R9 := Sl.mono R9 hle28
      refine WL.valw (R.build [(0, (int r12.1)), (1, (int r12.2.1)), (2, (str r12.2.2.1)), (3, v25)] [(int r12.1), (int r12.2.1), (str r12.2.2.1), v25, (str [])] bp30 zer30 rfl (by obtain ⟨_, _, rfl, _⟩ := R29; rfl)) ?_
      refine W.alloc [(int 0), (int 0), (str []), (.slice none 0 0), (str [])] S zer30 ?_
      intro b30 w31 S
      refine W.store (i := 0) [(int r12.1), (int r12.2.1), (str r12.2.2.1), v25, (str [])] S rfl rfl rfl lay30 rfl (AllOne.all (l := [(int r12.1), (int r12.2.1), (str r12.2.2.1), v25, (str [])]) (.cons rfl (.cons rfl (.cons rfl (.cons (Sl.oneC R29) (.cons rfl .nil)))))) (Nat.le_of_ble_eq_true rfl) rfl ?_
      intro w32 S
      refine WL.nil ?_
      refine WP.seq ?_
      refine WP.seq ?_
      refine WP.region ?_
      refine WL.valw (R.mv (v := (int r12.2.1)) rfl) ?_
      refine WL.valw (R.mv (v := (str p_x1)) rfl) ?_
      obtain ⟨r33, hr33, h⟩ := bindE h
      refine W.call S rfl (ref01_Bodiless_ok S.holds (hG.post S.post) r12.2.1 p_x1 hr33) ?_
      rintro v34 w35 H36 hle37 S rfl
      have R9 := Sl.mono R9 hle37
      have R29 := Sl.mono R29 hle37
      refine WL.nil ?_
      rcases condE h with ⟨hc38, h⟩ | ⟨hc38, h⟩
      · refine WP.condT rfl hc38 ?_
        refine WP.seq ?_
        refine WP.region ?_
        refine WL.valw (R.loadBN (i := 0) (vs := [(int r12.1), (int r12.2.1), (str r12.2.2.1), v25, (str [])]) S rfl rfl lay30 rfl rfl) ?_
        refine WL.valw (R.mv (v := (int r3.2.2.1)) rfl) ?_
        refine W.store (i := 1) [(int r12.1), (int r12.2.1), (str r12.2.2.1), v25, (str [])] S rfl rfl rfl lay30 rfl (AllOne.all (l := [(int r12.1), (int r12.2.1), (str r12.2.2.1), v25, (str [])]) (.cons rfl (.cons rfl (.cons rfl (.cons (Sl.oneC R29) (.cons rfl .nil)))))) (Nat.le_of_ble_eq_true rfl) rfl ?_
        intro w39 S
        refine WL.valw (R.as (v := (int r3.2.2.1)) rfl) ?_
        refine WL.valw (R.as (v := (int 0)) rfl) ?_
        refine WL.nil ?_
        obtain rfl := Option.some.inj h
        refine WP.ret (Out.three rfl S (Res.cellB (i := 1) (cs := [(int r12.1), (int r12.2.1), (str r12.2.2.1), v25, (str [])]) S rfl rfl lay30 rfl rfl) rfl rfl ?_)
        exact ⟨_, rfl, R29⟩
      · refine WP.condF rfl hc38 ?_
        refine WP.skip ?_
        refine WP.seq ?_
        refine WP.seq ?_
        refine WP.region ?_
        refine WL.valw (R.mv (v := (int r17.1)) rfl) ?_
        refine WL.valw (R.eql rfl rfl) ?_
        refine WL.nil ?_
        obtain ⟨j48, hj47, h⟩ := bindE h
        refine WP.cut (fun f w => match j48 with | .inl y_44 => ∃ (H40 : Hp), f 0 = (str p_ppend) ∧ f 6 = (ptr b1 0) ∧ f 11 = (int r3.2.2.1) ∧ f 17 = (int y_44) ∧ f 18 = (ptr b30 0) ∧ Sl (α := GField) H40 v25 r24 ∧ St w0 H0 w H40 [.box b30 30 [(int r12.1), (int r12.2.1), (str r12.2.2.1), v25, (str [])], .box b1 30 [(int 0), (int 0), (str []), (.slice none 0 0), (str [])]] | .inr _ => False) ?_ ?_
        · rcases condE hj47 with ⟨hc49, hj47⟩ | ⟨hc49, hj47⟩
          · refine WP.condT rfl hc49 ?_
            refine WP.seq ?_
            refine WP.seq ?_
            refine WP.region ?_
            refine WL.valw (R.mv (v := (boo p_x2)) rfl) ?_
            refine WL.valw (R.not rfl) ?_
            refine WL.nil ?_
            rcases condE hj47 with ⟨hc50, hj47⟩ | ⟨hc50, hj47⟩
            · refine WP.condT rfl hc50 ?_
              refine WP.seq ?_
              refine WP.region ?_
              refine WL.valw (R.build [] [(int 0), (int 0), (str []), (.slice none 0 0), (str [])] bp30 zer30 rfl rfl) ?_
              refine W.store (i := 1) [(int 0), (int 0), (str []), (.slice none 0 0), (str [])] S rfl rfl rfl lay30 rfl (AllOne.all (l := [(int 0), (int 0), (str []), (.slice none 0 0), (str [])]) (.cons rfl (.cons rfl (.cons rfl (.cons rfl (.cons rfl .nil)))))) (Nat.le_of_ble_eq_true rfl) rfl ?_
              intro w51 S
              refine WL.valw (R.as (v := (int 0)) rfl) ?_
              refine WL.valw (R.as (v := (int 2)) rfl) ?_
              refine WL.nil ?_
              obtain rfl := Option.some.inj hj47
              obtain rfl := Option.some.inj h
              refine WP.ret (Out.three rfl S (Res.cellB (i := 1) (cs := [(int 0), (int 0), (str []), (.slice none 0 0), (str [])]) S rfl rfl lay30 rfl rfl) rfl rfl ?_)
              exact ⟨_, rfl, Sl.nil⟩
            · refine WP.condF rfl hc50 ?_
              refine WP.skip ?_
              refine WP.region ?_
              refine WL.valw (R.mv (v := (str p_ppend)) rfl) ?_
              refine WL.valw (R.lenS (a := p_ppend) rfl Tryz.underlying9) ?_
              refine WL.valw (R.mv (v := (int r3.2.2.1)) rfl) ?_
              refine WL.valw (R.sub rfl rfl) ?_
              refine WL.valw (R.as (v := (int (wr ((p_ppend.length : Int) - r3.2.2.1)))) rfl) ?_
              refine WL.nil ?_
              obtain rfl := Option.some.inj hj47
              exact ⟨H36, rfl, rfl, rfl, rfl, rfl, R29, S⟩
          · refine WP.condF rfl hc49 ?_
            refine WP.skip ?_
            obtain rfl := Option.some.inj hj47
            exact ⟨H36, rfl, rfl, rfl, rfl, rfl, R29, S⟩
        · intro f w hM
          rcases j48 with y_44 | e
          · obtain ⟨H40, h41, h42, h43, h45, h46, R29, S⟩ := hM
            refine WP.seq ?_
            refine WP.region ?_
            refine WL.valw (R.mv (v := (str p_ppend)) h41) ?_
            refine WL.valw (R.mv (v := (int r3.2.2.1)) h43) ?_
            refine WL.valw (R.mv (v := (int y_44)) h45) ?_
            obtain ⟨r52, hr52, h⟩ := bindE h
            refine W.call S rfl (ref01_body_ok S.holds (hG.post S.post) p_ppend r3.2.2.1 y_44 hr52) ?_
            rintro v53 w54 H55 hle56 S rfl
            have R29 := Sl.mono R29 hle56
            refine WL.valw (R.mv (v := (.tuple ⟨[(str r52.1), (int r52.2.1), (int r52.2.2)]⟩)) rfl) ?_
            refine WL.valw (R.ext rfl rfl) ?_
            refine WL.valw (R.ext rfl rfl) ?_
            refine WL.valw (R.ext rfl rfl) ?_
            refine WL.valw (R.fieldB h46 fld30_4) ?_
            refine W.store (i := 0) [(int r12.1), (int r12.2.1), (str r12.2.2.1), v25, (str r52.1)] S rfl rfl rfl lay9 rfl rfl (Nat.le_of_ble_eq_true rfl) rfl ?_
            intro w57 S
            refine WL.valw (R.as (v := (int r52.2.1)) rfl) ?_
            refine WL.valw (R.as (v := (int r52.2.2)) rfl) ?_
            refine WL.nil ?_
            refine WP.seq ?_
            refine WP.seq ?_
            refine WP.region ?_
            refine WL.valw (R.mv (v := (int r52.2.2)) rfl) ?_
            refine WL.valw (R.neq rfl rfl) ?_
            refine WL.nil ?_
            rcases condE h with ⟨hc58, h⟩ | ⟨hc58, h⟩
            · refine WP.condT rfl hc58 ?_
              refine WP.seq ?_
              refine WP.region ?_
              refine WL.valw (R.build [] [(int 0), (int 0), (str []), (.slice none 0 0), (str [])] bp30 zer30 rfl rfl) ?_
              refine WL.valw (R.mv (v := (int r52.2.2)) rfl) ?_
              refine W.store (i := 1) [(int 0), (int 0), (str []), (.slice none 0 0), (str [])] S h42 rfl rfl lay30 rfl (AllOne.all (l := [(int 0), (int 0), (str []), (.slice none 0 0), (str [])]) (.cons rfl (.cons rfl (.cons rfl (.cons rfl (.cons rfl .nil)))))) (Nat.le_of_ble_eq_true rfl) rfl ?_
              intro w59 S
              refine WL.valw (R.as (v := (int 0)) rfl) ?_
              refine WL.valw (R.as (v := (int r52.2.2)) rfl) ?_
              refine WL.nil ?_
              obtain rfl := Option.some.inj h
              refine WP.ret (Out.three rfl S (Res.cellB (i := 1) (cs := [(int 0), (int 0), (str []), (.slice none 0 0), (str [])]) S h42 rfl lay30 rfl rfl) rfl rfl ?_)
              exact ⟨_, rfl, Sl.nil⟩
            · refine WP.condF rfl hc58 ?_
              refine WP.skip ?_
              refine WP.seq ?_
              refine WP.region ?_
              refine WL.valw (R.loadBN (i := 0) (vs := [(int r12.1), (int r12.2.1), (str r12.2.2.1), v25, (str r52.1)]) S h46 rfl lay30 rfl rfl) ?_
              refine WL.valw (R.mv (v := (int r52.2.1)) rfl) ?_
              refine W.store (i := 1) [(int r12.1), (int r12.2.1), (str r12.2.2.1), v25, (str r52.1)] S h42 rfl rfl lay30 rfl (AllOne.all (l := [(int r12.1), (int r12.2.1), (str r12.2.2.1), v25, (str r52.1)]) (.cons rfl (.cons rfl (.cons rfl (.cons (Sl.oneC R29) (.cons rfl .nil)))))) (Nat.le_of_ble_eq_true rfl) rfl ?_
              intro w60 S
              refine WL.valw (R.as (v := (int r52.2.1)) rfl) ?_
              refine WL.valw (R.as (v := (int 0)) rfl) ?_
              refine WL.nil ?_
              obtain rfl := Option.some.inj h
              refine WP.ret (Out.three rfl S (Res.cellB (i := 1) (cs := [(int r12.1), (int r12.2.1), (str r12.2.2.1), v25, (str r52.1)]) S h42 rfl lay30 rfl rfl) rfl rfl ?_)
              exact ⟨_, rfl, R29⟩
          · exact hM.elim
set_option maxRecDepth 10000 in
set_option maxHeartbeats 4000000 in
theorem law26_EntrySends_ok {w0 : World} {H0 : Hp} (hw : Holds w0 H0) (hG : Tryz.Gl w0) (p_e : GEntry) (p_now : Int) (p_name : Str) {vp_e0 : Value} {vp_e1 : Value} {vp_e2 : Value} {vp_e4 : Value} (Rp_e0 : Sl (α := (List Str)) H0 vp_e0 p_e.fKeys) (Rp_e1 : Sl (α := Str) H0 vp_e1 p_e.fVary) (Rp_e2 : Sl (α := Str) H0 vp_e2 p_e.fSnapshot) (Rp_e4 : Sl (α := GField) H0 vp_e4 p_e.fFields) {r : Bool} (h : law26_EntrySends p_e p_now p_name = some r) :
    Con Tryz.prog 4 [(agg [vp_e0, vp_e1, vp_e2, (str p_e.fReason), vp_e4, (str p_e.fBody), (int p_e.fRequested), (int p_e.fReceived)]), (int p_now), (str p_name)] w0 H0 (fun H' v => v = (boo r)) := by
  refine Con.mk (N := 63) Tryz.func4 rfl rfl (by kernel_rfl) rfl ?_
  have S := St.start hw
  refine WP.seq ?_
  refine WP.region ?_
  refine W.box [vp_e0, vp_e1, vp_e2, (str p_e.fReason), vp_e4, (str p_e.fBody), (int p_e.fRequested), (int p_e.fReceived)] S rfl rfl ?_
  intro b1 w2 S
  refine WL.valw (R.as (v := (boo false)) rfl) ?_
  refine WL.nil ?_
  refine WP.seq ?_
  refine WP.seq ?_
  refine WP.region ?_
  refine WL.valw (R.loadBN (i := 0) (vs := [vp_e0, vp_e1, vp_e2, (str p_e.fReason), vp_e4, (str p_e.fBody), (int p_e.fRequested), (int p_e.fReceived)]) S rfl rfl lay26 rfl rfl) ?_
  obtain ⟨r3, hr3, h⟩ := bindE h
  refine W.call S rfl (keep_Entry_ok S.holds (hG.post S.post) p_e Rp_e0 Rp_e1 Rp_e2 Rp_e4 hr3) ?_
  rintro v4 w5 H6 hle7 S rfl
  have Rp_e0 := Sl.mono Rp_e0 hle7
  have Rp_e1 := Sl.mono Rp_e1 hle7
  have Rp_e2 := Sl.mono Rp_e2 hle7
  have Rp_e4 := Sl.mono Rp_e4 hle7
  refine WL.valw (R.not rfl) ?_
  refine WL.valw (R.mv (v := (boo (!r3))) rfl) ?_
  refine WL.grp 4 [15, 16, 17] 18 (boo ((!r3) || (decide (100 < (p_name.length : Int))))) ?_ ?_
  · rcases boolE (!r3) with hb8 | hb8
    · refine WL.gno rfl rfl hb8 ?_
      refine WL.gno rfl rfl hb8 ?_
      refine WL.gno rfl rfl hb8 ?_
      refine WL.valw (R.pickT rfl hb8 rfl) ?_
      exact WL.nil ⟨(orT hb8), (by repeat (first | refine agree_upd rfl ?_ | refine agree_upds' rfl ?_ | exact agree_refl)), rfl⟩
    · refine WL.gyes rfl rfl hb8 ?_
      refine WL.valw (R.mv (v := (str p_name)) rfl) ?_
      refine WL.gyes rfl rfl hb8 ?_
      refine WL.valw (R.lenS (a := p_name) rfl Tryz.underlying9) ?_
      refine WL.gyes rfl rfl hb8 ?_
      refine WL.valw (R.gtr rfl rfl) ?_
      refine WL.valw (R.pickF rfl hb8 rfl) ?_
      exact WL.nil ⟨(orF hb8), (by repeat (first | refine agree_upd rfl ?_ | refine agree_upds' rfl ?_ | exact agree_refl)), rfl⟩
  · intro us
    refine WL.valw (R.mv (v := (boo ((!r3) || (decide (100 < (p_name.length : Int)))))) rfl) ?_
    obtain ⟨b17, hg11, h⟩ := bindE h
    refine WL.grpw 5 [20, 21, 22, 23] 24 (boo b17) (fun w => ∃ H' : Hp, H6.le H' ∧ St w0 H0 w H' [.box b1 26 [vp_e0, vp_e1, vp_e2, (str p_e.fReason), vp_e4, (str p_e.fBody), (int p_e.fRequested), (int p_e.fReceived)]]) ?_ ?_
    · rcases boolE ((!r3) || (decide (100 < (p_name.length : Int)))) with hb10 | hb10
      · replace hg11 := condT hg11 hb10
        refine WL.gno rfl rfl hb10 ?_
        refine WL.gno rfl rfl hb10 ?_
        refine WL.gno rfl rfl hb10 ?_
        refine WL.gno rfl rfl hb10 ?_
        refine WL.valw (R.pickT rfl hb10 rfl) ?_
        exact WL.nil ⟨(congrArg boo (Option.some.inj hg11)), (by repeat (first | refine agree_upd rfl ?_ | refine agree_upds' rfl ?_ | exact agree_refl)), ⟨H6, (Hp.le.refl _), S⟩⟩
      · replace hg11 := condF hg11 hb10
        refine WL.gyes rfl rfl hb10 ?_
        refine WL.valw (R.loadBN (i := 0) (vs := [vp_e0, vp_e1, vp_e2, (str p_e.fReason), vp_e4, (str p_e.fBody), (int p_e.fRequested), (int p_e.fReceived)]) S rfl rfl lay26 rfl rfl) ?_
        refine WL.gyes rfl rfl hb10 ?_
        refine WL.valw (R.mv (v := (str p_name)) rfl) ?_
        refine WL.gyes rfl rfl hb10 ?_
        obtain ⟨r12, hr12, hg11⟩ := bindE hg11
        refine W.call S rfl (entry_Sendable_ok S.holds (hG.post S.post) p_e p_name Rp_e0 Rp_e1 Rp_e2 Rp_e4 hr12) ?_
        rintro v13 w14 H15 hle16 S rfl
        have Rp_e0 := Sl.mono Rp_e0 hle16
        have Rp_e1 := Sl.mono Rp_e1 hle16
        have Rp_e2 := Sl.mono Rp_e2 hle16
        have Rp_e4 := Sl.mono Rp_e4 hle16
        refine WL.gyes rfl rfl hb10 ?_
        refine WL.valw (R.not rfl) ?_
        refine WL.valw (R.pickF rfl hb10 rfl) ?_
        exact WL.nil ⟨(congrArg boo (Option.some.inj hg11)), (by repeat (first | refine agree_upd rfl ?_ | refine agree_upds' rfl ?_ | exact agree_refl)), ⟨H15, hle16, S⟩⟩
    · intro us w19 ⟨H18, hle20, S⟩
      have Rp_e0 := Sl.mono Rp_e0 hle20
      have Rp_e1 := Sl.mono Rp_e1 hle20
      have Rp_e2 := Sl.mono Rp_e2 hle20
      have Rp_e4 := Sl.mono Rp_e4 hle20
      refine WL.nil ?_
      rcases condE h with ⟨hc21, h⟩ | ⟨hc21, h⟩
      · refine WP.condT rfl hc21 ?_
        refine WP.seq ?_
        refine WP.region ?_
        obtain ⟨r22, hr22, h⟩ := bindE h
        refine W.call S rfl (law26_awake_ok S.holds (hG.post S.post)  hr22) ?_
        rintro v23 w24 H25 hle26 S rfl
        have Rp_e0 := Sl.mono Rp_e0 hle26
        have Rp_e1 := Sl.mono Rp_e1 hle26
        have Rp_e2 := Sl.mono Rp_e2 hle26
        have Rp_e4 := Sl.mono Rp_e4 hle26
        refine WL.valw (R.as (v := (boo r22)) rfl) ?_
        refine WL.nil ?_
        obtain rfl := Option.some.inj h
        refine WP.ret (Out.one rfl S rfl ?_)
        exact rfl
      · refine WP.condF rfl hc21 ?_
        refine WP.skip ?_
        refine WP.seq ?_
        refine WP.region ?_
        refine WL.valw (R.loadBN (i := 0) (vs := [vp_e0, vp_e1, vp_e2, (str p_e.fReason), vp_e4, (str p_e.fBody), (int p_e.fRequested), (int p_e.fReceived)]) S rfl rfl lay26 rfl rfl) ?_
        refine WL.valw (R.mv (v := (int p_now)) rfl) ?_
        refine WL.valw (R.mv (v := (str p_name)) rfl) ?_
        obtain ⟨r27, hr27, h⟩ := bindE h
        refine W.call S rfl (entry_Response_ok S.holds (hG.post S.post) p_e p_now p_name Rp_e0 Rp_e1 Rp_e2 Rp_e4 hr27) ?_
        rintro v28 w29 H30 hle31 S ⟨u32, rfl, R33⟩
        have Rp_e0 := Sl.mono Rp_e0 hle31
        have Rp_e1 := Sl.mono Rp_e1 hle31
        have Rp_e2 := Sl.mono Rp_e2 hle31
        have Rp_e4 := Sl.mono Rp_e4 hle31
        obtain ⟨r34, hr34, h⟩ := bindE h
        refine W.call S rfl (ref01_FormatResponse_ok S.holds (hG.post S.post) r27 [71, 69, 84] R33 hr34) ?_
        rintro v35 w36 H37 hle38 S rfl
        have Rp_e0 := Sl.mono Rp_e0 hle38
        have Rp_e1 := Sl.mono Rp_e1 hle38
        have Rp_e2 := Sl.mono Rp_e2 hle38
        have Rp_e4 := Sl.mono Rp_e4 hle38
        have R33 := Sl.mono R33 hle38
        refine WL.valw (R.as (v := (str r34)) rfl) ?_
        refine WL.nil ?_
        refine WP.seq ?_
        refine WP.region ?_
        refine WL.valw (R.mv (v := (str r34)) rfl) ?_
        obtain ⟨r39, hr39, h⟩ := bindE h
        refine W.call S rfl (ref01_ParseResponse_ok S.holds (hG.post S.post) r34 [71, 69, 84] true hr39) ?_
        rintro v40 w41 H42 hle43 S ⟨u44, rfl, R45⟩
        have Rp_e0 := Sl.mono Rp_e0 hle43
        have Rp_e1 := Sl.mono Rp_e1 hle43
        have Rp_e2 := Sl.mono Rp_e2 hle43
        have Rp_e4 := Sl.mono Rp_e4 hle43
        have R33 := Sl.mono R33 hle43
        refine WL.valw (R.mv (v := (.tuple ⟨[(agg [(int r39.1.fMinor), (int r39.1.fStatus), (str r39.1.fReason), u44, (str r39.1.fBody)]), (int r39.2.1), (int r39.2.2)]⟩)) rfl) ?_
        refine WL.valw (R.ext rfl rfl) ?_
        refine WL.valw (R.ext rfl rfl) ?_
        refine WL.valw (R.ext rfl rfl) ?_
        refine W.alloc [(int 0), (int 0), (str []), (.slice none 0 0), (str [])] S zer30 ?_
        intro b46 w47 S
        refine W.store (i := 0) [(int r39.1.fMinor), (int r39.1.fStatus), (str r39.1.fReason), u44, (str r39.1.fBody)] S rfl rfl rfl lay30 rfl (AllOne.all (l := [(int r39.1.fMinor), (int r39.1.fStatus), (str r39.1.fReason), u44, (str r39.1.fBody)]) (.cons rfl (.cons rfl (.cons rfl (.cons (Sl.oneC R45) (.cons rfl .nil)))))) (Nat.le_of_ble_eq_true rfl) rfl ?_
        intro w48 S
        refine WL.valw (R.as (v := (int r39.2.1)) rfl) ?_
        refine WL.valw (R.as (v := (int r39.2.2)) rfl) ?_
        refine WL.nil ?_
        refine WP.seq ?_
        refine WP.region ?_
        refine WL.valw (R.mv (v := (int r39.2.2)) rfl) ?_
        refine WL.valw (R.eql rfl rfl) ?_
        refine WL.valw (R.mv (v := (boo (r39.2.2 == 0))) rfl) ?_
        refine WL.grp 5 [40, 41, 42, 43] 44 (boo ((r39.2.2 == 0) && (r39.2.1 == (r34.length : Int)))) ?_ ?_
        · rcases boolE (r39.2.2 == 0) with hb49 | hb49
          · refine WL.gyes rfl rfl hb49 ?_
            refine WL.valw (R.mv (v := (int r39.2.1)) rfl) ?_
            refine WL.gyes rfl rfl hb49 ?_
            refine WL.valw (R.mv (v := (str r34)) rfl) ?_
            refine WL.gyes rfl rfl hb49 ?_
            refine WL.valw (R.lenS (a := r34) rfl Tryz.underlying9) ?_
            refine WL.gyes rfl rfl hb49 ?_
            refine WL.valw (R.eql rfl rfl) ?_
            refine WL.valw (R.pickT rfl hb49 rfl) ?_
            exact WL.nil ⟨(andT hb49), (by repeat (first | refine agree_upd rfl ?_ | refine agree_upds' rfl ?_ | exact agree_refl)), rfl⟩
          · refine WL.gno rfl rfl hb49 ?_
            refine WL.gno rfl rfl hb49 ?_
            refine WL.gno rfl rfl hb49 ?_
            refine WL.gno rfl rfl hb49 ?_
            refine WL.valw (R.pickF rfl hb49 rfl) ?_
            exact WL.nil ⟨(andF hb49), (by repeat (first | refine agree_upd rfl ?_ | refine agree_upds' rfl ?_ | exact agree_refl)), rfl⟩
        · intro us
          refine WL.valw (R.mv (v := (boo ((r39.2.2 == 0) && (r39.2.1 == (r34.length : Int))))) rfl) ?_
          refine WL.grp 6 [46, 47, 48, 49, 50] 51 (boo (((r39.2.2 == 0) && (r39.2.1 == (r34.length : Int))) && (r39.1.fBody == p_e.fBody))) ?_ ?_
          · rcases boolE ((r39.2.2 == 0) && (r39.2.1 == (r34.length : Int))) with hb51 | hb51
            · refine WL.gyes rfl rfl hb51 ?_
              refine WL.valw (R.fieldB rfl fld30_4) ?_
              refine WL.gyes rfl rfl hb51 ?_
              refine WL.valw (R.loadB (i := 0) (v := (str r39.1.fBody)) S rfl rfl lay9 rfl) ?_
              refine WL.gyes rfl rfl hb51 ?_
              refine WL.valw (R.fieldB rfl fld26_5) ?_
              refine WL.gyes rfl rfl hb51 ?_
              refine WL.valw (R.loadB (i := 1) (v := (str p_e.fBody)) S rfl rfl lay9 rfl) ?_
              refine WL.gyes rfl rfl hb51 ?_
              refine WL.valw (R.eqlS (a := r39.1.fBody) (b := p_e.fBody) rfl rfl) ?_
              refine WL.valw (R.pickT rfl hb51 rfl) ?_
              exact WL.nil ⟨(andT hb51), (by repeat (first | refine agree_upd rfl ?_ | refine agree_upds' rfl ?_ | exact agree_refl)), rfl⟩
            · refine WL.gno rfl rfl hb51 ?_
              refine WL.gno rfl rfl hb51 ?_
              refine WL.gno rfl rfl hb51 ?_
              refine WL.gno rfl rfl hb51 ?_
              refine WL.gno rfl rfl hb51 ?_
              refine WL.valw (R.pickF rfl hb51 rfl) ?_
              exact WL.nil ⟨(andF hb51), (by repeat (first | refine agree_upd rfl ?_ | refine agree_upds' rfl ?_ | exact agree_refl)), rfl⟩
          · intro us
            refine WL.valw (R.mv (v := (boo (((r39.2.2 == 0) && (r39.2.1 == (r34.length : Int))) && (r39.1.fBody == p_e.fBody)))) rfl) ?_
            obtain ⟨b67, hg54, h⟩ := bindE h
            refine WL.grpw 7 [53, 54, 55, 56, 57, 58] 59 (boo b67) (fun w => ∃ H' : Hp, H42.le H' ∧ St w0 H0 w H' [.box b46 30 [(int r39.1.fMinor), (int r39.1.fStatus), (str r39.1.fReason), u44, (str r39.1.fBody)], .box b1 26 [vp_e0, vp_e1, vp_e2, (str p_e.fReason), vp_e4, (str p_e.fBody), (int p_e.fRequested), (int p_e.fReceived)]]) ?_ ?_
            · rcases boolE (((r39.2.2 == 0) && (r39.2.1 == (r34.length : Int))) && (r39.1.fBody == p_e.fBody)) with hb53 | hb53
              · replace hg54 := condT hg54 hb53
                refine WL.gyes rfl rfl hb53 ?_
                refine WL.valw (R.loadBN (i := 1) (vs := [vp_e0, vp_e1, vp_e2, (str p_e.fReason), vp_e4, (str p_e.fBody), (int p_e.fRequested), (int p_e.fReceived)]) S rfl rfl lay26 rfl rfl) ?_
                refine WL.gyes rfl rfl hb53 ?_
                refine WL.valw (R.mv (v := (int p_now)) rfl) ?_
                refine WL.gyes rfl rfl hb53 ?_
                refine WL.valw (R.mv (v := (str p_name)) rfl) ?_
                refine WL.gyes rfl rfl hb53 ?_
                obtain ⟨r55, hr55, hg54⟩ := bindE hg54
                refine W.call S rfl (entry_Response_ok S.holds (hG.post S.post) p_e p_now p_name Rp_e0 Rp_e1 Rp_e2 Rp_e4 hr55) ?_
                rintro v56 w57 H58 hle59 S ⟨u60, rfl, R61⟩
                have Rp_e0 := Sl.mono Rp_e0 hle59
                have Rp_e1 := Sl.mono Rp_e1 hle59
                have Rp_e2 := Sl.mono Rp_e2 hle59
                have Rp_e4 := Sl.mono Rp_e4 hle59
                have R33 := Sl.mono R33 hle59
                have R45 := Sl.mono R45 hle59
                refine WL.gyes rfl rfl hb53 ?_
                obtain ⟨r62, hr62, hg54⟩ := bindE hg54
                refine W.call S rfl (ref01_FormatResponse_ok S.holds (hG.post S.post) r55 [72, 69, 65, 68] R61 hr62) ?_
                rintro v63 w64 H65 hle66 S rfl
                have Rp_e0 := Sl.mono Rp_e0 hle66
                have Rp_e1 := Sl.mono Rp_e1 hle66
                have Rp_e2 := Sl.mono Rp_e2 hle66
                have Rp_e4 := Sl.mono Rp_e4 hle66
                have R33 := Sl.mono R33 hle66
                have R45 := Sl.mono R45 hle66
                have R61 := Sl.mono R61 hle66
                refine WL.gyes rfl rfl hb53 ?_
                refine WL.valw (R.neqS (a := r62) (b := []) rfl rfl) ?_
                refine WL.valw (R.pickT rfl hb53 rfl) ?_
                exact WL.nil ⟨(congrArg boo (Option.some.inj hg54)), (by repeat (first | refine agree_upd rfl ?_ | refine agree_upds' rfl ?_ | exact agree_refl)), ⟨H65, (hle59.trans hle66), S⟩⟩
              · replace hg54 := condF hg54 hb53
                refine WL.gno rfl rfl hb53 ?_
                refine WL.gno rfl rfl hb53 ?_
                refine WL.gno rfl rfl hb53 ?_
                refine WL.gno rfl rfl hb53 ?_
                refine WL.gno rfl rfl hb53 ?_
                refine WL.gno rfl rfl hb53 ?_
                refine WL.valw (R.pickF rfl hb53 rfl) ?_
                exact WL.nil ⟨(congrArg boo (Option.some.inj hg54)), (by repeat (first | refine agree_upd rfl ?_ | refine agree_upds' rfl ?_ | exact agree_refl)), ⟨H42, (Hp.le.refl _), S⟩⟩
            · intro us w69 ⟨H68, hle70, S⟩
              have Rp_e0 := Sl.mono Rp_e0 hle70
              have Rp_e1 := Sl.mono Rp_e1 hle70
              have Rp_e2 := Sl.mono Rp_e2 hle70
              have Rp_e4 := Sl.mono Rp_e4 hle70
              have R33 := Sl.mono R33 hle70
              have R45 := Sl.mono R45 hle70
              refine WL.valw (R.mv (v := (boo b67)) rfl) ?_
              obtain ⟨b78, hg72, h⟩ := bindE h
              refine WL.grpw 2 [61] 62 (boo b78) (fun w => ∃ H' : Hp, H68.le H' ∧ St w0 H0 w H' [.box b46 30 [(int r39.1.fMinor), (int r39.1.fStatus), (str r39.1.fReason), u44, (str r39.1.fBody)], .box b1 26 [vp_e0, vp_e1, vp_e2, (str p_e.fReason), vp_e4, (str p_e.fBody), (int p_e.fRequested), (int p_e.fReceived)]]) ?_ ?_
              · rcases boolE b67 with hb71 | hb71
                · replace hg72 := condT hg72 hb71
                  refine WL.gyes rfl rfl hb71 ?_
                  obtain ⟨r73, hr73, hg72⟩ := bindE hg72
                  refine W.call S rfl (law26_awake_ok S.holds (hG.post S.post)  hr73) ?_
                  rintro v74 w75 H76 hle77 S rfl
                  have Rp_e0 := Sl.mono Rp_e0 hle77
                  have Rp_e1 := Sl.mono Rp_e1 hle77
                  have Rp_e2 := Sl.mono Rp_e2 hle77
                  have Rp_e4 := Sl.mono Rp_e4 hle77
                  have R33 := Sl.mono R33 hle77
                  have R45 := Sl.mono R45 hle77
                  refine WL.valw (R.pickT rfl hb71 rfl) ?_
                  exact WL.nil ⟨(congrArg boo (Option.some.inj hg72)), (by repeat (first | refine agree_upd rfl ?_ | refine agree_upds' rfl ?_ | exact agree_refl)), ⟨H76, hle77, S⟩⟩
                · replace hg72 := condF hg72 hb71
                  refine WL.gno rfl rfl hb71 ?_
                  refine WL.valw (R.pickF rfl hb71 rfl) ?_
                  exact WL.nil ⟨(congrArg boo (Option.some.inj hg72)), (by repeat (first | refine agree_upd rfl ?_ | refine agree_upds' rfl ?_ | exact agree_refl)), ⟨H68, (Hp.le.refl _), S⟩⟩
              · intro us w80 ⟨H79, hle81, S⟩
                have Rp_e0 := Sl.mono Rp_e0 hle81
                have Rp_e1 := Sl.mono Rp_e1 hle81
                have Rp_e2 := Sl.mono Rp_e2 hle81
                have Rp_e4 := Sl.mono Rp_e4 hle81
                have R33 := Sl.mono R33 hle81
                have R45 := Sl.mono R45 hle81
                refine WL.valw (R.as (v := (boo b78)) rfl) ?_
                refine WL.nil ?_
                obtain rfl := Option.some.inj h
                refine WP.ret (Out.one rfl S rfl ?_)
                exact rfl
end Go.Proofs
