/- A part of the proof of laws of the seat: written by program over the translation. -/
import Derived.Test.YtdijehmmnpofjaaDoorGenC4
namespace Go.Proofs
open Go.Eng Go.Eng.Pure
set_option linter.unusedVariables false
set_option maxRecDepth 10000 in
set_option maxHeartbeats 4000000 in
theorem law22_CachecontrolFirst_ok {w0 : World} {H0 : Hp} (hw : Holds w0 H0) (p_ppend : Str) (p_x1 : Str) (p_x2 : Str) {r : Bool} (h : law22_CachecontrolFirst p_ppend p_x1 p_x2 = some r) :
    Con Tryd.prog 3 [(str p_ppend), (str p_x1), (str p_x2)] w0 H0 (fun H' v => v = (boo r)) := by
  refine Con.mk (N := 112) Tryd.func3 rfl rfl (by kernel_rfl) rfl ?_
  have S := St.start hw
  refine WP.seq ?_
  refine WP.region ?_
  refine WL.valw (R.as (v := (boo false)) rfl) ?_
  refine WL.nil ?_
  refine WP.seq ?_
  refine WP.seq ?_
  refine WP.region ?_
  refine WL.valw (R.mv (v := (str p_ppend)) rfl) ?_
  refine WL.valw (R.lenS (a := p_ppend) rfl Tryd.underlying9) ?_
  refine WL.valw (R.gtr rfl rfl) ?_
  refine WL.valw (R.mv (v := (boo (decide (200 < (p_ppend.length : Int))))) rfl) ?_
  refine WL.grp 4 [16, 17, 18] 19 (boo ((decide (200 < (p_ppend.length : Int))) || (decide (200 < (p_x1.length : Int))))) ?_ ?_
  · rcases boolE (decide (200 < (p_ppend.length : Int))) with hb1 | hb1
    · refine WL.gno rfl rfl hb1 ?_
      refine WL.gno rfl rfl hb1 ?_
      refine WL.gno rfl rfl hb1 ?_
      refine WL.valw (R.pickT rfl hb1 rfl) ?_
      exact WL.nil ⟨(orT hb1), (by repeat (first | refine agree_upd rfl ?_ | refine agree_upds' rfl ?_ | exact agree_refl)), rfl⟩
    · refine WL.gyes rfl rfl hb1 ?_
      refine WL.valw (R.mv (v := (str p_x1)) rfl) ?_
      refine WL.gyes rfl rfl hb1 ?_
      refine WL.valw (R.lenS (a := p_x1) rfl Tryd.underlying9) ?_
      refine WL.gyes rfl rfl hb1 ?_
      refine WL.valw (R.gtr rfl rfl) ?_
      refine WL.valw (R.pickF rfl hb1 rfl) ?_
      exact WL.nil ⟨(orF hb1), (by repeat (first | refine agree_upd rfl ?_ | refine agree_upds' rfl ?_ | exact agree_refl)), rfl⟩
  · intro us
    refine WL.valw (R.mv (v := (boo ((decide (200 < (p_ppend.length : Int))) || (decide (200 < (p_x1.length : Int)))))) rfl) ?_
    refine WL.grp 4 [21, 22, 23] 24 (boo (((decide (200 < (p_ppend.length : Int))) || (decide (200 < (p_x1.length : Int)))) || (decide (50 < (p_x2.length : Int))))) ?_ ?_
    · rcases boolE ((decide (200 < (p_ppend.length : Int))) || (decide (200 < (p_x1.length : Int)))) with hb3 | hb3
      · refine WL.gno rfl rfl hb3 ?_
        refine WL.gno rfl rfl hb3 ?_
        refine WL.gno rfl rfl hb3 ?_
        refine WL.valw (R.pickT rfl hb3 rfl) ?_
        exact WL.nil ⟨(orT hb3), (by repeat (first | refine agree_upd rfl ?_ | refine agree_upds' rfl ?_ | exact agree_refl)), rfl⟩
      · refine WL.gyes rfl rfl hb3 ?_
        refine WL.valw (R.mv (v := (str p_x2)) rfl) ?_
        refine WL.gyes rfl rfl hb3 ?_
        refine WL.valw (R.lenS (a := p_x2) rfl Tryd.underlying9) ?_
        refine WL.gyes rfl rfl hb3 ?_
        refine WL.valw (R.gtr rfl rfl) ?_
        refine WL.valw (R.pickF rfl hb3 rfl) ?_
        exact WL.nil ⟨(orF hb3), (by repeat (first | refine agree_upd rfl ?_ | refine agree_upds' rfl ?_ | exact agree_refl)), rfl⟩
    · intro us
      refine WL.valw (R.mv (v := (boo (((decide (200 < (p_ppend.length : Int))) || (decide (200 < (p_x1.length : Int)))) || (decide (50 < (p_x2.length : Int)))))) rfl) ?_
      obtain ⟨b12, hg6, h⟩ := bindE h
      refine WL.grpw 4 [26, 27, 28] 29 (boo b12) (fun w => ∃ H' : Hp, H0.le H' ∧ St w0 H0 w H' []) ?_ ?_
      · rcases boolE (((decide (200 < (p_ppend.length : Int))) || (decide (200 < (p_x1.length : Int)))) || (decide (50 < (p_x2.length : Int)))) with hb5 | hb5
        · replace hg6 := condT hg6 hb5
          refine WL.gno rfl rfl hb5 ?_
          refine WL.gno rfl rfl hb5 ?_
          refine WL.gno rfl rfl hb5 ?_
          refine WL.valw (R.pickT rfl hb5 rfl) ?_
          exact WL.nil ⟨(congrArg boo (Option.some.inj hg6)), (by repeat (first | refine agree_upd rfl ?_ | refine agree_upds' rfl ?_ | exact agree_refl)), ⟨H0, (Hp.le.refl _), S⟩⟩
        · replace hg6 := condF hg6 hb5
          refine WL.gyes rfl rfl hb5 ?_
          refine WL.valw (R.mv (v := (str p_x2)) rfl) ?_
          refine WL.gyes rfl rfl hb5 ?_
          obtain ⟨r7, hr7, hg6⟩ := bindE hg6
          refine W.call S rfl (ref01_Token_ok S.holds p_x2 hr7) ?_
          rintro v8 w9 H10 hle11 S rfl
          refine WL.gyes rfl rfl hb5 ?_
          refine WL.valw (R.not rfl) ?_
          refine WL.valw (R.pickF rfl hb5 rfl) ?_
          exact WL.nil ⟨(congrArg boo (Option.some.inj hg6)), (by repeat (first | refine agree_upd rfl ?_ | refine agree_upds' rfl ?_ | exact agree_refl)), ⟨H10, hle11, S⟩⟩
      · intro us w14 ⟨H13, hle15, S⟩
        refine WL.valw (R.mv (v := (boo b12)) rfl) ?_
        obtain ⟨b31, hg17, h⟩ := bindE h
        refine WL.grpw 10 [31, 32, 33, 34, 35, 36, 37, 38, 39] 40 (boo b31) (fun w => ∃ H' : Hp, H13.le H' ∧ St w0 H0 w H' []) ?_ ?_
        · rcases boolE b12 with hb16 | hb16
          · replace hg17 := condT hg17 hb16
            refine WL.gno rfl rfl hb16 ?_
            refine WL.gno rfl rfl hb16 ?_
            refine WL.gno rfl rfl hb16 ?_
            refine WL.gno rfl rfl hb16 ?_
            refine WL.gno rfl rfl hb16 ?_
            refine WL.gno rfl rfl hb16 ?_
            refine WL.gno rfl rfl hb16 ?_
            refine WL.gno rfl rfl hb16 ?_
            refine WL.gno rfl rfl hb16 ?_
            refine WL.valw (R.pickT rfl hb16 rfl) ?_
            exact WL.nil ⟨(congrArg boo (Option.some.inj hg17)), (by repeat (first | refine agree_upd rfl ?_ | refine agree_upds' rfl ?_ | exact agree_refl)), ⟨H13, (Hp.le.refl _), S⟩⟩
          · replace hg17 := condF hg17 hb16
            refine WL.gyes rfl rfl hb16 ?_
            refine WL.valw (R.mv (v := (str p_ppend)) rfl) ?_
            refine WL.gyes rfl rfl hb16 ?_
            obtain ⟨s18, hs18, hg17⟩ := bindE hg17
            refine WL.valw (R.cat (a := p_ppend) (b := [44, 120]) rfl rfl hs18) ?_
            refine WL.gyes rfl rfl hb16 ?_
            obtain ⟨r19, hr19, hg17⟩ := bindE hg17
            refine W.call S rfl (ref01_Split_ok S.holds s18 hr19) ?_
            rintro v20 w21 H22 hle23 S R24
            refine WL.gyes rfl rfl hb16 ?_
            refine WL.valw (R.lenL (α := Str) (xs := r19) (H := H22) R24 rfl Tryd.underlying23) ?_
            refine WL.gyes rfl rfl hb16 ?_
            refine WL.valw (R.mv (v := (str p_ppend)) rfl) ?_
            refine WL.gyes rfl rfl hb16 ?_
            obtain ⟨r25, hr25, hg17⟩ := bindE hg17
            refine W.call S rfl (ref01_Split_ok S.holds p_ppend hr25) ?_
            rintro v26 w27 H28 hle29 S R30
            have R24 := Sl.mono R24 hle29
            refine WL.gyes rfl rfl hb16 ?_
            refine WL.valw (R.lenL (α := Str) (xs := r25) (H := H28) R30 rfl Tryd.underlying23) ?_
            refine WL.gyes rfl rfl hb16 ?_
            refine WL.valw (R.add rfl rfl) ?_
            refine WL.gyes rfl rfl hb16 ?_
            refine WL.valw (R.neq rfl rfl) ?_
            refine WL.valw (R.pickF rfl hb16 rfl) ?_
            exact WL.nil ⟨(congrArg boo (Option.some.inj hg17)), (by repeat (first | refine agree_upd rfl ?_ | refine agree_upds' rfl ?_ | exact agree_refl)), ⟨H28, (hle23.trans hle29), S⟩⟩
        · intro us w33 ⟨H32, hle34, S⟩
          refine WL.nil ?_
          rcases condE h with ⟨hc35, h⟩ | ⟨hc35, h⟩
          · refine WP.condT rfl hc35 ?_
            refine WP.seq ?_
            refine WP.region ?_
            refine WL.valw (R.as (v := (boo true)) rfl) ?_
            refine WL.nil ?_
            obtain rfl := Option.some.inj h
            refine WP.ret (Out.one rfl S rfl ?_)
            exact rfl
          · refine WP.condF rfl hc35 ?_
            refine WP.skip ?_
            refine WP.seq ?_
            refine WP.region ?_
            refine WL.valw (R.mv (v := (str p_ppend)) rfl) ?_
            refine WL.valw (R.build [(0, (str [67, 97, 99, 104, 101, 45, 67, 111, 110, 116, 114, 111, 108])), (1, (str p_ppend))] [(str [67, 97, 99, 104, 101, 45, 67, 111, 110, 116, 114, 111, 108]), (str p_ppend)] bp26 zer26 rfl rfl) ?_
            refine W.bslice (α := GField) [(agg [(str [67, 97, 99, 104, 101, 45, 67, 111, 110, 116, 114, 111, 108]), (str p_ppend)])] ([(⟨[67, 97, 99, 104, 101, 45, 67, 111, 110, 116, 114, 111, 108], p_ppend⟩ : GField)] : List GField) S el27 rfl rfl rfl (by decide) (encS ⟨rfl, rfl⟩ enc0) ?_
            intro u36 w37 H38 hle39 R40 S
            refine WL.valw (R.as (v := u36) rfl) ?_
            refine WL.nil ?_
            refine WP.seq ?_
            refine WP.region ?_
            refine WL.valw (R.mv (v := (str p_ppend)) rfl) ?_
            obtain ⟨r41, hr41, h⟩ := bindE h
            refine W.call S rfl (ref01_Split_ok S.holds p_ppend hr41) ?_
            rintro v42 w43 H44 hle45 S R46
            have R40 := Sl.mono R40 hle45
            refine WL.valw (R.as (v := v42) rfl) ?_
            refine WL.nil ?_
            refine WP.seq ?_
            refine WP.seq ?_
            refine WP.region ?_
            refine WL.valw (R.as (v := (int 0)) rfl) ?_
            refine WL.nil ?_
            obtain ⟨r59, hr60, h⟩ := bindE h
            refine WP.cut (fun f w => match r59 with | .inl _ => ∃ (H54 : Hp), f 7 = u36 ∧ Sl (α := GField) H54 u36 ([(⟨[67, 97, 99, 104, 101, 45, 67, 111, 110, 116, 114, 111, 108], p_ppend⟩ : GField)] : List GField) ∧ St w0 H0 w H54 [.row u36 26 2 ([(⟨[67, 97, 99, 104, 101, 45, 67, 111, 110, 116, 114, 111, 108], p_ppend⟩ : GField)] : List GField).length] | .inr _ => False) ?_ ?_
            · refine WP.block ?_
              refine WP.loopM (law22_CachecontrolFirst_L1 p_ppend p_x1 p_x2 r41) (fun s f w => match s with | y_52 => ∃ (H47 : Hp), f 1 = (str p_x1) ∧ f 2 = (str p_x2) ∧ f 7 = u36 ∧ f 8 = v42 ∧ f 9 = (int y_52) ∧ Sl (α := GField) H47 u36 ([(⟨[67, 97, 99, 104, 101, 45, 67, 111, 110, 116, 114, 111, 108], p_ppend⟩ : GField)] : List GField) ∧ Sl (α := Str) H47 v42 r41 ∧ St w0 H0 w H47 [.row u36 26 2 ([(⟨[67, 97, 99, 104, 101, 45, 67, 111, 110, 116, 114, 111, 108], p_ppend⟩ : GField)] : List GField).length]) 0 r59 hr60 ?_ ?_
              · exact ⟨H44, rfl, rfl, rfl, rfl, rfl, R40, R46, S⟩
              · intro y_52 f w hI y56 hy57 hy58
                obtain ⟨H47, h48, h49, h50, h51, h53, R40, R46, S⟩ := hI
                refine WP.seq ?_
                refine WP.seq ?_
                refine WP.region ?_
                refine WL.valw (R.mv (v := (int y_52)) h53) ?_
                refine WL.valw (R.mv (v := v42) h51) ?_
                refine WL.valw (R.lenL (α := Str) (xs := r41) (H := H47) R46 rfl Tryd.underlying23) ?_
                refine WL.valw (R.lss rfl rfl) ?_
                refine WL.nil ?_
                rcases condE hy57 with ⟨hc61, hy57⟩ | ⟨hc61, hy57⟩
                · refine WP.condT rfl hc61 ?_
                  refine WP.skip ?_
                  refine WP.seq ?_
                  refine WP.block ?_
                  refine WP.seq ?_
                  refine WP.region ?_
                  refine WL.valw (R.as (v := (int 0)) rfl) ?_
                  refine WL.nil ?_
                  refine WP.seq ?_
                  obtain ⟨y_76, hr82, hy57⟩ := bindE hy57
                  refine WP.cut (fun f w => ∃ (H70 : Hp), f 1 = (str p_x1) ∧ f 2 = (str p_x2) ∧ f 7 = u36 ∧ f 8 = v42 ∧ f 9 = (int y_52) ∧ f 10 = (int y_76) ∧ Sl (α := GField) H70 u36 ([(⟨[67, 97, 99, 104, 101, 45, 67, 111, 110, 116, 114, 111, 108], p_ppend⟩ : GField)] : List GField) ∧ Sl (α := Str) H70 v42 r41 ∧ St w0 H0 w H70 [.row u36 26 2 ([(⟨[67, 97, 99, 104, 101, 45, 67, 111, 110, 116, 114, 111, 108], p_ppend⟩ : GField)] : List GField).length]) ?_ ?_
                  · refine WP.block ?_
                    refine WP.loopM (law22_CachecontrolFirst_L0 r41 y_52) (fun s f w => match s with | y_68 => ∃ (H62 : Hp), f 1 = (str p_x1) ∧ f 2 = (str p_x2) ∧ f 7 = u36 ∧ f 8 = v42 ∧ f 9 = (int y_52) ∧ f 10 = (int y_68) ∧ Sl (α := GField) H62 u36 ([(⟨[67, 97, 99, 104, 101, 45, 67, 111, 110, 116, 114, 111, 108], p_ppend⟩ : GField)] : List GField) ∧ Sl (α := Str) H62 v42 r41 ∧ St w0 H0 w H62 [.row u36 26 2 ([(⟨[67, 97, 99, 104, 101, 45, 67, 111, 110, 116, 114, 111, 108], p_ppend⟩ : GField)] : List GField).length]) 0 y_76 hr82 ?_ ?_
                    · exact ⟨H47, h48, h49, h50, h51, h53, rfl, R40, R46, S⟩
                    · intro y_68 f w hI y78 hy79 hy80
                      obtain ⟨H62, h63, h64, h65, h66, h67, h69, R40, R46, S⟩ := hI
                      refine WP.seq ?_
                      refine WP.seq ?_
                      refine WP.region ?_
                      refine WL.valw (R.mv (v := (int y_68)) h69) ?_
                      refine WL.valw (R.mv (v := v42) h66) ?_
                      refine WL.valw (R.mv (v := (int y_52)) h67) ?_
                      obtain ⟨x83, hx83, hy79⟩ := bindE hy79
                      refine W.idx (α := Str) R46 rfl rfl el23 hx83 ?_
                      rintro a84 _ hA85 rfl
                      refine WL.valw (R.loadH (v := (str x83)) S rfl hA85 lay9 rfl) ?_
                      refine WL.valw (R.lenS (a := x83) rfl Tryd.underlying9) ?_
                      refine WL.valw (R.lss rfl rfl) ?_
                      refine WL.valw (R.mv (v := (boo (decide (y_68 < (x83.length : Int))))) rfl) ?_
                      obtain ⟨b97, hg87, hy79⟩ := bindE hy79
                      refine WL.grpw 8 [60, 61, 62, 63, 64, 65, 66] 67 (boo b97) (fun w => ∃ H' : Hp, H62.le H' ∧ St w0 H0 w H' [.row u36 26 2 ([(⟨[67, 97, 99, 104, 101, 45, 67, 111, 110, 116, 114, 111, 108], p_ppend⟩ : GField)] : List GField).length]) ?_ ?_
                      · rcases boolE (decide (y_68 < (x83.length : Int))) with hb86 | hb86
                        · replace hg87 := condT hg87 hb86
                          refine WL.gyes rfl rfl hb86 ?_
                          refine WL.valw (R.mv (v := v42) h66) ?_
                          refine WL.gyes rfl rfl hb86 ?_
                          refine WL.valw (R.mv (v := (int y_52)) h67) ?_
                          refine WL.gyes rfl rfl hb86 ?_
                          obtain ⟨x88, hx88, hg87⟩ := bindE hg87
                          refine W.idx (α := Str) R46 rfl rfl el23 hx88 ?_
                          rintro a89 _ hA90 rfl
                          refine WL.gyes rfl rfl hb86 ?_
                          refine WL.valw (R.loadH (v := (str x88)) S rfl hA90 lay9 rfl) ?_
                          refine WL.gyes rfl rfl hb86 ?_
                          refine WL.valw (R.mv (v := (int y_68)) h69) ?_
                          refine WL.gyes rfl rfl hb86 ?_
                          obtain ⟨c91, hc91, hg87⟩ := bindE hg87
                          refine WL.valw (R.idxS rfl rfl Tryd.underlying9 hc91) ?_
                          refine WL.gyes rfl rfl hb86 ?_
                          obtain ⟨r92, hr92, hg87⟩ := bindE hg87
                          refine W.call S rfl (ref01_TokenByte_ok S.holds c91 hr92) ?_
                          rintro v93 w94 H95 hle96 S rfl
                          have R40 := Sl.mono R40 hle96
                          have R46 := Sl.mono R46 hle96
                          have hA85 := At.mono hA85 hle96 (by simp)
                          have hA90 := At.mono hA90 hle96 (by simp)
                          refine WL.valw (R.pickT rfl hb86 rfl) ?_
                          exact WL.nil ⟨(congrArg boo (Option.some.inj hg87)), (by repeat (first | refine agree_upd rfl ?_ | refine agree_upds' rfl ?_ | exact agree_refl)), ⟨H95, hle96, S⟩⟩
                        · replace hg87 := condF hg87 hb86
                          refine WL.gno rfl rfl hb86 ?_
                          refine WL.gno rfl rfl hb86 ?_
                          refine WL.gno rfl rfl hb86 ?_
                          refine WL.gno rfl rfl hb86 ?_
                          refine WL.gno rfl rfl hb86 ?_
                          refine WL.gno rfl rfl hb86 ?_
                          refine WL.gno rfl rfl hb86 ?_
                          refine WL.valw (R.pickF rfl hb86 rfl) ?_
                          exact WL.nil ⟨(congrArg boo (Option.some.inj hg87)), (by repeat (first | refine agree_upd rfl ?_ | refine agree_upds' rfl ?_ | exact agree_refl)), ⟨H62, (Hp.le.refl _), S⟩⟩
                      · intro us w99 ⟨H98, hle100, S⟩
                        have R40 := Sl.mono R40 hle100
                        have R46 := Sl.mono R46 hle100
                        have hA85 := At.mono hA85 hle100 (by simp)
                        refine WL.nil ?_
                        rcases condE hy79 with ⟨hc101, hy79⟩ | ⟨hc101, hy79⟩
                        · refine WP.condT rfl hc101 ?_
                          refine WP.skip ?_
                          refine WP.block ?_
                          refine WP.region ?_
                          refine WL.valw (R.mv (v := (int y_68)) h69) ?_
                          refine WL.valw (R.add rfl rfl) ?_
                          refine WL.valw (R.as (v := (int (wr (y_68 + 1)))) rfl) ?_
                          refine WL.nil ?_
                          obtain rfl := Option.some.inj hy79
                          exact ⟨rfl, ⟨H98, h63, h64, h65, h66, h67, rfl, R40, R46, S⟩⟩
                        · refine WP.condF rfl hc101 ?_
                          refine WP.exit ?_
                          obtain rfl := Option.some.inj hy79
                          obtain rfl := hy80
                          exact ⟨H98, h63, h64, h65, h66, h67, h69, R40, R46, S⟩
                  · rintro f w ⟨H70, h71, h72, h73, h74, h75, h77, R40, R46, S⟩
                    refine WP.seq ?_
                    refine WP.region ?_
                    refine WL.valw (R.mv (v := v42) h74) ?_
                    refine WL.valw (R.mv (v := (int y_52)) h75) ?_
                    obtain ⟨x102, hx102, hy57⟩ := bindE hy57
                    refine W.idx (α := Str) R46 rfl rfl el23 hx102 ?_
                    rintro a103 _ hA104 rfl
                    refine WL.valw (R.loadH (v := (str x102)) S rfl hA104 lay9 rfl) ?_
                    refine WL.valw (R.mv (v := (int y_76)) h77) ?_
                    obtain ⟨s105, hs105, hy57⟩ := bindE hy57
                    refine WL.valw (R.subShi rfl rfl Tryd.underlying9 hs105) ?_
                    refine WL.valw (R.mv (v := (str p_x2)) h72) ?_
                    obtain ⟨r106, hr106, hy57⟩ := bindE hy57
                    refine W.call S rfl (ref01_Fold_ok S.holds s105 p_x2 hr106) ?_
                    rintro v107 w108 H109 hle110 S rfl
                    have R40 := Sl.mono R40 hle110
                    have R46 := Sl.mono R46 hle110
                    have hA104 := At.mono hA104 hle110 (by simp)
                    refine WL.valw (R.mv (v := (boo r106)) rfl) ?_
                    refine WL.grp 4 [79, 80, 81] 82 (boo (r106 && (decide ((r41.length : Int) < 40)))) ?_ ?_
                    · rcases boolE r106 with hb111 | hb111
                      · refine WL.gyes rfl rfl hb111 ?_
                        refine WL.valw (R.mv (v := v42) h74) ?_
                        refine WL.gyes rfl rfl hb111 ?_
                        refine WL.valw (R.lenL (α := Str) (xs := r41) (H := H109) R46 rfl Tryd.underlying23) ?_
                        refine WL.gyes rfl rfl hb111 ?_
                        refine WL.valw (R.lss rfl rfl) ?_
                        refine WL.valw (R.pickT rfl hb111 rfl) ?_
                        exact WL.nil ⟨(andT hb111), (by repeat (first | refine agree_upd rfl ?_ | refine agree_upds' rfl ?_ | exact agree_refl)), rfl⟩
                      · refine WL.gno rfl rfl hb111 ?_
                        refine WL.gno rfl rfl hb111 ?_
                        refine WL.gno rfl rfl hb111 ?_
                        refine WL.valw (R.pickF rfl hb111 rfl) ?_
                        exact WL.nil ⟨(andF hb111), (by repeat (first | refine agree_upd rfl ?_ | refine agree_upds' rfl ?_ | exact agree_refl)), rfl⟩
                    · intro us
                      refine WL.nil ?_
                      rcases condE hy57 with ⟨hc113, hy57⟩ | ⟨hc113, hy57⟩
                      · refine WP.condT rfl hc113 ?_
                        refine WP.seq ?_
                        refine WP.region ?_
                        refine WL.valw (R.mv (v := u36) h73) ?_
                        have S := S.addNil 26 2
                        obtain ⟨l114, hl114, hy57⟩ := bindE hy57
                        refine W.app (α := GField) (i := 0) S el27 rfl rfl rfl Sl.nil R40 hl114 ?_
                        intro v115 w116 H117 hle118 R119 S
                        have R40 := Sl.mono R40 hle118
                        have R46 := Sl.mono R46 hle118
                        have hA104 := At.mono hA104 hle118 (by simp)
                        refine WL.valw (R.mv (v := (str p_x2)) h72) ?_
                        obtain ⟨s120, hs120, hy57⟩ := bindE hy57
                        refine WL.valw (R.cat (a := p_x2) (b := [61]) rfl rfl hs120) ?_
                        refine WL.valw (R.mv (v := (str p_x1)) h71) ?_
                        obtain ⟨r121, hr121, hy57⟩ := bindE hy57
                        refine W.call S rfl (ref01_Quote_ok S.holds p_x1 hr121) ?_
                        rintro v122 w123 H124 hle125 S rfl
                        have R40 := Sl.mono R40 hle125
                        have R46 := Sl.mono R46 hle125
                        have hA104 := At.mono hA104 hle125 (by simp)
                        have R119 := Sl.mono R119 hle125
                        obtain ⟨s126, hs126, hy57⟩ := bindE hy57
                        refine WL.valw (R.cat (a := s120) (b := r121) rfl rfl hs126) ?_
                        refine WL.valw (R.build [(0, (str [99, 97, 99, 104, 101, 45, 99, 111, 110, 116, 114, 111, 108])), (1, (str s126))] [(str [99, 97, 99, 104, 101, 45, 99, 111, 110, 116, 114, 111, 108]), (str s126)] bp26 zer26 rfl rfl) ?_
                        refine W.bslice (α := GField) [(agg [(str [99, 97, 99, 104, 101, 45, 99, 111, 110, 116, 114, 111, 108]), (str s126)])] ([(⟨[99, 97, 99, 104, 101, 45, 99, 111, 110, 116, 114, 111, 108], s126⟩ : GField)] : List GField) S el27 rfl rfl rfl (by decide) (encS ⟨rfl, rfl⟩ enc0) ?_
                        intro u127 w128 H129 hle130 R131 S
                        have R40 := Sl.mono R40 hle130
                        have R46 := Sl.mono R46 hle130
                        have hA104 := At.mono hA104 hle130 (by simp)
                        have R119 := Sl.mono R119 hle130
                        obtain ⟨l132, hl132, hy57⟩ := bindE hy57
                        refine W.app (α := GField) (i := 1) S el27 rfl rfl rfl R119 R131 hl132 ?_
                        intro v133 w134 H135 hle136 R137 S
                        have R40 := Sl.mono R40 hle136
                        have R46 := Sl.mono R46 hle136
                        have hA104 := At.mono hA104 hle136 (by simp)
                        have R119 := Sl.mono R119 hle136
                        have R131 := Sl.mono R131 hle136
                        refine WL.valw (R.as (v := v133) rfl) ?_
                        refine WL.nil ?_
                        refine WP.seq ?_
                        refine WP.seq ?_
                        refine WP.region ?_
                        refine WL.valw (R.mv (v := (str p_x1)) h71) ?_
                        obtain ⟨r138, hr138, hy57⟩ := bindE hy57
                        refine W.call S rfl (ref01_Text_ok S.holds p_x1 hr138) ?_
                        rintro v139 w140 H141 hle142 S rfl
                        have R40 := Sl.mono R40 hle142
                        have R46 := Sl.mono R46 hle142
                        have hA104 := At.mono hA104 hle142 (by simp)
                        have R119 := Sl.mono R119 hle142
                        have R131 := Sl.mono R131 hle142
                        have R137 := Sl.mono R137 hle142
                        refine WL.valw (R.not rfl) ?_
                        refine WL.nil ?_
                        rcases condE hy57 with ⟨hc143, hy57⟩ | ⟨hc143, hy57⟩
                        · refine WP.condT rfl hc143 ?_
                          refine WP.seq ?_
                          refine WP.region ?_
                          refine WL.valw (R.as (v := (boo true)) rfl) ?_
                          refine WL.nil ?_
                          obtain rfl := Option.some.inj hy57
                          obtain rfl := hy58
                          obtain rfl := Option.some.inj h
                          refine WP.ret (Out.one rfl S rfl ?_)
                          exact rfl
                        · refine WP.condF rfl hc143 ?_
                          refine WP.skip ?_
                          refine WP.seq ?_
                          refine WP.region ?_
                          refine WL.valw (R.mv (v := v133) rfl) ?_
                          obtain ⟨r144, hr144, hy57⟩ := bindE hy57
                          refine W.call S rfl (cachecontrol_Response_ok S.holds l132 R137 hr144) ?_
                          rintro v145 w146 H147 hle148 S rfl
                          have R40 := Sl.mono R40 hle148
                          have R46 := Sl.mono R46 hle148
                          have hA104 := At.mono hA104 hle148 (by simp)
                          have R119 := Sl.mono R119 hle148
                          have R131 := Sl.mono R131 hle148
                          have R137 := Sl.mono R137 hle148
                          refine WL.valw (R.mv (v := u36) h73) ?_
                          obtain ⟨r149, hr149, hy57⟩ := bindE hy57
                          refine W.call S rfl (cachecontrol_Response_ok S.holds ([(⟨[67, 97, 99, 104, 101, 45, 67, 111, 110, 116, 114, 111, 108], p_ppend⟩ : GField)] : List GField) R40 hr149) ?_
                          rintro v150 w151 H152 hle153 S rfl
                          have R40 := Sl.mono R40 hle153
                          have R46 := Sl.mono R46 hle153
                          have hA104 := At.mono hA104 hle153 (by simp)
                          have R119 := Sl.mono R119 hle153
                          have R131 := Sl.mono R131 hle153
                          have R137 := Sl.mono R137 hle153
                          refine WL.valw (R.eqlA ((r144.fNoStore == r149.fNoStore) && ((r144.fNoCache == r149.fNoCache) && ((r144.fMustRevalidate == r149.fMustRevalidate) && ((r144.fProxyRevalidate == r149.fProxyRevalidate) && ((r144.fPrivate == r149.fPrivate) && ((r144.fPublic == r149.fPublic) && ((r144.fOnlyIfCached == r149.fOnlyIfCached) && ((r144.fMaxAge == r149.fMaxAge) && ((r144.fSMaxAge == r149.fSMaxAge) && ((r144.fMinFresh == r149.fMinFresh) && ((r144.fMaxStale == r149.fMaxStale) && true))))))))))) rfl rfl ps32 fk32 rfl rfl rfl) ?_
                          refine WL.valw (R.mv (v := (boo ((r144.fNoStore == r149.fNoStore) && ((r144.fNoCache == r149.fNoCache) && ((r144.fMustRevalidate == r149.fMustRevalidate) && ((r144.fProxyRevalidate == r149.fProxyRevalidate) && ((r144.fPrivate == r149.fPrivate) && ((r144.fPublic == r149.fPublic) && ((r144.fOnlyIfCached == r149.fOnlyIfCached) && ((r144.fMaxAge == r149.fMaxAge) && ((r144.fSMaxAge == r149.fSMaxAge) && ((r144.fMinFresh == r149.fMinFresh) && ((r144.fMaxStale == r149.fMaxStale) && true))))))))))))) rfl) ?_
                          obtain ⟨b161, hg155, hy57⟩ := bindE hy57
                          refine WL.grpw 2 [102] 103 (boo b161) (fun w => ∃ H' : Hp, H152.le H' ∧ St w0 H0 w H' [.row u127 26 2 ([(⟨[99, 97, 99, 104, 101, 45, 99, 111, 110, 116, 114, 111, 108], s126⟩ : GField)] : List GField).length, .row v133 26 2 l132.length, .row u36 26 2 ([(⟨[67, 97, 99, 104, 101, 45, 67, 111, 110, 116, 114, 111, 108], p_ppend⟩ : GField)] : List GField).length]) ?_ ?_
                          · rcases boolE ((r144.fNoStore == r149.fNoStore) && ((r144.fNoCache == r149.fNoCache) && ((r144.fMustRevalidate == r149.fMustRevalidate) && ((r144.fProxyRevalidate == r149.fProxyRevalidate) && ((r144.fPrivate == r149.fPrivate) && ((r144.fPublic == r149.fPublic) && ((r144.fOnlyIfCached == r149.fOnlyIfCached) && ((r144.fMaxAge == r149.fMaxAge) && ((r144.fSMaxAge == r149.fSMaxAge) && ((r144.fMinFresh == r149.fMinFresh) && ((r144.fMaxStale == r149.fMaxStale) && true))))))))))) with hb154 | hb154
                            · replace hg155 := condT hg155 hb154
                              refine WL.gyes rfl rfl hb154 ?_
                              obtain ⟨r156, hr156, hg155⟩ := bindE hg155
                              refine W.call S rfl (law22_awake_ok S.holds  hr156) ?_
                              rintro v157 w158 H159 hle160 S rfl
                              have R40 := Sl.mono R40 hle160
                              have R46 := Sl.mono R46 hle160
                              have hA104 := At.mono hA104 hle160 (by simp)
                              have R119 := Sl.mono R119 hle160
                              have R131 := Sl.mono R131 hle160
                              have R137 := Sl.mono R137 hle160
                              refine WL.valw (R.pickT rfl hb154 rfl) ?_
                              exact WL.nil ⟨(congrArg boo (Option.some.inj hg155)), (by repeat (first | refine agree_upd rfl ?_ | refine agree_upds' rfl ?_ | exact agree_refl)), ⟨H159, hle160, S⟩⟩
                            · replace hg155 := condF hg155 hb154
                              refine WL.gno rfl rfl hb154 ?_
                              refine WL.valw (R.pickF rfl hb154 rfl) ?_
                              exact WL.nil ⟨(congrArg boo (Option.some.inj hg155)), (by repeat (first | refine agree_upd rfl ?_ | refine agree_upds' rfl ?_ | exact agree_refl)), ⟨H152, (Hp.le.refl _), S⟩⟩
                          · intro us w163 ⟨H162, hle164, S⟩
                            have R40 := Sl.mono R40 hle164
                            have R46 := Sl.mono R46 hle164
                            have hA104 := At.mono hA104 hle164 (by simp)
                            have R119 := Sl.mono R119 hle164
                            have R131 := Sl.mono R131 hle164
                            have R137 := Sl.mono R137 hle164
                            refine WL.valw (R.as (v := (boo b161)) rfl) ?_
                            refine WL.nil ?_
                            obtain rfl := Option.some.inj hy57
                            obtain rfl := hy58
                            obtain rfl := Option.some.inj h
                            refine WP.ret (Out.one rfl S rfl ?_)
                            exact rfl
                      · refine WP.condF rfl hc113 ?_
                        refine WP.skip ?_
                        refine WP.region ?_
                        refine WL.valw (R.mv (v := (int y_52)) h75) ?_
                        refine WL.valw (R.add rfl rfl) ?_
                        refine WL.valw (R.as (v := (int (wr (y_52 + 1)))) rfl) ?_
                        refine WL.nil ?_
                        obtain rfl := Option.some.inj hy57
                        exact ⟨rfl, ⟨H109, h71, h72, h73, h74, rfl, R40, R46, S⟩⟩
                · refine WP.condF rfl hc61 ?_
                  refine WP.exit ?_
                  obtain rfl := Option.some.inj hy57
                  obtain rfl := hy58
                  exact ⟨H47, h50, R40, S⟩
            · intro f w hM
              rcases r59 with _ | e
              · obtain ⟨H54, h55, R40, S⟩ := hM
                refine WP.seq ?_
                refine WP.region ?_
                refine WL.valw (R.mv (v := u36) h55) ?_
                obtain ⟨r165, hr165, h⟩ := bindE h
                refine W.call S rfl (cachecontrol_Response_ok S.holds ([(⟨[67, 97, 99, 104, 101, 45, 67, 111, 110, 116, 114, 111, 108], p_ppend⟩ : GField)] : List GField) R40 hr165) ?_
                rintro v166 w167 H168 hle169 S rfl
                have R40 := Sl.mono R40 hle169
                refine WL.valw (R.mv (v := u36) h55) ?_
                obtain ⟨r170, hr170, h⟩ := bindE h
                refine W.call S rfl (ref19_ResponseControl_ok S.holds ([(⟨[67, 97, 99, 104, 101, 45, 67, 111, 110, 116, 114, 111, 108], p_ppend⟩ : GField)] : List GField) R40 hr170) ?_
                rintro v171 w172 H173 hle174 S rfl
                have R40 := Sl.mono R40 hle174
                refine WL.valw (R.eqlA ((r165.fNoStore == r170.fNoStore) && ((r165.fNoCache == r170.fNoCache) && ((r165.fMustRevalidate == r170.fMustRevalidate) && ((r165.fProxyRevalidate == r170.fProxyRevalidate) && ((r165.fPrivate == r170.fPrivate) && ((r165.fPublic == r170.fPublic) && ((r165.fOnlyIfCached == r170.fOnlyIfCached) && ((r165.fMaxAge == r170.fMaxAge) && ((r165.fSMaxAge == r170.fSMaxAge) && ((r165.fMinFresh == r170.fMinFresh) && ((r165.fMaxStale == r170.fMaxStale) && true))))))))))) rfl rfl ps32 fk32 rfl rfl rfl) ?_
                refine WL.valw (R.mv (v := (boo ((r165.fNoStore == r170.fNoStore) && ((r165.fNoCache == r170.fNoCache) && ((r165.fMustRevalidate == r170.fMustRevalidate) && ((r165.fProxyRevalidate == r170.fProxyRevalidate) && ((r165.fPrivate == r170.fPrivate) && ((r165.fPublic == r170.fPublic) && ((r165.fOnlyIfCached == r170.fOnlyIfCached) && ((r165.fMaxAge == r170.fMaxAge) && ((r165.fSMaxAge == r170.fSMaxAge) && ((r165.fMinFresh == r170.fMinFresh) && ((r165.fMaxStale == r170.fMaxStale) && true))))))))))))) rfl) ?_
                obtain ⟨b182, hg176, h⟩ := bindE h
                refine WL.grpw 2 [110] 111 (boo b182) (fun w => ∃ H' : Hp, H173.le H' ∧ St w0 H0 w H' [.row u36 26 2 ([(⟨[67, 97, 99, 104, 101, 45, 67, 111, 110, 116, 114, 111, 108], p_ppend⟩ : GField)] : List GField).length]) ?_ ?_
                · rcases boolE ((r165.fNoStore == r170.fNoStore) && ((r165.fNoCache == r170.fNoCache) && ((r165.fMustRevalidate == r170.fMustRevalidate) && ((r165.fProxyRevalidate == r170.fProxyRevalidate) && ((r165.fPrivate == r170.fPrivate) && ((r165.fPublic == r170.fPublic) && ((r165.fOnlyIfCached == r170.fOnlyIfCached) && ((r165.fMaxAge == r170.fMaxAge) && ((r165.fSMaxAge == r170.fSMaxAge) && ((r165.fMinFresh == r170.fMinFresh) && ((r165.fMaxStale == r170.fMaxStale) && true))))))))))) with hb175 | hb175
                  · replace hg176 := condT hg176 hb175
                    refine WL.gyes rfl rfl hb175 ?_
                    obtain ⟨r177, hr177, hg176⟩ := bindE hg176
                    refine W.call S rfl (law22_awake_ok S.holds  hr177) ?_
                    rintro v178 w179 H180 hle181 S rfl
                    have R40 := Sl.mono R40 hle181
                    refine WL.valw (R.pickT rfl hb175 rfl) ?_
                    exact WL.nil ⟨(congrArg boo (Option.some.inj hg176)), (by repeat (first | refine agree_upd rfl ?_ | refine agree_upds' rfl ?_ | exact agree_refl)), ⟨H180, hle181, S⟩⟩
                  · replace hg176 := condF hg176 hb175
                    refine WL.gno rfl rfl hb175 ?_
                    refine WL.valw (R.pickF rfl hb175 rfl) ?_
                    exact WL.nil ⟨(congrArg boo (Option.some.inj hg176)), (by repeat (first | refine agree_upd rfl ?_ | refine agree_upds' rfl ?_ | exact agree_refl)), ⟨H173, (Hp.le.refl _), S⟩⟩
                · intro us w184 ⟨H183, hle185, S⟩
                  have R40 := Sl.mono R40 hle185
                  refine WL.valw (R.as (v := (boo b182)) rfl) ?_
                  refine WL.nil ?_
                  obtain rfl := Option.some.inj h
                  refine WP.ret (Out.one rfl S rfl ?_)
                  exact rfl
              · exact hM.elim
set_option maxRecDepth 10000 in
set_option maxHeartbeats 4000000 in
theorem ref01_Decimal_ok {w0 : World} {H0 : Hp} (hw : Holds w0 H0) (p_n : Int) {r : Str} (h : ref01_Decimal p_n = some r) :
    Con Tryd.prog 23 [(int p_n)] w0 H0 (fun H' v => v = (str r)) := by
  refine Con.mk (N := 37) Tryd.func23 rfl rfl (by kernel_rfl) rfl ?_
  have S := St.start hw
  refine WP.seq ?_
  refine WP.region ?_
  refine WL.valw (R.as (v := (str [])) rfl) ?_
  refine WL.nil ?_
  refine WP.seq ?_
  refine WP.region ?_
  refine WL.valw (R.as (v := (.slice none 0 0)) rfl) ?_
  refine WL.nil ?_
  refine WP.seq ?_
  refine WP.region ?_
  refine WL.valw (R.mv (v := (int p_n)) rfl) ?_
  refine WL.valw (R.lss rfl rfl) ?_
  refine WL.valw (R.as (v := (boo (decide (p_n < 0)))) rfl) ?_
  refine WL.nil ?_
  refine WP.seq ?_
  refine WP.seq ?_
  refine WP.region ?_
  refine WL.valw (R.as (v := (int 0)) rfl) ?_
  refine WL.nil ?_
  obtain ⟨b_12, hr21, h⟩ := bindE h
  refine WP.cut (fun f w => ∃ (H11 : Hp) (v13 : Value), f 3 = v13 ∧ f 4 = (boo (decide (p_n < 0))) ∧ Sl (α := UInt8) H11 v13 b_12 ∧ St w0 H0 w H11 []) ?_ ?_
  · refine WP.block ?_
    refine WP.loopM (ref01_Decimal_L0) (fun s f w => match s with | (n_2, b_4, k_9) => ∃ (H1 : Hp) (v5 : Value), f 0 = (int n_2) ∧ f 3 = v5 ∧ f 4 = (boo (decide (p_n < 0))) ∧ f 5 = (int k_9) ∧ Sl (α := UInt8) H1 v5 b_4 ∧ St w0 H0 w H1 []) (p_n, ([] : List UInt8), 0) b_12 hr21 ?_ ?_
    · exact ⟨H0, .slice none 0 0, rfl, rfl, rfl, rfl, Sl.nil, S⟩
    · intro s f w hI y17 hy18 hy19
      obtain ⟨n_2, b_4, k_9⟩ := s
      obtain ⟨H1, v5, h3, h7, h8, h10, R6, S⟩ := hI
      refine WP.seq ?_
      refine WP.seq ?_
      refine WP.region ?_
      refine WL.valw (R.mv (v := (int n_2)) h3) ?_
      refine WL.valw (R.neq rfl rfl) ?_
      refine WL.valw (R.mv (v := (boo (n_2 != 0))) rfl) ?_
      refine WL.grp 3 [12, 13] 14 (boo ((n_2 != 0) || (k_9 == 0))) ?_ ?_
      · rcases boolE (n_2 != 0) with hb22 | hb22
        · refine WL.gno rfl rfl hb22 ?_
          refine WL.gno rfl rfl hb22 ?_
          refine WL.valw (R.pickT rfl hb22 rfl) ?_
          exact WL.nil ⟨(orT hb22), (by repeat (first | refine agree_upd rfl ?_ | refine agree_upds' rfl ?_ | exact agree_refl)), rfl⟩
        · refine WL.gyes rfl rfl hb22 ?_
          refine WL.valw (R.mv (v := (int k_9)) h10) ?_
          refine WL.gyes rfl rfl hb22 ?_
          refine WL.valw (R.eql rfl rfl) ?_
          refine WL.valw (R.pickF rfl hb22 rfl) ?_
          exact WL.nil ⟨(orF hb22), (by repeat (first | refine agree_upd rfl ?_ | refine agree_upds' rfl ?_ | exact agree_refl)), rfl⟩
      · intro us
        refine WL.nil ?_
        rcases condE hy18 with ⟨hc24, hy18⟩ | ⟨hc24, hy18⟩
        · refine WP.condT rfl hc24 ?_
          refine WP.skip ?_
          refine WP.seq ?_
          refine WP.block ?_
          refine WP.seq ?_
          refine WP.region ?_
          refine WL.valw (R.mv (v := (int n_2)) h3) ?_
          obtain ⟨n25, hn25, hy18⟩ := bindE hy18
          refine WL.valw (R.rem' rfl rfl hn25) ?_
          refine WL.valw (R.as (v := (int n25)) rfl) ?_
          refine WL.nil ?_
          refine WP.seq ?_
          refine WP.seq ?_
          refine WP.region ?_
          refine WL.valw (R.mv (v := (int n25)) rfl) ?_
          refine WL.valw (R.lss rfl rfl) ?_
          refine WL.nil ?_
          obtain ⟨d_31, hj33, hy18⟩ := bindE hy18
          refine WP.cut (fun f w => ∃ (H26 : Hp), f 0 = (int n_2) ∧ f 3 = v5 ∧ f 4 = (boo (decide (p_n < 0))) ∧ f 5 = (int k_9) ∧ f 6 = (int d_31) ∧ Sl (α := UInt8) H26 v5 b_4 ∧ St w0 H0 w H26 []) ?_ ?_
          · rcases condE hj33 with ⟨hc35, hj33⟩ | ⟨hc35, hj33⟩
            · refine WP.condT rfl hc35 ?_
              refine WP.region ?_
              refine WL.valw (R.mv (v := (int n25)) rfl) ?_
              refine WL.valw (R.neg rfl) ?_
              refine WL.valw (R.as (v := (int (wr (-n25)))) rfl) ?_
              refine WL.nil ?_
              obtain rfl := Option.some.inj hj33
              exact ⟨H1, h3, h7, h8, h10, rfl, R6, S⟩
            · refine WP.condF rfl hc35 ?_
              refine WP.skip ?_
              obtain rfl := Option.some.inj hj33
              exact ⟨H1, h3, h7, h8, h10, rfl, R6, S⟩
          · rintro f w ⟨H26, h27, h28, h29, h30, h32, R6, S⟩
            refine WP.seq ?_
            refine WP.region ?_
            refine WL.valw (R.mv (v := (int d_31)) h32) ?_
            refine WL.valw (R.add rfl rfl) ?_
            refine WL.valw (R.u8of64 rfl Tryd.underlying3 Tryd.underlying5) ?_
            refine W.bslice (α := UInt8) [(byt (toU8 (wr (48 + d_31))))] ([toU8 (wr (48 + d_31))] : List UInt8) S el51 rfl rfl rfl (by decide) (encS ⟨rfl, rfl⟩ enc0) ?_
            intro u36 w37 H38 hle39 R40 S
            have R6 := Sl.mono R6 hle39
            refine WL.valw (R.mv (v := v5) h28) ?_
            obtain ⟨l41, hl41, hy18⟩ := bindE hy18
            refine W.app (α := UInt8) (i := 0) S el51 rfl rfl rfl R40 R6 hl41 ?_
            intro v42 w43 H44 hle45 R46 S
            have R6 := Sl.mono R6 hle45
            have R40 := Sl.mono R40 hle45
            refine WL.valw (R.as (v := v42) rfl) ?_
            refine WL.nil ?_
            refine WP.region ?_
            refine WL.valw (R.mv (v := (int n_2)) h27) ?_
            obtain ⟨n47, hn47, hy18⟩ := bindE hy18
            refine WL.valw (R.quo' rfl rfl hn47) ?_
            refine WL.valw (R.as (v := (int n47)) rfl) ?_
            refine WL.nil ?_
            refine WP.region ?_
            refine WL.valw (R.mv (v := (int k_9)) h30) ?_
            refine WL.valw (R.add rfl rfl) ?_
            refine WL.valw (R.as (v := (int (wr (k_9 + 1)))) rfl) ?_
            refine WL.nil ?_
            obtain rfl := Option.some.inj hy18
            exact ⟨rfl, ⟨H44, v42, rfl, rfl, h29, rfl, R46, (S.drop _ (.cons _ .slnil))⟩⟩
        · refine WP.condF rfl hc24 ?_
          refine WP.exit ?_
          obtain rfl := Option.some.inj hy18
          obtain rfl := hy19
          exact ⟨H1, v5, h7, h8, R6, S⟩
  · rintro f w ⟨H11, v13, h15, h16, R14, S⟩
    refine WP.seq ?_
    refine WP.seq ?_
    refine WP.region ?_
    refine WL.valw (R.mv (v := (boo (decide (p_n < 0)))) h16) ?_
    refine WL.nil ?_
    rcases condE h with ⟨hc48, h⟩ | ⟨hc48, h⟩
    · refine WP.condT rfl hc48 ?_
      refine WP.seq ?_
      refine WP.region ?_
      refine WL.valw (R.mv (v := v13) h15) ?_
      refine WL.valw (R.strL S R14 rfl Tryd.underlying51 Tryd.underlying9 Tryd.underlying5) ?_
      obtain ⟨s49, hs49, h⟩ := bindE h
      refine WL.valw (R.cat (a := [45]) (b := b_12) rfl rfl hs49) ?_
      refine WL.valw (R.as (v := (str s49)) rfl) ?_
      refine WL.nil ?_
      obtain rfl := Option.some.inj h
      refine WP.ret (Out.one rfl S rfl ?_)
      exact rfl
    · refine WP.condF rfl hc48 ?_
      refine WP.skip ?_
      refine WP.seq ?_
      refine WP.region ?_
      refine WL.valw (R.mv (v := v13) h15) ?_
      refine WL.valw (R.strL S R14 rfl Tryd.underlying51 Tryd.underlying9 Tryd.underlying5) ?_
      refine WL.valw (R.as (v := (str b_12)) rfl) ?_
      refine WL.nil ?_
      obtain rfl := Option.some.inj h
      refine WP.ret (Out.one rfl S rfl ?_)
      exact rfl
set_option maxRecDepth 10000 in
set_option maxHeartbeats 4000000 in
theorem law22_CachecontrolForms_ok {w0 : World} {H0 : Hp} (hw : Holds w0 H0) (p_ppend : Int) (p_x1 : Int) {r : Bool} (h : law22_CachecontrolForms p_ppend p_x1 = some r) :
    Con Tryd.prog 4 [(int p_ppend), (int p_x1)] w0 H0 (fun H' v => v = (boo r)) := by
  refine Con.mk (N := 72) Tryd.func4 rfl rfl (by kernel_rfl) rfl ?_
  have S := St.start hw
  refine WP.seq ?_
  refine WP.region ?_
  refine WL.valw (R.as (v := (boo false)) rfl) ?_
  refine WL.nil ?_
  refine WP.seq ?_
  refine WP.seq ?_
  refine WP.region ?_
  refine WL.valw (R.mv (v := (int p_ppend)) rfl) ?_
  refine WL.valw (R.lss rfl rfl) ?_
  refine WL.valw (R.mv (v := (boo (decide (p_ppend < 0)))) rfl) ?_
  refine WL.grp 3 [12, 13] 14 (boo ((decide (p_ppend < 0)) || (decide (p_x1 < 0)))) ?_ ?_
  · rcases boolE (decide (p_ppend < 0)) with hb1 | hb1
    · refine WL.gno rfl rfl hb1 ?_
      refine WL.gno rfl rfl hb1 ?_
      refine WL.valw (R.pickT rfl hb1 rfl) ?_
      exact WL.nil ⟨(orT hb1), (by repeat (first | refine agree_upd rfl ?_ | refine agree_upds' rfl ?_ | exact agree_refl)), rfl⟩
    · refine WL.gyes rfl rfl hb1 ?_
      refine WL.valw (R.mv (v := (int p_x1)) rfl) ?_
      refine WL.gyes rfl rfl hb1 ?_
      refine WL.valw (R.lss rfl rfl) ?_
      refine WL.valw (R.pickF rfl hb1 rfl) ?_
      exact WL.nil ⟨(orF hb1), (by repeat (first | refine agree_upd rfl ?_ | refine agree_upds' rfl ?_ | exact agree_refl)), rfl⟩
  · intro us
    refine WL.valw (R.mv (v := (boo ((decide (p_ppend < 0)) || (decide (p_x1 < 0))))) rfl) ?_
    refine WL.grp 3 [16, 17] 18 (boo (((decide (p_ppend < 0)) || (decide (p_x1 < 0))) || (decide (30 < p_x1)))) ?_ ?_
    · rcases boolE ((decide (p_ppend < 0)) || (decide (p_x1 < 0))) with hb3 | hb3
      · refine WL.gno rfl rfl hb3 ?_
        refine WL.gno rfl rfl hb3 ?_
        refine WL.valw (R.pickT rfl hb3 rfl) ?_
        exact WL.nil ⟨(orT hb3), (by repeat (first | refine agree_upd rfl ?_ | refine agree_upds' rfl ?_ | exact agree_refl)), rfl⟩
      · refine WL.gyes rfl rfl hb3 ?_
        refine WL.valw (R.mv (v := (int p_x1)) rfl) ?_
        refine WL.gyes rfl rfl hb3 ?_
        refine WL.valw (R.gtr rfl rfl) ?_
        refine WL.valw (R.pickF rfl hb3 rfl) ?_
        exact WL.nil ⟨(orF hb3), (by repeat (first | refine agree_upd rfl ?_ | refine agree_upds' rfl ?_ | exact agree_refl)), rfl⟩
    · intro us
      refine WL.nil ?_
      rcases condE h with ⟨hc5, h⟩ | ⟨hc5, h⟩
      · refine WP.condT rfl hc5 ?_
        refine WP.seq ?_
        refine WP.region ?_
        refine WL.valw (R.as (v := (boo true)) rfl) ?_
        refine WL.nil ?_
        obtain rfl := Option.some.inj h
        refine WP.ret (Out.one rfl S rfl ?_)
        exact rfl
      · refine WP.condF rfl hc5 ?_
        refine WP.skip ?_
        refine WP.seq ?_
        refine WP.region ?_
        refine WL.valw (R.as (v := (str [])) rfl) ?_
        refine WL.nil ?_
        refine WP.seq ?_
        refine WP.seq ?_
        refine WP.region ?_
        refine WL.valw (R.as (v := (int 0)) rfl) ?_
        refine WL.nil ?_
        obtain ⟨y_15, hr21, h⟩ := bindE h
        refine WP.cut (fun f w => ∃ (H13 : Hp), f 0 = (int p_ppend) ∧ f 5 = (str y_15) ∧ St w0 H0 w H13 []) ?_ ?_
        · refine WP.block ?_
          refine WP.loopM (law22_CachecontrolForms_L0 p_x1) (fun s f w => match s with | (y_9, y_11) => ∃ (H6 : Hp), f 0 = (int p_ppend) ∧ f 1 = (int p_x1) ∧ f 5 = (str y_9) ∧ f 6 = (int y_11) ∧ St w0 H0 w H6 []) ([], 0) y_15 hr21 ?_ ?_
          · exact ⟨H0, rfl, rfl, rfl, rfl, S⟩
          · intro s f w hI y17 hy18 hy19
            obtain ⟨y_9, y_11⟩ := s
            obtain ⟨H6, h7, h8, h10, h12, S⟩ := hI
            refine WP.seq ?_
            refine WP.seq ?_
            refine WP.region ?_
            refine WL.valw (R.mv (v := (int y_11)) h12) ?_
            refine WL.valw (R.mv (v := (int p_x1)) h8) ?_
            refine WL.valw (R.lss rfl rfl) ?_
            refine WL.nil ?_
            rcases condE hy18 with ⟨hc22, hy18⟩ | ⟨hc22, hy18⟩
            · refine WP.condT rfl hc22 ?_
              refine WP.skip ?_
              refine WP.seq ?_
              refine WP.block ?_
              refine WP.region ?_
              refine WL.valw (R.mv (v := (str y_9)) h10) ?_
              obtain ⟨s23, hs23, hy18⟩ := bindE hy18
              refine WL.valw (R.cat (a := y_9) (b := [48]) rfl rfl hs23) ?_
              refine WL.valw (R.as (v := (str s23)) rfl) ?_
              refine WL.nil ?_
              refine WP.region ?_
              refine WL.valw (R.mv (v := (int y_11)) h12) ?_
              refine WL.valw (R.add rfl rfl) ?_
              refine WL.valw (R.as (v := (int (wr (y_11 + 1)))) rfl) ?_
              refine WL.nil ?_
              obtain rfl := Option.some.inj hy18
              exact ⟨rfl, ⟨H6, h7, h8, rfl, rfl, S⟩⟩
            · refine WP.condF rfl hc22 ?_
              refine WP.exit ?_
              obtain rfl := Option.some.inj hy18
              obtain rfl := hy19
              exact ⟨H6, h7, h10, S⟩
        · rintro f w ⟨H13, h14, h16, S⟩
          refine WP.seq ?_
          refine WP.region ?_
          refine WL.valw (R.mv (v := (str y_15)) h16) ?_
          refine WL.valw (R.mv (v := (int p_ppend)) h14) ?_
          obtain ⟨r24, hr24, h⟩ := bindE h
          refine W.call S rfl (ref01_Decimal_ok S.holds p_ppend hr24) ?_
          rintro v25 w26 H27 hle28 S rfl
          obtain ⟨s29, hs29, h⟩ := bindE h
          refine WL.valw (R.cat (a := y_15) (b := r24) rfl rfl hs29) ?_
          refine WL.valw (R.as (v := (str s29)) rfl) ?_
          refine WL.nil ?_
          refine WP.seq ?_
          refine WP.region ?_
          refine WL.valw (R.mv (v := (str s29)) rfl) ?_
          obtain ⟨s30, hs30, h⟩ := bindE h
          refine WL.valw (R.cat (a := [77, 65, 88, 45, 65, 71, 69, 61]) (b := s29) rfl rfl hs30) ?_
          obtain ⟨s31, hs31, h⟩ := bindE h
          refine WL.valw (R.cat (a := s30) (b := [44, 32, 115, 45, 109, 97, 120, 97, 103, 101, 61, 34]) rfl rfl hs31) ?_
          refine WL.valw (R.mv (v := (str s29)) rfl) ?_
          obtain ⟨s32, hs32, h⟩ := bindE h
          refine WL.valw (R.cat (a := s31) (b := s29) rfl rfl hs32) ?_
          obtain ⟨s33, hs33, h⟩ := bindE h
          refine WL.valw (R.cat (a := s32) (b := [34, 44, 32, 109, 105, 110, 45, 102, 114, 101, 115, 104, 61]) rfl rfl hs33) ?_
          refine WL.valw (R.mv (v := (str s29)) rfl) ?_
          obtain ⟨s34, hs34, h⟩ := bindE h
          refine WL.valw (R.cat (a := s33) (b := s29) rfl rfl hs34) ?_
          obtain ⟨s35, hs35, h⟩ := bindE h
          refine WL.valw (R.cat (a := s34) (b := [44, 32, 109, 97, 120, 45, 115, 116, 97, 108, 101, 61, 34]) rfl rfl hs35) ?_
          refine WL.valw (R.mv (v := (str s29)) rfl) ?_
          obtain ⟨s36, hs36, h⟩ := bindE h
          refine WL.valw (R.cat (a := s35) (b := s29) rfl rfl hs36) ?_
          obtain ⟨s37, hs37, h⟩ := bindE h
          refine WL.valw (R.cat (a := s36) (b := [34]) rfl rfl hs37) ?_
          refine WL.valw (R.build [(0, (str [67, 97, 99, 104, 101, 45, 67, 111, 110, 116, 114, 111, 108])), (1, (str s37))] [(str [67, 97, 99, 104, 101, 45, 67, 111, 110, 116, 114, 111, 108]), (str s37)] bp26 zer26 rfl rfl) ?_
          refine W.bslice (α := GField) [(agg [(str [67, 97, 99, 104, 101, 45, 67, 111, 110, 116, 114, 111, 108]), (str s37)])] ([(⟨[67, 97, 99, 104, 101, 45, 67, 111, 110, 116, 114, 111, 108], s37⟩ : GField)] : List GField) S el27 rfl rfl rfl (by decide) (encS ⟨rfl, rfl⟩ enc0) ?_
          intro u38 w39 H40 hle41 R42 S
          obtain ⟨r43, hr43, h⟩ := bindE h
          refine W.call S rfl (cachecontrol_Response_ok S.holds ([(⟨[67, 97, 99, 104, 101, 45, 67, 111, 110, 116, 114, 111, 108], s37⟩ : GField)] : List GField) R42 hr43) ?_
          rintro v44 w45 H46 hle47 S rfl
          have R42 := Sl.mono R42 hle47
          refine W.alloc [(boo false), (boo false), (boo false), (boo false), (boo false), (boo false), (boo false), (int 0), (int 0), (int 0), (int 0)] S zer32 ?_
          intro b48 w49 S
          refine W.store (i := 0) [(boo r43.fNoStore), (boo r43.fNoCache), (boo r43.fMustRevalidate), (boo r43.fProxyRevalidate), (boo r43.fPrivate), (boo r43.fPublic), (boo r43.fOnlyIfCached), (int r43.fMaxAge), (int r43.fSMaxAge), (int r43.fMinFresh), (int r43.fMaxStale)] S rfl rfl rfl lay32 rfl rfl (Nat.le_of_ble_eq_true rfl) rfl ?_
          intro w50 S
          refine WL.nil ?_
          refine WP.seq ?_
          refine WP.region ?_
          refine WL.valw (R.mv (v := (int p_ppend)) h14) ?_
          refine WL.valw (R.min rfl rfl) ?_
          refine WL.valw (R.as (v := (int (if 2147483647 < p_ppend then 2147483647 else p_ppend))) rfl) ?_
          refine WL.nil ?_
          refine WP.seq ?_
          refine WP.region ?_
          refine WL.valw (R.fieldB rfl fld32_7) ?_
          refine WL.valw (R.loadB (i := 0) (v := (int r43.fMaxAge)) S rfl rfl lay3 rfl) ?_
          refine WL.valw (R.mv (v := (int (if 2147483647 < p_ppend then 2147483647 else p_ppend))) rfl) ?_
          refine WL.valw (R.eql rfl rfl) ?_
          refine WL.valw (R.mv (v := (boo (r43.fMaxAge == (if 2147483647 < p_ppend then 2147483647 else p_ppend)))) rfl) ?_
          refine WL.grp 5 [52, 53, 54, 55] 56 (boo ((r43.fMaxAge == (if 2147483647 < p_ppend then 2147483647 else p_ppend)) && (r43.fSMaxAge == (if 2147483647 < p_ppend then 2147483647 else p_ppend)))) ?_ ?_
          · rcases boolE (r43.fMaxAge == (if 2147483647 < p_ppend then 2147483647 else p_ppend)) with hb51 | hb51
            · refine WL.gyes rfl rfl hb51 ?_
              refine WL.valw (R.fieldB rfl fld32_8) ?_
              refine WL.gyes rfl rfl hb51 ?_
              refine WL.valw (R.loadB (i := 0) (v := (int r43.fSMaxAge)) S rfl rfl lay3 rfl) ?_
              refine WL.gyes rfl rfl hb51 ?_
              refine WL.valw (R.mv (v := (int (if 2147483647 < p_ppend then 2147483647 else p_ppend))) rfl) ?_
              refine WL.gyes rfl rfl hb51 ?_
              refine WL.valw (R.eql rfl rfl) ?_
              refine WL.valw (R.pickT rfl hb51 rfl) ?_
              exact WL.nil ⟨(andT hb51), (by repeat (first | refine agree_upd rfl ?_ | refine agree_upds' rfl ?_ | exact agree_refl)), rfl⟩
            · refine WL.gno rfl rfl hb51 ?_
              refine WL.gno rfl rfl hb51 ?_
              refine WL.gno rfl rfl hb51 ?_
              refine WL.gno rfl rfl hb51 ?_
              refine WL.valw (R.pickF rfl hb51 rfl) ?_
              exact WL.nil ⟨(andF hb51), (by repeat (first | refine agree_upd rfl ?_ | refine agree_upds' rfl ?_ | exact agree_refl)), rfl⟩
          · intro us
            refine WL.valw (R.mv (v := (boo ((r43.fMaxAge == (if 2147483647 < p_ppend then 2147483647 else p_ppend)) && (r43.fSMaxAge == (if 2147483647 < p_ppend then 2147483647 else p_ppend))))) rfl) ?_
            refine WL.grp 5 [58, 59, 60, 61] 62 (boo (((r43.fMaxAge == (if 2147483647 < p_ppend then 2147483647 else p_ppend)) && (r43.fSMaxAge == (if 2147483647 < p_ppend then 2147483647 else p_ppend))) && (r43.fMinFresh == (if 2147483647 < p_ppend then 2147483647 else p_ppend)))) ?_ ?_
            · rcases boolE ((r43.fMaxAge == (if 2147483647 < p_ppend then 2147483647 else p_ppend)) && (r43.fSMaxAge == (if 2147483647 < p_ppend then 2147483647 else p_ppend))) with hb53 | hb53
              · refine WL.gyes rfl rfl hb53 ?_
                refine WL.valw (R.fieldB rfl fld32_9) ?_
                refine WL.gyes rfl rfl hb53 ?_
                refine WL.valw (R.loadB (i := 0) (v := (int r43.fMinFresh)) S rfl rfl lay3 rfl) ?_
                refine WL.gyes rfl rfl hb53 ?_
                refine WL.valw (R.mv (v := (int (if 2147483647 < p_ppend then 2147483647 else p_ppend))) rfl) ?_
                refine WL.gyes rfl rfl hb53 ?_
                refine WL.valw (R.eql rfl rfl) ?_
                refine WL.valw (R.pickT rfl hb53 rfl) ?_
                exact WL.nil ⟨(andT hb53), (by repeat (first | refine agree_upd rfl ?_ | refine agree_upds' rfl ?_ | exact agree_refl)), rfl⟩
              · refine WL.gno rfl rfl hb53 ?_
                refine WL.gno rfl rfl hb53 ?_
                refine WL.gno rfl rfl hb53 ?_
                refine WL.gno rfl rfl hb53 ?_
                refine WL.valw (R.pickF rfl hb53 rfl) ?_
                exact WL.nil ⟨(andF hb53), (by repeat (first | refine agree_upd rfl ?_ | refine agree_upds' rfl ?_ | exact agree_refl)), rfl⟩
            · intro us
              refine WL.valw (R.mv (v := (boo (((r43.fMaxAge == (if 2147483647 < p_ppend then 2147483647 else p_ppend)) && (r43.fSMaxAge == (if 2147483647 < p_ppend then 2147483647 else p_ppend))) && (r43.fMinFresh == (if 2147483647 < p_ppend then 2147483647 else p_ppend))))) rfl) ?_
              refine WL.grp 5 [64, 65, 66, 67] 68 (boo ((((r43.fMaxAge == (if 2147483647 < p_ppend then 2147483647 else p_ppend)) && (r43.fSMaxAge == (if 2147483647 < p_ppend then 2147483647 else p_ppend))) && (r43.fMinFresh == (if 2147483647 < p_ppend then 2147483647 else p_ppend))) && (r43.fMaxStale == (if 2147483647 < p_ppend then 2147483647 else p_ppend)))) ?_ ?_
              · rcases boolE (((r43.fMaxAge == (if 2147483647 < p_ppend then 2147483647 else p_ppend)) && (r43.fSMaxAge == (if 2147483647 < p_ppend then 2147483647 else p_ppend))) && (r43.fMinFresh == (if 2147483647 < p_ppend then 2147483647 else p_ppend))) with hb55 | hb55
                · refine WL.gyes rfl rfl hb55 ?_
                  refine WL.valw (R.fieldB rfl fld32_10) ?_
                  refine WL.gyes rfl rfl hb55 ?_
                  refine WL.valw (R.loadB (i := 0) (v := (int r43.fMaxStale)) S rfl rfl lay3 rfl) ?_
                  refine WL.gyes rfl rfl hb55 ?_
                  refine WL.valw (R.mv (v := (int (if 2147483647 < p_ppend then 2147483647 else p_ppend))) rfl) ?_
                  refine WL.gyes rfl rfl hb55 ?_
                  refine WL.valw (R.eql rfl rfl) ?_
                  refine WL.valw (R.pickT rfl hb55 rfl) ?_
                  exact WL.nil ⟨(andT hb55), (by repeat (first | refine agree_upd rfl ?_ | refine agree_upds' rfl ?_ | exact agree_refl)), rfl⟩
                · refine WL.gno rfl rfl hb55 ?_
                  refine WL.gno rfl rfl hb55 ?_
                  refine WL.gno rfl rfl hb55 ?_
                  refine WL.gno rfl rfl hb55 ?_
                  refine WL.valw (R.pickF rfl hb55 rfl) ?_
                  exact WL.nil ⟨(andF hb55), (by repeat (first | refine agree_upd rfl ?_ | refine agree_upds' rfl ?_ | exact agree_refl)), rfl⟩
              · intro us
                refine WL.valw (R.mv (v := (boo ((((r43.fMaxAge == (if 2147483647 < p_ppend then 2147483647 else p_ppend)) && (r43.fSMaxAge == (if 2147483647 < p_ppend then 2147483647 else p_ppend))) && (r43.fMinFresh == (if 2147483647 < p_ppend then 2147483647 else p_ppend))) && (r43.fMaxStale == (if 2147483647 < p_ppend then 2147483647 else p_ppend))))) rfl) ?_
                obtain ⟨b64, hg58, h⟩ := bindE h
                refine WL.grpw 2 [70] 71 (boo b64) (fun w => ∃ H' : Hp, H46.le H' ∧ St w0 H0 w H' [.box b48 32 [(boo r43.fNoStore), (boo r43.fNoCache), (boo r43.fMustRevalidate), (boo r43.fProxyRevalidate), (boo r43.fPrivate), (boo r43.fPublic), (boo r43.fOnlyIfCached), (int r43.fMaxAge), (int r43.fSMaxAge), (int r43.fMinFresh), (int r43.fMaxStale)], .row u38 26 2 ([(⟨[67, 97, 99, 104, 101, 45, 67, 111, 110, 116, 114, 111, 108], s37⟩ : GField)] : List GField).length]) ?_ ?_
                · rcases boolE ((((r43.fMaxAge == (if 2147483647 < p_ppend then 2147483647 else p_ppend)) && (r43.fSMaxAge == (if 2147483647 < p_ppend then 2147483647 else p_ppend))) && (r43.fMinFresh == (if 2147483647 < p_ppend then 2147483647 else p_ppend))) && (r43.fMaxStale == (if 2147483647 < p_ppend then 2147483647 else p_ppend))) with hb57 | hb57
                  · replace hg58 := condT hg58 hb57
                    refine WL.gyes rfl rfl hb57 ?_
                    obtain ⟨r59, hr59, hg58⟩ := bindE hg58
                    refine W.call S rfl (law22_awake_ok S.holds  hr59) ?_
                    rintro v60 w61 H62 hle63 S rfl
                    have R42 := Sl.mono R42 hle63
                    refine WL.valw (R.pickT rfl hb57 rfl) ?_
                    exact WL.nil ⟨(congrArg boo (Option.some.inj hg58)), (by repeat (first | refine agree_upd rfl ?_ | refine agree_upds' rfl ?_ | exact agree_refl)), ⟨H62, hle63, S⟩⟩
                  · replace hg58 := condF hg58 hb57
                    refine WL.gno rfl rfl hb57 ?_
                    refine WL.valw (R.pickF rfl hb57 rfl) ?_
                    exact WL.nil ⟨(congrArg boo (Option.some.inj hg58)), (by repeat (first | refine agree_upd rfl ?_ | refine agree_upds' rfl ?_ | exact agree_refl)), ⟨H46, (Hp.le.refl _), S⟩⟩
                · intro us w66 ⟨H65, hle67, S⟩
                  have R42 := Sl.mono R42 hle67
                  refine WL.valw (R.as (v := (boo b64)) rfl) ?_
                  refine WL.nil ?_
                  obtain rfl := Option.some.inj h
                  refine WP.ret (Out.one rfl S rfl ?_)
                  exact rfl
set_option maxRecDepth 10000 in
set_option maxHeartbeats 4000000 in
theorem keep_Fields_ok {w0 : World} {H0 : Hp} (hw : Holds w0 H0) (p_l : (List GField)) {vp_l : Value} (Rp_l : Sl (α := GField) H0 vp_l p_l) {r : Bool} (h : keep_Fields p_l = some r) :
    Con Tryd.prog 24 [vp_l] w0 H0 (fun H' v => v = (boo r)) := by
  refine Con.mk (N := 33) Tryd.func24 rfl rfl (by kernel_rfl) rfl ?_
  have S := St.start hw
  refine WP.seq ?_
  refine WP.region ?_
  refine WL.valw (R.as (v := (boo false)) rfl) ?_
  refine WL.nil ?_
  refine WP.seq ?_
  refine WP.seq ?_
  refine WP.region ?_
  refine WL.valw (R.as (v := (int 0)) rfl) ?_
  refine WL.nil ?_
  obtain ⟨r10, hr11, h⟩ := bindE h
  refine WP.cut (fun f w => match r10 with | .inl _ => ∃ (H5 : Hp), f 0 = vp_l ∧ Sl (α := GField) H5 vp_l p_l ∧ St w0 H0 w H5 [] | .inr _ => False) ?_ ?_
  · refine WP.block ?_
    refine WP.loopM (keep_Fields_L0 p_l) (fun s f w => match s with | i_3 => ∃ (H1 : Hp), f 0 = vp_l ∧ f 3 = (int i_3) ∧ Sl (α := GField) H1 vp_l p_l ∧ St w0 H0 w H1 []) 0 r10 hr11 ?_ ?_
    · exact ⟨H0, rfl, rfl, Rp_l, S⟩
    · intro i_3 f w hI y7 hy8 hy9
      obtain ⟨H1, h2, h4, Rp_l, S⟩ := hI
      refine WP.seq ?_
      refine WP.seq ?_
      refine WP.region ?_
      refine WL.valw (R.mv (v := (int i_3)) h4) ?_
      refine WL.valw (R.mv (v := vp_l) h2) ?_
      refine WL.valw (R.lenL (α := GField) (xs := p_l) (H := H1) Rp_l rfl Tryd.underlying27) ?_
      refine WL.valw (R.lss rfl rfl) ?_
      refine WL.valw (R.mv (v := (boo (decide (i_3 < (p_l.length : Int))))) rfl) ?_
      refine WL.grp 3 [9, 10] 11 (boo ((decide (i_3 < (p_l.length : Int))) && (decide (i_3 < 71)))) ?_ ?_
      · rcases boolE (decide (i_3 < (p_l.length : Int))) with hb12 | hb12
        · refine WL.gyes rfl rfl hb12 ?_
          refine WL.valw (R.mv (v := (int i_3)) h4) ?_
          refine WL.gyes rfl rfl hb12 ?_
          refine WL.valw (R.lss rfl rfl) ?_
          refine WL.valw (R.pickT rfl hb12 rfl) ?_
          exact WL.nil ⟨(andT hb12), (by repeat (first | refine agree_upd rfl ?_ | refine agree_upds' rfl ?_ | exact agree_refl)), rfl⟩
        · refine WL.gno rfl rfl hb12 ?_
          refine WL.gno rfl rfl hb12 ?_
          refine WL.valw (R.pickF rfl hb12 rfl) ?_
          exact WL.nil ⟨(andF hb12), (by repeat (first | refine agree_upd rfl ?_ | refine agree_upds' rfl ?_ | exact agree_refl)), rfl⟩
      · intro us
        refine WL.nil ?_
        rcases condE hy8 with ⟨hc14, hy8⟩ | ⟨hc14, hy8⟩
        · refine WP.condT rfl hc14 ?_
          refine WP.skip ?_
          refine WP.seq ?_
          refine WP.block ?_
          refine WP.seq ?_
          refine WP.region ?_
          refine WL.valw (R.mv (v := vp_l) h2) ?_
          refine WL.valw (R.mv (v := (int i_3)) h4) ?_
          obtain ⟨x15, hx15, hy8⟩ := bindE hy8
          refine W.idx (α := GField) Rp_l rfl rfl el27 hx15 ?_
          rintro a16 _ hA17 rfl
          refine WL.valw (R.field rfl fld26_0) ?_
          have hA18 := At.add hA17 0 (by simp)
          refine WL.valw (R.loadH (v := (str x15.fName)) S rfl hA18 lay9 rfl) ?_
          refine WL.valw (R.lenS (a := x15.fName) rfl Tryd.underlying9) ?_
          refine WL.valw (R.gtr rfl rfl) ?_
          refine WL.valw (R.mv (v := (boo (decide (300 < (x15.fName.length : Int))))) rfl) ?_
          obtain ⟨b25, hg20, hy8⟩ := bindE hy8
          refine WL.grp 8 [22, 23, 24, 25, 26, 27, 28] 29 (boo b25) ?_ ?_
          · rcases boolE (decide (300 < (x15.fName.length : Int))) with hb19 | hb19
            · replace hg20 := condT hg20 hb19
              refine WL.gno rfl rfl hb19 ?_
              refine WL.gno rfl rfl hb19 ?_
              refine WL.gno rfl rfl hb19 ?_
              refine WL.gno rfl rfl hb19 ?_
              refine WL.gno rfl rfl hb19 ?_
              refine WL.gno rfl rfl hb19 ?_
              refine WL.gno rfl rfl hb19 ?_
              refine WL.valw (R.pickT rfl hb19 rfl) ?_
              exact WL.nil ⟨(congrArg boo (Option.some.inj hg20)), (by repeat (first | refine agree_upd rfl ?_ | refine agree_upds' rfl ?_ | exact agree_refl)), rfl⟩
            · replace hg20 := condF hg20 hb19
              refine WL.gyes rfl rfl hb19 ?_
              refine WL.valw (R.mv (v := vp_l) h2) ?_
              refine WL.gyes rfl rfl hb19 ?_
              refine WL.valw (R.mv (v := (int i_3)) h4) ?_
              refine WL.gyes rfl rfl hb19 ?_
              obtain ⟨x21, hx21, hg20⟩ := bindE hg20
              refine W.idx (α := GField) Rp_l rfl rfl el27 hx21 ?_
              rintro a22 _ hA23 rfl
              refine WL.gyes rfl rfl hb19 ?_
              refine WL.valw (R.field rfl fld26_1) ?_
              have hA24 := At.add hA23 1 (by simp)
              refine WL.gyes rfl rfl hb19 ?_
              refine WL.valw (R.loadH (v := (str x21.fValue)) S rfl hA24 lay9 rfl) ?_
              refine WL.gyes rfl rfl hb19 ?_
              refine WL.valw (R.lenS (a := x21.fValue) rfl Tryd.underlying9) ?_
              refine WL.gyes rfl rfl hb19 ?_
              refine WL.valw (R.gtr rfl rfl) ?_
              refine WL.valw (R.pickF rfl hb19 rfl) ?_
              exact WL.nil ⟨(congrArg boo (Option.some.inj hg20)), (by repeat (first | refine agree_upd rfl ?_ | refine agree_upds' rfl ?_ | exact agree_refl)), rfl⟩
          · intro us
            refine WL.nil ?_
            rcases condE hy8 with ⟨hc26, hy8⟩ | ⟨hc26, hy8⟩
            · refine WP.condT rfl hc26 ?_
              refine WP.seq ?_
              refine WP.region ?_
              refine WL.valw (R.as (v := (boo false)) rfl) ?_
              refine WL.nil ?_
              obtain rfl := Option.some.inj hy8
              obtain rfl := hy9
              obtain rfl := Option.some.inj h
              refine WP.ret (Out.one rfl S rfl ?_)
              exact rfl
            · refine WP.condF rfl hc26 ?_
              refine WP.skip ?_
              refine WP.region ?_
              refine WL.valw (R.mv (v := (int i_3)) h4) ?_
              refine WL.valw (R.add rfl rfl) ?_
              refine WL.valw (R.as (v := (int (wr (i_3 + 1)))) rfl) ?_
              refine WL.nil ?_
              obtain rfl := Option.some.inj hy8
              exact ⟨rfl, ⟨H1, h2, rfl, Rp_l, S⟩⟩
        · refine WP.condF rfl hc14 ?_
          refine WP.exit ?_
          obtain rfl := Option.some.inj hy8
          obtain rfl := hy9
          exact ⟨H1, h2, Rp_l, S⟩
  · intro f w hM
    rcases r10 with _ | e
    · obtain ⟨H5, h6, Rp_l, S⟩ := hM
      refine WP.seq ?_
      refine WP.region ?_
      refine WL.valw (R.mv (v := vp_l) h6) ?_
      refine WL.valw (R.lenL (α := GField) (xs := p_l) (H := H5) Rp_l rfl Tryd.underlying27) ?_
      refine WL.valw (R.leq rfl rfl) ?_
      refine WL.valw (R.as (v := (boo (decide ((p_l.length : Int) ≤ 70)))) rfl) ?_
      refine WL.nil ?_
      obtain rfl := Option.some.inj h
      refine WP.ret (Out.one rfl S rfl ?_)
      exact rfl
    · exact hM.elim
set_option maxRecDepth 10000 in
set_option maxHeartbeats 4000000 in
theorem fieldline_Has_ok {w0 : World} {H0 : Hp} (hw : Holds w0 H0) (p_l : (List GField)) (p_name : Str) {vp_l : Value} (Rp_l : Sl (α := GField) H0 vp_l p_l) {r : Bool} (h : fieldline_Has p_l p_name = some r) :
    Con Tryd.prog 47 [vp_l, (str p_name)] w0 H0 (fun H' v => v = (boo r)) := by
  refine Con.mk (N := 11) Tryd.func47 rfl rfl (by kernel_rfl) rfl ?_
  have S := St.start hw
  refine WP.seq ?_
  refine WP.region ?_
  refine WL.valw (R.as (v := (boo false)) rfl) ?_
  refine WL.nil ?_
  refine WP.seq ?_
  refine WP.region ?_
  refine WL.valw (R.mv (v := vp_l) rfl) ?_
  refine WL.valw (R.mv (v := (str p_name)) rfl) ?_
  obtain ⟨r1, hr1, h⟩ := bindE h
  refine W.call S rfl (fieldline_named_ok S.holds p_name hr1) ?_
  rintro v2 w3 H4 hle5 S ⟨kr1, cr1, rfl, Fr1⟩
  have Rp_l := Sl.mono Rp_l hle5
  obtain ⟨r6, hr6, h⟩ := bindE h
  refine W.call S rfl (fieldline_filter_ok S.holds p_l r1 Rp_l (fun hle => Fr1 (Hp.le.trans (Hp.le.refl _) hle)) hr6) ?_
  rintro v7 w8 H9 hle10 S R11
  have Rp_l := Sl.mono Rp_l hle10
  refine WL.valw (R.lenL (α := GField) (xs := r6) (H := H9) R11 rfl Tryd.underlying27) ?_
  refine WL.valw (R.gtr rfl rfl) ?_
  refine WL.valw (R.as (v := (boo (decide (0 < (r6.length : Int))))) rfl) ?_
  refine WL.nil ?_
  obtain rfl := Option.some.inj h
  refine WP.ret (Out.one rfl S rfl ?_)
  exact rfl
set_option maxRecDepth 10000 in
set_option maxHeartbeats 4000000 in
theorem slices_IndexFunc_string_string_ok {w0 : World} {H0 : Hp} (hw : Holds w0 H0) (p_s : (List Str)) (p_f : (Str → Option Bool)) {vp_s : Value} {kp_f : FuncId} {cp_f : List Value} (Rp_s : Sl (α := Str) H0 vp_s p_s) (Fp_f : ∀ {w : World} {H : Hp}, H0.le H → Holds w H → ∀ (x0 : Str) (rr : Bool), p_f x0 = some rr → Con Tryd.prog kp_f ([(str x0)] ++ cp_f) w H (fun H' v => v = (boo rr))) {r : Int} (h : slices_IndexFunc_string_string p_s p_f = some r) :
    Con Tryd.prog 69 [vp_s, (.func (.func kp_f) #[] cp_f.toArray)] w0 H0 (fun H' v => v = (int r)) := by
  refine Con.mk (N := 19) Tryd.func69 rfl rfl (by kernel_rfl) rfl ?_
  have S := St.start hw
  refine WP.seq ?_
  refine WP.region ?_
  refine WL.valw (R.as (v := (int 0)) rfl) ?_
  refine WL.nil ?_
  refine WP.seq ?_
  refine WP.seq ?_
  refine WP.region ?_
  refine WL.valw (R.mv (v := vp_s) rfl) ?_
  refine WL.valw (R.lenL (α := Str) (xs := p_s) (H := H0) Rp_s rfl Tryd.underlying23) ?_
  refine WL.valw (R.mv (v := (int 0)) rfl) ?_
  refine WL.nil ?_
  obtain ⟨r11, hr12, h⟩ := bindE h
  refine WP.cut (fun f w => match r11 with | .inl _ => ∃ (H7 : Hp), St w0 H0 w H7 [] | .inr _ => False) ?_ ?_
  · refine WP.block ?_
    refine WP.loopM (slices_IndexFunc_string_string_L0 p_s p_f) (fun s f w => match s with | y_5 => ∃ (H1 : Hp), f 0 = vp_s ∧ f 1 = (.func (.func kp_f) #[] cp_f.toArray) ∧ f 7 = (int (p_s.length : Int)) ∧ f 8 = (int y_5) ∧ Sl (α := Str) H1 vp_s p_s ∧ St w0 H0 w H1 []) 0 r11 hr12 ?_ ?_
    · exact ⟨H0, rfl, rfl, rfl, rfl, Rp_s, S⟩
    · intro y_5 f w hI y8 hy9 hy10
      obtain ⟨H1, h2, h3, h4, h6, Rp_s, S⟩ := hI
      refine WP.seq ?_
      refine WP.region ?_
      refine WL.valw (R.lss h6 h4) ?_
      refine WL.nil ?_
      refine WP.seq ?_
      rcases condE hy9 with ⟨hc13, hy9⟩ | ⟨hc13, hy9⟩
      · refine WP.condT rfl hc13 ?_
        refine WP.skip ?_
        refine WP.seq ?_
        refine WP.block ?_
        refine WP.seq ?_
        refine WP.region ?_
        refine WL.valw (R.mv (v := (int y_5)) h6) ?_
        refine WL.valw (R.as (v := (int y_5)) rfl) ?_
        refine WL.nil ?_
        refine WP.seq ?_
        refine WP.region ?_
        refine WL.valw (R.mv (v := (.func (.func kp_f) #[] cp_f.toArray)) h3) ?_
        refine WL.valw (R.mv (v := vp_s) h2) ?_
        refine WL.valw (R.mv (v := (int y_5)) rfl) ?_
        obtain ⟨x14, hx14, hy9⟩ := bindE hy9
        refine W.idx (α := Str) Rp_s rfl rfl el23 hx14 ?_
        rintro a15 _ hA16 rfl
        refine WL.valw (R.loadH (v := (str x14)) S rfl hA16 lay9 rfl) ?_
        obtain ⟨r17, hr17, hy9⟩ := bindE hy9
        refine W.callv S rfl rfl (Fp_f (S.post.le) S.holds x14 _ hr17) ?_
        rintro v18 w19 H20 hle21 S rfl
        have Rp_s := Sl.mono Rp_s hle21
        have hA16 := At.mono hA16 hle21 (by simp)
        refine WL.nil ?_
        rcases condE hy9 with ⟨hc22, hy9⟩ | ⟨hc22, hy9⟩
        · refine WP.condT rfl hc22 ?_
          refine WP.seq ?_
          refine WP.region ?_
          refine WL.valw (R.mv (v := (int y_5)) rfl) ?_
          refine WL.valw (R.as (v := (int y_5)) rfl) ?_
          refine WL.nil ?_
          obtain rfl := Option.some.inj hy9
          obtain rfl := hy10
          obtain rfl := Option.some.inj h
          refine WP.ret (Out.one rfl S rfl ?_)
          exact rfl
        · refine WP.condF rfl hc22 ?_
          refine WP.skip ?_
          refine WP.region ?_
          refine WL.valw (R.add h6 rfl) ?_
          refine WL.valw (R.mv (v := (int (wr (y_5 + 1)))) rfl) ?_
          refine WL.nil ?_
          obtain rfl := Option.some.inj hy9
          exact ⟨rfl, ⟨H20, h2, h3, h4, rfl, Rp_s, S⟩⟩
      · refine WP.condF rfl hc13 ?_
        refine WP.exit ?_
        obtain rfl := Option.some.inj hy9
        obtain rfl := hy10
        exact ⟨H1, S⟩
  · intro f w hM
    rcases r11 with _ | e
    · obtain ⟨H7, S⟩ := hM
      refine WP.seq ?_
      refine WP.region ?_
      refine WL.valw (R.as (v := (int (-1))) rfl) ?_
      refine WL.nil ?_
      obtain rfl := Option.some.inj h
      refine WP.ret (Out.one rfl S rfl ?_)
      exact rfl
    · exact hM.elim
set_option maxRecDepth 10000 in
set_option maxHeartbeats 4000000 in
theorem slices_ContainsFunc_string_string_ok {w0 : World} {H0 : Hp} (hw : Holds w0 H0) (p_s : (List Str)) (p_f : (Str → Option Bool)) {vp_s : Value} {kp_f : FuncId} {cp_f : List Value} (Rp_s : Sl (α := Str) H0 vp_s p_s) (Fp_f : ∀ {w : World} {H : Hp}, H0.le H → Holds w H → ∀ (x0 : Str) (rr : Bool), p_f x0 = some rr → Con Tryd.prog kp_f ([(str x0)] ++ cp_f) w H (fun H' v => v = (boo rr))) {r : Bool} (h : slices_ContainsFunc_string_string p_s p_f = some r) :
    Con Tryd.prog 48 [vp_s, (.func (.func kp_f) #[] cp_f.toArray)] w0 H0 (fun H' v => v = (boo r)) := by
  refine Con.mk (N := 9) Tryd.func48 rfl rfl (by kernel_rfl) rfl ?_
  have S := St.start hw
  refine WP.seq ?_
  refine WP.region ?_
  refine WL.valw (R.as (v := (boo false)) rfl) ?_
  refine WL.nil ?_
  refine WP.seq ?_
  refine WP.region ?_
  refine WL.valw (R.mv (v := vp_s) rfl) ?_
  refine WL.valw (R.mv (v := (.func (.func kp_f) #[] cp_f.toArray)) rfl) ?_
  obtain ⟨r1, hr1, h⟩ := bindE h
  refine W.call S rfl (slices_IndexFunc_string_string_ok S.holds p_s p_f Rp_s (fun hle => Fp_f (Hp.le.trans S.post.le hle)) hr1) ?_
  rintro v2 w3 H4 hle5 S rfl
  have Rp_s := Sl.mono Rp_s hle5
  refine WL.valw (R.geq rfl rfl) ?_
  refine WL.valw (R.as (v := (boo (decide (0 ≤ r1)))) rfl) ?_
  refine WL.nil ?_
  obtain rfl := Option.some.inj h
  refine WP.ret (Out.one rfl S rfl ?_)
  exact rfl
set_option maxRecDepth 10000 in
set_option maxHeartbeats 4000000 in
theorem ascii_Fold_ok {w0 : World} {H0 : Hp} (hw : Holds w0 H0) (p_a : Str) (p_b : Str) {r : Bool} (h : ascii_Fold p_a p_b = some r) :
    Con Tryd.prog 50 [(str p_a), (str p_b)] w0 H0 (fun H' v => v = (boo r)) := by
  refine Con.mk (N := 17) Tryd.func50 rfl rfl (by kernel_rfl) rfl ?_
  have S := St.start hw
  refine WP.seq ?_
  refine WP.region ?_
  refine WL.valw (R.as (v := (boo false)) rfl) ?_
  refine WL.nil ?_
  refine WP.seq ?_
  refine WP.region ?_
  refine WL.valw (R.mv (v := (str p_a)) rfl) ?_
  refine WL.valw (R.lenS (a := p_a) rfl Tryd.underlying9) ?_
  refine WL.valw (R.mv (v := (str p_b)) rfl) ?_
  refine WL.valw (R.lenS (a := p_b) rfl Tryd.underlying9) ?_
  refine WL.valw (R.eql rfl rfl) ?_
  refine WL.valw (R.mv (v := (boo ((p_a.length : Int) == (p_b.length : Int)))) rfl) ?_
  obtain ⟨b13, hg2, h⟩ := bindE h
  refine WL.grpw 6 [11, 12, 13, 14, 15] 16 (boo b13) (fun w => ∃ H' : Hp, H0.le H' ∧ St w0 H0 w H' []) ?_ ?_
  · rcases boolE ((p_a.length : Int) == (p_b.length : Int)) with hb1 | hb1
    · replace hg2 := condT hg2 hb1
      refine WL.gyes rfl rfl hb1 ?_
      refine WL.valw (R.mv (v := (str p_a)) rfl) ?_
      refine WL.gyes rfl rfl hb1 ?_
      obtain ⟨r3, hr3, hg2⟩ := bindE hg2
      refine W.call S rfl (ascii_Lower_ok S.holds p_a hr3) ?_
      rintro v4 w5 H6 hle7 S rfl
      refine WL.gyes rfl rfl hb1 ?_
      refine WL.valw (R.mv (v := (str p_b)) rfl) ?_
      refine WL.gyes rfl rfl hb1 ?_
      obtain ⟨r8, hr8, hg2⟩ := bindE hg2
      refine W.call S rfl (ascii_Lower_ok S.holds p_b hr8) ?_
      rintro v9 w10 H11 hle12 S rfl
      refine WL.gyes rfl rfl hb1 ?_
      refine WL.valw (R.eqlS (a := r3) (b := r8) rfl rfl) ?_
      refine WL.valw (R.pickT rfl hb1 rfl) ?_
      exact WL.nil ⟨(congrArg boo (Option.some.inj hg2)), (by repeat (first | refine agree_upd rfl ?_ | refine agree_upds' rfl ?_ | exact agree_refl)), ⟨H11, (hle7.trans hle12), S⟩⟩
    · replace hg2 := condF hg2 hb1
      refine WL.gno rfl rfl hb1 ?_
      refine WL.gno rfl rfl hb1 ?_
      refine WL.gno rfl rfl hb1 ?_
      refine WL.gno rfl rfl hb1 ?_
      refine WL.gno rfl rfl hb1 ?_
      refine WL.valw (R.pickF rfl hb1 rfl) ?_
      exact WL.nil ⟨(congrArg boo (Option.some.inj hg2)), (by repeat (first | refine agree_upd rfl ?_ | refine agree_upds' rfl ?_ | exact agree_refl)), ⟨H0, (Hp.le.refl _), S⟩⟩
  · intro us w15 ⟨H14, hle16, S⟩
    refine WL.valw (R.as (v := (boo b13)) rfl) ?_
    refine WL.nil ?_
    obtain rfl := Option.some.inj h
    refine WP.ret (Out.one rfl S rfl ?_)
    exact rfl
set_option maxRecDepth 10000 in
set_option maxHeartbeats 4000000 in
theorem cachecontrol_Request_1_ok {w0 : World} {H0 : Hp} (hw : Holds w0 H0) (p_m : Str) {r : Bool} (h : cachecontrol_Request_1 p_m = some r) :
    Con Tryd.prog 49 [(str p_m)] w0 H0 (fun H' v => v = (boo r)) := by
  refine Con.mk (N := 5) Tryd.func49 rfl rfl (by kernel_rfl) rfl ?_
  have S := St.start hw
  refine WP.seq ?_
  refine WP.region ?_
  refine WL.valw (R.as (v := (boo false)) rfl) ?_
  refine WL.nil ?_
  refine WP.seq ?_
  refine WP.region ?_
  refine WL.valw (R.mv (v := (str p_m)) rfl) ?_
  obtain ⟨r1, hr1, h⟩ := bindE h
  refine W.call S rfl (ascii_Fold_ok S.holds p_m [110, 111, 45, 99, 97, 99, 104, 101] hr1) ?_
  rintro v2 w3 H4 hle5 S rfl
  refine WL.valw (R.as (v := (boo r1)) rfl) ?_
  refine WL.nil ?_
  obtain rfl := Option.some.inj h
  refine WP.ret (Out.one rfl S rfl ?_)
  exact rfl
set_option maxRecDepth 10000 in
set_option maxHeartbeats 4000000 in
theorem cachecontrol_Request_ok {w0 : World} {H0 : Hp} (hw : Holds w0 H0) (p_l : (List GField)) {vp_l : Value} (Rp_l : Sl (α := GField) H0 vp_l p_l) {r : GControl} (h : cachecontrol_Request p_l = some r) :
    Con Tryd.prog 25 [vp_l] w0 H0 (fun H' v => v = (agg [(boo r.fNoStore), (boo r.fNoCache), (boo r.fMustRevalidate), (boo r.fProxyRevalidate), (boo r.fPrivate), (boo r.fPublic), (boo r.fOnlyIfCached), (int r.fMaxAge), (int r.fSMaxAge), (int r.fMinFresh), (int r.fMaxStale)])) := by
  refine Con.mk (N := 16) Tryd.func25 rfl rfl (by kernel_rfl) rfl ?_
  have S := St.start hw
  refine WP.seq ?_
  refine WP.region ?_
  refine W.alloc [(boo false), (boo false), (boo false), (boo false), (boo false), (boo false), (boo false), (int 0), (int 0), (int 0), (int 0)] S zer32 ?_
  intro b1 w2 S
  refine WL.nil ?_
  refine WP.seq ?_
  refine WP.region ?_
  refine WL.valw (R.mv (v := vp_l) rfl) ?_
  obtain ⟨r3, hr3, h⟩ := bindE h
  refine W.call S rfl (cachecontrol_Response_ok S.holds p_l Rp_l hr3) ?_
  rintro v4 w5 H6 hle7 S rfl
  have Rp_l := Sl.mono Rp_l hle7
  refine W.alloc [(boo false), (boo false), (boo false), (boo false), (boo false), (boo false), (boo false), (int 0), (int 0), (int 0), (int 0)] S zer32 ?_
  intro b8 w9 S
  refine W.store (i := 0) [(boo r3.fNoStore), (boo r3.fNoCache), (boo r3.fMustRevalidate), (boo r3.fProxyRevalidate), (boo r3.fPrivate), (boo r3.fPublic), (boo r3.fOnlyIfCached), (int r3.fMaxAge), (int r3.fSMaxAge), (int r3.fMinFresh), (int r3.fMaxStale)] S rfl rfl rfl lay32 rfl rfl (Nat.le_of_ble_eq_true rfl) rfl ?_
  intro w10 S
  refine WL.nil ?_
  refine WP.seq ?_
  refine WP.seq ?_
  refine WP.region ?_
  refine WL.valw (R.mv (v := vp_l) rfl) ?_
  obtain ⟨r11, hr11, h⟩ := bindE h
  refine W.call S rfl (fieldline_Has_ok S.holds p_l [67, 97, 99, 104, 101, 45, 67, 111, 110, 116, 114, 111, 108] Rp_l hr11) ?_
  rintro v12 w13 H14 hle15 S rfl
  have Rp_l := Sl.mono Rp_l hle15
  refine WL.valw (R.not rfl) ?_
  refine WL.valw (R.mv (v := (boo (!r11))) rfl) ?_
  obtain ⟨b29, hg17, h⟩ := bindE h
  refine WL.grpw 4 [10, 11, 12] 13 (boo b29) (fun w => ∃ H' : Hp, H14.le H' ∧ St w0 H0 w H' [.box b8 32 [(boo r3.fNoStore), (boo r3.fNoCache), (boo r3.fMustRevalidate), (boo r3.fProxyRevalidate), (boo r3.fPrivate), (boo r3.fPublic), (boo r3.fOnlyIfCached), (int r3.fMaxAge), (int r3.fSMaxAge), (int r3.fMinFresh), (int r3.fMaxStale)], .box b1 32 [(boo false), (boo false), (boo false), (boo false), (boo false), (boo false), (boo false), (int 0), (int 0), (int 0), (int 0)]]) ?_ ?_
  · rcases boolE (!r11) with hb16 | hb16
    · replace hg17 := condT hg17 hb16
      refine WL.gyes rfl rfl hb16 ?_
      refine WL.valw (R.mv (v := vp_l) rfl) ?_
      refine WL.gyes rfl rfl hb16 ?_
      obtain ⟨r18, hr18, hg17⟩ := bindE hg17
      refine W.call S rfl (list_All_ok S.holds p_l [80, 114, 97, 103, 109, 97] Rp_l hr18) ?_
      rintro v19 w20 H21 hle22 S R23
      have Rp_l := Sl.mono Rp_l hle22
      refine WL.gyes rfl rfl hb16 ?_
      obtain ⟨r24, hr24, hg17⟩ := bindE hg17
      refine W.call S rfl (slices_ContainsFunc_string_string_ok S.holds r18 cachecontrol_Request_1 R23 (fun hle hw x0 r h => cachecontrol_Request_1_ok hw x0 h) hr24) ?_
      rintro v25 w26 H27 hle28 S rfl
      have Rp_l := Sl.mono Rp_l hle28
      have R23 := Sl.mono R23 hle28
      refine WL.valw (R.pickT rfl hb16 rfl) ?_
      exact WL.nil ⟨(congrArg boo (Option.some.inj hg17)), (by repeat (first | refine agree_upd rfl ?_ | refine agree_upds' rfl ?_ | exact agree_refl)), ⟨H27, (hle22.trans hle28), S⟩⟩
    · replace hg17 := condF hg17 hb16
      refine WL.gno rfl rfl hb16 ?_
      refine WL.gno rfl rfl hb16 ?_
      refine WL.gno rfl rfl hb16 ?_
      refine WL.valw (R.pickF rfl hb16 rfl) ?_
      exact WL.nil ⟨(congrArg boo (Option.some.inj hg17)), (by repeat (first | refine agree_upd rfl ?_ | refine agree_upds' rfl ?_ | exact agree_refl)), ⟨H14, (Hp.le.refl _), S⟩⟩
  · intro us w31 ⟨H30, hle32, S⟩
    have Rp_l := Sl.mono Rp_l hle32
    refine WL.nil ?_
    obtain ⟨m36, hj37, h⟩ := bindE h
    refine WP.cut (fun f w => ∃ (H33 : Hp), f 2 = (ptr b1 0) ∧ f 3 = (ptr b8 0) ∧ St w0 H0 w H33 [.box b8 32 [(boo r3.fNoStore), (boo m36), (boo r3.fMustRevalidate), (boo r3.fProxyRevalidate), (boo r3.fPrivate), (boo r3.fPublic), (boo r3.fOnlyIfCached), (int r3.fMaxAge), (int r3.fSMaxAge), (int r3.fMinFresh), (int r3.fMaxStale)], .box b1 32 [(boo false), (boo false), (boo false), (boo false), (boo false), (boo false), (boo false), (int 0), (int 0), (int 0), (int 0)]]) ?_ ?_
    · rcases condE hj37 with ⟨hc39, hj37⟩ | ⟨hc39, hj37⟩
      · refine WP.condT rfl hc39 ?_
        refine WP.region ?_
        refine WL.valw (R.fieldB rfl fld32_1) ?_
        refine W.store (i := 0) [(boo r3.fNoStore), (boo true), (boo r3.fMustRevalidate), (boo r3.fProxyRevalidate), (boo r3.fPrivate), (boo r3.fPublic), (boo r3.fOnlyIfCached), (int r3.fMaxAge), (int r3.fSMaxAge), (int r3.fMinFresh), (int r3.fMaxStale)] S rfl rfl rfl lay4 rfl rfl (Nat.le_of_ble_eq_true rfl) rfl ?_
        intro w40 S
        refine WL.nil ?_
        obtain rfl := Option.some.inj hj37
        exact ⟨H30, rfl, rfl, S⟩
      · refine WP.condF rfl hc39 ?_
        refine WP.skip ?_
        obtain rfl := Option.some.inj hj37
        exact ⟨H30, rfl, rfl, S⟩
    · rintro f w ⟨H33, h34, h35, S⟩
      refine WP.seq ?_
      refine WP.region ?_
      refine WL.valw (R.loadBN (i := 0) (vs := [(boo r3.fNoStore), (boo m36), (boo r3.fMustRevalidate), (boo r3.fProxyRevalidate), (boo r3.fPrivate), (boo r3.fPublic), (boo r3.fOnlyIfCached), (int r3.fMaxAge), (int r3.fSMaxAge), (int r3.fMinFresh), (int r3.fMaxStale)]) S h35 rfl lay32 rfl rfl) ?_
      refine W.store (i := 1) [(boo r3.fNoStore), (boo m36), (boo r3.fMustRevalidate), (boo r3.fProxyRevalidate), (boo r3.fPrivate), (boo r3.fPublic), (boo r3.fOnlyIfCached), (int r3.fMaxAge), (int r3.fSMaxAge), (int r3.fMinFresh), (int r3.fMaxStale)] S h34 rfl rfl lay32 rfl rfl (Nat.le_of_ble_eq_true rfl) rfl ?_
      intro w41 S
      refine WL.nil ?_
      obtain rfl := Option.some.inj h
      refine WP.ret (Out.one rfl S (Res.cellB (i := 1) (cs := [(boo r3.fNoStore), (boo m36), (boo r3.fMustRevalidate), (boo r3.fProxyRevalidate), (boo r3.fPrivate), (boo r3.fPublic), (boo r3.fOnlyIfCached), (int r3.fMaxAge), (int r3.fSMaxAge), (int r3.fMinFresh), (int r3.fMaxStale)]) S h34 rfl lay32 rfl rfl) ?_)
      exact rfl
set_option maxRecDepth 10000 in
set_option maxHeartbeats 4000000 in
theorem ref01_Has_ok {w0 : World} {H0 : Hp} (hw : Holds w0 H0) (p_l : (List GField)) (p_name : Str) {vp_l : Value} (Rp_l : Sl (α := GField) H0 vp_l p_l) {r : Bool} (h : ref01_Has p_l p_name = some r) :
    Con Tryd.prog 27 [vp_l, (str p_name)] w0 H0 (fun H' v => v = (boo r)) := by
  refine Con.mk (N := 10) Tryd.func27 rfl rfl (by kernel_rfl) rfl ?_
  have S := St.start hw
  refine WP.seq ?_
  refine WP.region ?_
  refine WL.valw (R.as (v := (boo false)) rfl) ?_
  refine WL.nil ?_
  refine WP.seq ?_
  refine WP.region ?_
  refine WL.valw (R.mv (v := vp_l) rfl) ?_
  refine WL.valw (R.mv (v := (str p_name)) rfl) ?_
  obtain ⟨r1, hr1, h⟩ := bindE h
  refine W.call S rfl (ref01_Get_ok S.holds p_l p_name Rp_l hr1) ?_
  rintro v2 w3 H4 hle5 S R6
  have Rp_l := Sl.mono Rp_l hle5
  refine WL.valw (R.lenL (α := Str) (xs := r1) (H := H4) R6 rfl Tryd.underlying23) ?_
  refine WL.valw (R.gtr rfl rfl) ?_
  refine WL.valw (R.as (v := (boo (decide (0 < (r1.length : Int))))) rfl) ?_
  refine WL.nil ?_
  obtain rfl := Option.some.inj h
  refine WP.ret (Out.one rfl S rfl ?_)
  exact rfl
end Go.Proofs
