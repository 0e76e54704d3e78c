/- A part of the proof of laws of the seat: written by program over the translation. -/
import Derived.Test.YtogfdiigokidaaaGreatDoorGenJ6
namespace Go.Proofs
open Go.Eng Go.Eng.Pure
set_option linter.unusedVariables false
set_option maxRecDepth 10000 in
set_option maxHeartbeats 4000000 in
theorem ref19_Strip_ok {w0 : World} {H0 : Hp} (hw : Holds w0 H0) (hG : Tryz.Gl w0) (p_l : (List GField)) {vp_l : Value} (Rp_l : Sl (α := GField) H0 vp_l p_l) {r : (List GField)} (h : ref19_Strip p_l = some r) :
    Con Tryz.prog 24 [vp_l] w0 H0 (fun H' v => Sl (α := GField) H' v r) := by
  refine Con.mk (N := 52) Tryz.func24 rfl rfl (by kernel_rfl) rfl ?_
  have S := St.start hw
  refine WP.seq ?_
  refine WP.region ?_
  refine WL.valw (R.as (v := (.slice none 0 0)) rfl) ?_
  refine WL.nil ?_
  refine WP.seq ?_
  refine WP.region ?_
  refine W.bslice (α := Str) [(str [67, 111, 110, 110, 101, 99, 116, 105, 111, 110]), (str [75, 101, 101, 112, 45, 65, 108, 105, 118, 101]), (str [80, 114, 111, 120, 121, 45, 67, 111, 110, 110, 101, 99, 116, 105, 111, 110]), (str [80, 114, 111, 120, 121, 45, 65, 117, 116, 104, 101, 110, 116, 105, 99, 97, 116, 101]), (str [80, 114, 111, 120, 121, 45, 65, 117, 116, 104, 111, 114, 105, 122, 97, 116, 105, 111, 110]), (str [84, 69]), (str [84, 114, 97, 105, 108, 101, 114]), (str [84, 114, 97, 110, 115, 102, 101, 114, 45, 69, 110, 99, 111, 100, 105, 110, 103]), (str [67, 111, 110, 116, 101, 110, 116, 45, 76, 101, 110, 103, 116, 104]), (str [85, 112, 103, 114, 97, 100, 101])] ([[67, 111, 110, 110, 101, 99, 116, 105, 111, 110], [75, 101, 101, 112, 45, 65, 108, 105, 118, 101], [80, 114, 111, 120, 121, 45, 67, 111, 110, 110, 101, 99, 116, 105, 111, 110], [80, 114, 111, 120, 121, 45, 65, 117, 116, 104, 101, 110, 116, 105, 99, 97, 116, 101], [80, 114, 111, 120, 121, 45, 65, 117, 116, 104, 111, 114, 105, 122, 97, 116, 105, 111, 110], [84, 69], [84, 114, 97, 105, 108, 101, 114], [84, 114, 97, 110, 115, 102, 101, 114, 45, 69, 110, 99, 111, 100, 105, 110, 103], [67, 111, 110, 116, 101, 110, 116, 45, 76, 101, 110, 103, 116, 104], [85, 112, 103, 114, 97, 100, 101]] : List Str) S el23 rfl rfl rfl (by decide) (Go.Eng.encS ⟨rfl, rfl⟩ (Go.Eng.encS ⟨rfl, rfl⟩ (Go.Eng.encS ⟨rfl, rfl⟩ (Go.Eng.encS ⟨rfl, rfl⟩ (Go.Eng.encS ⟨rfl, rfl⟩ (Go.Eng.encS ⟨rfl, rfl⟩ (Go.Eng.encS ⟨rfl, rfl⟩ (Go.Eng.encS ⟨rfl, rfl⟩ (Go.Eng.encS ⟨rfl, rfl⟩ (Go.Eng.encS ⟨rfl, rfl⟩ enc0)))))))))) ?_
  intro u1 w2 H3 hle4 R5 S
  have Rp_l := Sl.mono Rp_l hle4
  refine WL.valw (R.as (v := u1) rfl) ?_
  refine WL.nil ?_
  refine WP.seq ?_
  refine WP.region ?_
  refine W.bslice (α := Str) [(str [72, 111, 115, 116]), (str [67, 97, 99, 104, 101, 45, 67, 111, 110, 116, 114, 111, 108]), (str [86, 97, 114, 121]), (str [86, 97, 114, 105, 97, 110, 116, 115]), (str [86, 97, 114, 105, 97, 110, 116, 45, 75, 101, 121]), (str [86, 105, 97])] ([[72, 111, 115, 116], [67, 97, 99, 104, 101, 45, 67, 111, 110, 116, 114, 111, 108], [86, 97, 114, 121], [86, 97, 114, 105, 97, 110, 116, 115], [86, 97, 114, 105, 97, 110, 116, 45, 75, 101, 121], [86, 105, 97]] : List Str) S el23 rfl rfl rfl (by decide) (Go.Eng.encS ⟨rfl, rfl⟩ (Go.Eng.encS ⟨rfl, rfl⟩ (Go.Eng.encS ⟨rfl, rfl⟩ (Go.Eng.encS ⟨rfl, rfl⟩ (Go.Eng.encS ⟨rfl, rfl⟩ (Go.Eng.encS ⟨rfl, rfl⟩ enc0)))))) ?_
  intro u6 w7 H8 hle9 R10 S
  have Rp_l := Sl.mono Rp_l hle9
  have R5 := Sl.mono R5 hle9
  refine WL.valw (R.as (v := u6) rfl) ?_
  refine WL.nil ?_
  refine WP.seq ?_
  refine WP.region ?_
  refine WL.valw (R.mv (v := vp_l) rfl) ?_
  obtain ⟨r11, hr11, h⟩ := bindE h
  refine W.call S rfl (ref01_All_ok S.holds (hG.post S.post) p_l [67, 111, 110, 110, 101, 99, 116, 105, 111, 110] Rp_l hr11) ?_
  rintro v12 w13 H14 hle15 S R16
  have Rp_l := Sl.mono Rp_l hle15
  have R5 := Sl.mono R5 hle15
  have R10 := Sl.mono R10 hle15
  refine WL.valw (R.as (v := v12) rfl) ?_
  refine WL.nil ?_
  refine WP.seq ?_
  refine WP.region ?_
  refine WL.valw (R.as (v := (.slice none 0 0)) rfl) ?_
  refine WL.nil ?_
  refine WP.seq ?_
  refine WP.seq ?_
  refine WP.region ?_
  refine WL.valw (R.as (v := (int 0)) rfl) ?_
  refine WL.nil ?_
  have S := S.addNil 53 2
  obtain ⟨out_29, hr37, h⟩ := bindE h
  refine WP.cut (fun f w => ∃ (H28 : Hp) (v30 : Value), f 6 = v30 ∧ Sl (α := GField) H28 v30 out_29 ∧ St w0 H0 w H28 [.row v30 53 2 out_29.length]) ?_ ?_
  · refine WP.block ?_
    refine WP.loopM (ref19_Strip_L0 p_l r11) (fun s f w => match s with | (out_22, i_26) => ∃ (H17 : Hp) (v23 : Value), f 0 = vp_l ∧ f 3 = u1 ∧ f 4 = u6 ∧ f 5 = v12 ∧ f 6 = v23 ∧ f 7 = (int i_26) ∧ Sl (α := GField) H17 vp_l p_l ∧ Sl (α := Str) H17 u1 ([[67, 111, 110, 110, 101, 99, 116, 105, 111, 110], [75, 101, 101, 112, 45, 65, 108, 105, 118, 101], [80, 114, 111, 120, 121, 45, 67, 111, 110, 110, 101, 99, 116, 105, 111, 110], [80, 114, 111, 120, 121, 45, 65, 117, 116, 104, 101, 110, 116, 105, 99, 97, 116, 101], [80, 114, 111, 120, 121, 45, 65, 117, 116, 104, 111, 114, 105, 122, 97, 116, 105, 111, 110], [84, 69], [84, 114, 97, 105, 108, 101, 114], [84, 114, 97, 110, 115, 102, 101, 114, 45, 69, 110, 99, 111, 100, 105, 110, 103], [67, 111, 110, 116, 101, 110, 116, 45, 76, 101, 110, 103, 116, 104], [85, 112, 103, 114, 97, 100, 101]] : List Str) ∧ Sl (α := Str) H17 u6 ([[72, 111, 115, 116], [67, 97, 99, 104, 101, 45, 67, 111, 110, 116, 114, 111, 108], [86, 97, 114, 121], [86, 97, 114, 105, 97, 110, 116, 115], [86, 97, 114, 105, 97, 110, 116, 45, 75, 101, 121], [86, 105, 97]] : List Str) ∧ Sl (α := Str) H17 v12 r11 ∧ Sl (α := GField) H17 v23 out_22 ∧ St w0 H0 w H17 [.row v23 53 2 out_22.length, .row u6 9 1 ([[72, 111, 115, 116], [67, 97, 99, 104, 101, 45, 67, 111, 110, 116, 114, 111, 108], [86, 97, 114, 121], [86, 97, 114, 105, 97, 110, 116, 115], [86, 97, 114, 105, 97, 110, 116, 45, 75, 101, 121], [86, 105, 97]] : List Str).length, .row u1 9 1 ([[67, 111, 110, 110, 101, 99, 116, 105, 111, 110], [75, 101, 101, 112, 45, 65, 108, 105, 118, 101], [80, 114, 111, 120, 121, 45, 67, 111, 110, 110, 101, 99, 116, 105, 111, 110], [80, 114, 111, 120, 121, 45, 65, 117, 116, 104, 101, 110, 116, 105, 99, 97, 116, 101], [80, 114, 111, 120, 121, 45, 65, 117, 116, 104, 111, 114, 105, 122, 97, 116, 105, 111, 110], [84, 69], [84, 114, 97, 105, 108, 101, 114], [84, 114, 97, 110, 115, 102, 101, 114, 45, 69, 110, 99, 111, 100, 105, 110, 103], [67, 111, 110, 116, 101, 110, 116, 45, 76, 101, 110, 103, 116, 104], [85, 112, 103, 114, 97, 100, 101]] : List Str).length]) (([] : List GField), 0) out_29 hr37 ?_ ?_
    · exact ⟨H14, .slice none 0 0, rfl, rfl, rfl, rfl, rfl, rfl, Rp_l, R5, R10, R16, Sl.nil, S⟩
    · intro s f w hI y33 hy34 hy35
      obtain ⟨out_22, i_26⟩ := s
      obtain ⟨H17, v23, h18, h19, h20, h21, h25, h27, Rp_l, R5, R10, R16, R24, S⟩ := hI
      refine WP.seq ?_
      refine WP.seq ?_
      refine WP.region ?_
      refine WL.valw (R.mv (v := (int i_26)) h27) ?_
      refine WL.valw (R.mv (v := vp_l) h18) ?_
      refine WL.valw (R.lenL (α := GField) (xs := p_l) (H := H17) Rp_l rfl Tryz.underlying24) ?_
      refine WL.valw (R.lss rfl rfl) ?_
      refine WL.nil ?_
      rcases condE hy34 with ⟨hc38, hy34⟩ | ⟨hc38, hy34⟩
      · refine WP.condT rfl hc38 ?_
        refine WP.skip ?_
        refine WP.seq ?_
        refine WP.block ?_
        refine WP.seq ?_
        refine WP.seq ?_
        refine WP.region ?_
        refine WL.valw (R.mv (v := vp_l) h18) ?_
        refine WL.valw (R.mv (v := (int i_26)) h27) ?_
        obtain ⟨x39, hx39, hy34⟩ := bindE hy34
        refine W.idx (α := GField) Rp_l rfl rfl el24 hx39 ?_
        rintro a40 _ hA41 rfl
        refine WL.valw (R.field rfl fld53_0) ?_
        have hA42 := At.add hA41 0 (by simp)
        refine WL.valw (R.loadH (v := (str x39.fName)) S rfl hA42 lay9 rfl) ?_
        refine WL.valw (R.mv (v := u1) h19) ?_
        obtain ⟨r43, hr43, hy34⟩ := bindE hy34
        refine W.call S rfl (ref19_among_ok S.holds (hG.post S.post) x39.fName ([[67, 111, 110, 110, 101, 99, 116, 105, 111, 110], [75, 101, 101, 112, 45, 65, 108, 105, 118, 101], [80, 114, 111, 120, 121, 45, 67, 111, 110, 110, 101, 99, 116, 105, 111, 110], [80, 114, 111, 120, 121, 45, 65, 117, 116, 104, 101, 110, 116, 105, 99, 97, 116, 101], [80, 114, 111, 120, 121, 45, 65, 117, 116, 104, 111, 114, 105, 122, 97, 116, 105, 111, 110], [84, 69], [84, 114, 97, 105, 108, 101, 114], [84, 114, 97, 110, 115, 102, 101, 114, 45, 69, 110, 99, 111, 100, 105, 110, 103], [67, 111, 110, 116, 101, 110, 116, 45, 76, 101, 110, 103, 116, 104], [85, 112, 103, 114, 97, 100, 101]] : List Str) R5 hr43) ?_
        rintro v44 w45 H46 hle47 S rfl
        have Rp_l := Sl.mono Rp_l hle47
        have R5 := Sl.mono R5 hle47
        have R10 := Sl.mono R10 hle47
        have R16 := Sl.mono R16 hle47
        have R24 := Sl.mono R24 hle47
        have hA41 := At.mono hA41 hle47 (by simp)
        have hA42 := At.mono hA42 hle47 (by simp)
        refine WL.valw (R.mv (v := (boo r43)) rfl) ?_
        obtain ⟨b74, hg49, hy34⟩ := bindE hy34
        refine WL.grpw 18 [26, 27, 28, 29, 30, 31, 32, 33, 34, 35, 36, 37, 38, 39, 40, 41, 42] 43 (boo b74) (fun w => ∃ H' : Hp, H46.le H' ∧ St w0 H0 w H' [.row v23 53 2 out_22.length, .row u6 9 1 ([[72, 111, 115, 116], [67, 97, 99, 104, 101, 45, 67, 111, 110, 116, 114, 111, 108], [86, 97, 114, 121], [86, 97, 114, 105, 97, 110, 116, 115], [86, 97, 114, 105, 97, 110, 116, 45, 75, 101, 121], [86, 105, 97]] : List Str).length, .row u1 9 1 ([[67, 111, 110, 110, 101, 99, 116, 105, 111, 110], [75, 101, 101, 112, 45, 65, 108, 105, 118, 101], [80, 114, 111, 120, 121, 45, 67, 111, 110, 110, 101, 99, 116, 105, 111, 110], [80, 114, 111, 120, 121, 45, 65, 117, 116, 104, 101, 110, 116, 105, 99, 97, 116, 101], [80, 114, 111, 120, 121, 45, 65, 117, 116, 104, 111, 114, 105, 122, 97, 116, 105, 111, 110], [84, 69], [84, 114, 97, 105, 108, 101, 114], [84, 114, 97, 110, 115, 102, 101, 114, 45, 69, 110, 99, 111, 100, 105, 110, 103], [67, 111, 110, 116, 101, 110, 116, 45, 76, 101, 110, 103, 116, 104], [85, 112, 103, 114, 97, 100, 101]] : List Str).length]) ?_ ?_
        · rcases boolE r43 with hb48 | hb48
          · replace hg49 := condT hg49 hb48
            refine WL.gno rfl rfl hb48 ?_
            refine WL.gno rfl rfl hb48 ?_
            refine WL.gno rfl rfl hb48 ?_
            refine WL.gno rfl rfl hb48 ?_
            refine WL.gno rfl rfl hb48 ?_
            refine WL.gno rfl rfl hb48 ?_
            refine WL.gno rfl rfl hb48 ?_
            refine WL.gno rfl rfl hb48 ?_
            refine WL.gund rfl rfl ?_
            refine WL.gund rfl rfl ?_
            refine WL.gund rfl rfl ?_
            refine WL.gund rfl rfl ?_
            refine WL.gund rfl rfl ?_
            refine WL.gund rfl rfl ?_
            refine WL.gund rfl rfl ?_
            refine WL.gund rfl rfl ?_
            refine WL.gno rfl rfl hb48 ?_
            refine WL.valw (R.pickT rfl hb48 rfl) ?_
            exact WL.nil ⟨(congrArg boo (Option.some.inj hg49)), (by repeat (first | refine agree_upd rfl ?_ | refine agree_upds' rfl ?_ | exact agree_refl)), ⟨H46, (Hp.le.refl _), S⟩⟩
          · replace hg49 := condF hg49 hb48
            refine WL.gyes rfl rfl hb48 ?_
            refine WL.valw (R.mv (v := vp_l) h18) ?_
            refine WL.gyes rfl rfl hb48 ?_
            refine WL.valw (R.mv (v := (int i_26)) h27) ?_
            refine WL.gyes rfl rfl hb48 ?_
            obtain ⟨x50, hx50, hg49⟩ := bindE hg49
            refine W.idx (α := GField) Rp_l rfl rfl el24 hx50 ?_
            rintro a51 _ hA52 rfl
            refine WL.gyes rfl rfl hb48 ?_
            refine WL.valw (R.field rfl fld53_0) ?_
            have hA53 := At.add hA52 0 (by simp)
            refine WL.gyes rfl rfl hb48 ?_
            refine WL.valw (R.loadH (v := (str x50.fName)) S rfl hA53 lay9 rfl) ?_
            refine WL.gyes rfl rfl hb48 ?_
            refine WL.valw (R.mv (v := v12) h21) ?_
            refine WL.gyes rfl rfl hb48 ?_
            obtain ⟨r54, hr54, hg49⟩ := bindE hg49
            refine W.call S rfl (ref19_among_ok S.holds (hG.post S.post) x50.fName r11 R16 hr54) ?_
            rintro v55 w56 H57 hle58 S rfl
            have Rp_l := Sl.mono Rp_l hle58
            have R5 := Sl.mono R5 hle58
            have R10 := Sl.mono R10 hle58
            have R16 := Sl.mono R16 hle58
            have R24 := Sl.mono R24 hle58
            have hA41 := At.mono hA41 hle58 (by simp)
            have hA42 := At.mono hA42 hle58 (by simp)
            have hA52 := At.mono hA52 hle58 (by simp)
            have hA53 := At.mono hA53 hle58 (by simp)
            refine WL.gyes rfl rfl hb48 ?_
            refine WL.valw (R.mv (v := (boo r54)) rfl) ?_
            obtain ⟨b70, hg60, hg49⟩ := bindE hg49
            refine WL.grpw 9 [34, 35, 36, 37, 38, 39, 40, 41] 42 (boo b70) (fun w => ∃ H' : Hp, H57.le H' ∧ St w0 H0 w H' [.row v23 53 2 out_22.length, .row u6 9 1 ([[72, 111, 115, 116], [67, 97, 99, 104, 101, 45, 67, 111, 110, 116, 114, 111, 108], [86, 97, 114, 121], [86, 97, 114, 105, 97, 110, 116, 115], [86, 97, 114, 105, 97, 110, 116, 45, 75, 101, 121], [86, 105, 97]] : List Str).length, .row u1 9 1 ([[67, 111, 110, 110, 101, 99, 116, 105, 111, 110], [75, 101, 101, 112, 45, 65, 108, 105, 118, 101], [80, 114, 111, 120, 121, 45, 67, 111, 110, 110, 101, 99, 116, 105, 111, 110], [80, 114, 111, 120, 121, 45, 65, 117, 116, 104, 101, 110, 116, 105, 99, 97, 116, 101], [80, 114, 111, 120, 121, 45, 65, 117, 116, 104, 111, 114, 105, 122, 97, 116, 105, 111, 110], [84, 69], [84, 114, 97, 105, 108, 101, 114], [84, 114, 97, 110, 115, 102, 101, 114, 45, 69, 110, 99, 111, 100, 105, 110, 103], [67, 111, 110, 116, 101, 110, 116, 45, 76, 101, 110, 103, 116, 104], [85, 112, 103, 114, 97, 100, 101]] : List Str).length]) ?_ ?_
            · rcases boolE r54 with hb59 | hb59
              · replace hg60 := condT hg60 hb59
                refine WL.gyes rfl rfl hb59 ?_
                refine WL.valw (R.mv (v := vp_l) h18) ?_
                refine WL.gyes rfl rfl hb59 ?_
                refine WL.valw (R.mv (v := (int i_26)) h27) ?_
                refine WL.gyes rfl rfl hb59 ?_
                obtain ⟨x61, hx61, hg60⟩ := bindE hg60
                refine W.idx (α := GField) Rp_l rfl rfl el24 hx61 ?_
                rintro a62 _ hA63 rfl
                refine WL.gyes rfl rfl hb59 ?_
                refine WL.valw (R.field rfl fld53_0) ?_
                have hA64 := At.add hA63 0 (by simp)
                refine WL.gyes rfl rfl hb59 ?_
                refine WL.valw (R.loadH (v := (str x61.fName)) S rfl hA64 lay9 rfl) ?_
                refine WL.gyes rfl rfl hb59 ?_
                refine WL.valw (R.mv (v := u6) h20) ?_
                refine WL.gyes rfl rfl hb59 ?_
                obtain ⟨r65, hr65, hg60⟩ := bindE hg60
                refine W.call S rfl (ref19_among_ok S.holds (hG.post S.post) x61.fName ([[72, 111, 115, 116], [67, 97, 99, 104, 101, 45, 67, 111, 110, 116, 114, 111, 108], [86, 97, 114, 121], [86, 97, 114, 105, 97, 110, 116, 115], [86, 97, 114, 105, 97, 110, 116, 45, 75, 101, 121], [86, 105, 97]] : List Str) R10 hr65) ?_
                rintro v66 w67 H68 hle69 S rfl
                have Rp_l := Sl.mono Rp_l hle69
                have R5 := Sl.mono R5 hle69
                have R10 := Sl.mono R10 hle69
                have R16 := Sl.mono R16 hle69
                have R24 := Sl.mono R24 hle69
                have hA41 := At.mono hA41 hle69 (by simp)
                have hA42 := At.mono hA42 hle69 (by simp)
                have hA52 := At.mono hA52 hle69 (by simp)
                have hA53 := At.mono hA53 hle69 (by simp)
                have hA63 := At.mono hA63 hle69 (by simp)
                have hA64 := At.mono hA64 hle69 (by simp)
                refine WL.gyes rfl rfl hb59 ?_
                refine WL.valw (R.not rfl) ?_
                refine WL.gyes rfl rfl hb48 ?_
                refine WL.valw (R.pickT rfl hb59 rfl) ?_
                exact WL.nil ⟨(congrArg boo (Option.some.inj hg60)), (by repeat (first | refine agree_upd rfl ?_ | refine agree_upds' rfl ?_ | exact agree_refl)), ⟨H68, hle69, S⟩⟩
              · replace hg60 := condF hg60 hb59
                refine WL.gno rfl rfl hb59 ?_
                refine WL.gno rfl rfl hb59 ?_
                refine WL.gno rfl rfl hb59 ?_
                refine WL.gno rfl rfl hb59 ?_
                refine WL.gno rfl rfl hb59 ?_
                refine WL.gno rfl rfl hb59 ?_
                refine WL.gno rfl rfl hb59 ?_
                refine WL.gno rfl rfl hb59 ?_
                refine WL.gyes rfl rfl hb48 ?_
                refine WL.valw (R.pickF rfl hb59 rfl) ?_
                exact WL.nil ⟨(congrArg boo (Option.some.inj hg60)), (by repeat (first | refine agree_upd rfl ?_ | refine agree_upds' rfl ?_ | exact agree_refl)), ⟨H57, (Hp.le.refl _), S⟩⟩
            · intro us w72 ⟨H71, hle73, S⟩
              have Rp_l := Sl.mono Rp_l hle73
              have R5 := Sl.mono R5 hle73
              have R10 := Sl.mono R10 hle73
              have R16 := Sl.mono R16 hle73
              have R24 := Sl.mono R24 hle73
              have hA41 := At.mono hA41 hle73 (by simp)
              have hA42 := At.mono hA42 hle73 (by simp)
              have hA52 := At.mono hA52 hle73 (by simp)
              have hA53 := At.mono hA53 hle73 (by simp)
              refine WL.valw (R.pickF rfl hb48 rfl) ?_
              exact WL.nil ⟨(congrArg boo (Option.some.inj hg49)), (by repeat (first | refine agree_upd rfl ?_ | refine agree_upds' rfl ?_ | exact agree_refl)), ⟨H71, (hle58.trans hle73), S⟩⟩
        · intro us w76 ⟨H75, hle77, S⟩
          have Rp_l := Sl.mono Rp_l hle77
          have R5 := Sl.mono R5 hle77
          have R10 := Sl.mono R10 hle77
          have R16 := Sl.mono R16 hle77
          have R24 := Sl.mono R24 hle77
          have hA41 := At.mono hA41 hle77 (by simp)
          have hA42 := At.mono hA42 hle77 (by simp)
          refine WL.nil ?_
          rcases condE hy34 with ⟨hc78, hy34⟩ | ⟨hc78, hy34⟩
          · refine WP.condT rfl hc78 ?_
            refine WP.exit ?_
            refine WP.region ?_
            refine WL.valw (R.mv (v := (int i_26)) h27) ?_
            refine WL.valw (R.add rfl rfl) ?_
            refine WL.valw (R.as (v := (int (wr (i_26 + 1)))) rfl) ?_
            refine WL.nil ?_
            obtain rfl := Option.some.inj hy34
            exact ⟨rfl, ⟨H75, v23, h18, h19, h20, h21, h25, rfl, Rp_l, R5, R10, R16, R24, S⟩⟩
          · refine WP.condF rfl hc78 ?_
            refine WP.skip ?_
            refine WP.region ?_
            refine WL.valw (R.mv (v := v23) h25) ?_
            refine WL.valw (R.mv (v := vp_l) h18) ?_
            refine WL.valw (R.mv (v := (int i_26)) h27) ?_
            obtain ⟨x79, hx79, hy34⟩ := bindE hy34
            refine W.idx (α := GField) Rp_l rfl rfl el24 hx79 ?_
            rintro a80 _ hA81 rfl
            refine WL.valw (R.loadHN (vs := [(str x79.fName), (str x79.fValue)]) S rfl hA81 lay53 rfl rfl) ?_
            refine W.bslice (α := GField) [(agg [(str x79.fName), (str x79.fValue)])] ([x79] : List GField) S el24 rfl rfl rfl (by decide) (Go.Eng.encS ⟨rfl, rfl⟩ enc0) ?_
            intro u82 w83 H84 hle85 R86 S
            have Rp_l := Sl.mono Rp_l hle85
            have R5 := Sl.mono R5 hle85
            have R10 := Sl.mono R10 hle85
            have R16 := Sl.mono R16 hle85
            have R24 := Sl.mono R24 hle85
            have hA41 := At.mono hA41 hle85 (by simp)
            have hA42 := At.mono hA42 hle85 (by simp)
            have hA81 := At.mono hA81 hle85 (by simp)
            obtain ⟨l87, hl87, hy34⟩ := bindE hy34
            refine W.app (α := GField) (i := 1) S el24 rfl rfl rfl R24 R86 hl87 ?_
            intro v88 w89 H90 hle91 R92 S
            have Rp_l := Sl.mono Rp_l hle91
            have R5 := Sl.mono R5 hle91
            have R10 := Sl.mono R10 hle91
            have R16 := Sl.mono R16 hle91
            have R24 := Sl.mono R24 hle91
            have hA41 := At.mono hA41 hle91 (by simp)
            have hA42 := At.mono hA42 hle91 (by simp)
            have hA81 := At.mono hA81 hle91 (by simp)
            have R86 := Sl.mono R86 hle91
            refine WL.valw (R.as (v := v88) rfl) ?_
            refine WL.nil ?_
            refine WP.region ?_
            refine WL.valw (R.mv (v := (int i_26)) h27) ?_
            refine WL.valw (R.add rfl rfl) ?_
            refine WL.valw (R.as (v := (int (wr (i_26 + 1)))) rfl) ?_
            refine WL.nil ?_
            obtain rfl := Option.some.inj hy34
            exact ⟨rfl, ⟨H90, v88, h18, h19, h20, h21, rfl, rfl, Rp_l, R5, R10, R16, R92, (S.drop _ (.cons _ (.cons_cons _ (.cons_cons _ (.cons_cons _ .slnil)))))⟩⟩
      · refine WP.condF rfl hc38 ?_
        refine WP.exit ?_
        obtain rfl := Option.some.inj hy34
        obtain rfl := hy35
        exact ⟨H17, v23, h25, R24, (S.drop _ (.cons_cons _ (.cons _ (.cons _ .slnil))))⟩
  · rintro f w ⟨H28, v30, h32, R31, S⟩
    refine WP.seq ?_
    refine WP.region ?_
    refine WL.valw (R.mv (v := v30) h32) ?_
    refine WL.valw (R.as (v := v30) rfl) ?_
    refine WL.nil ?_
    obtain rfl := Option.some.inj h
    refine WP.ret (Out.one rfl S rfl ?_)
    exact R31
end Go.Proofs
