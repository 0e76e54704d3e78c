/- A part of the proof of laws of the seat: written by program over the translation. -/
import Derived.Test.YtogfdiigokidaaaGreatDoorEng31
import Derived.Test.YtogfdiigokidaaaGreatDoorGenJ6
namespace Go.Proofs
set_option maxHeartbeats 4000000
set_option maxRecDepth 10000
open Go.Eng Go.Eng.Pure
set_option linter.unusedVariables false
theorem ref19_Strip_ok {w0 : World} {H0 : Hp} (hw : Holds w0 H0) (hG : Tryz.Gl w0) (p_l : (List GField)) {vp_l : Value} (Rp_l : Sl (α := GField) H0 vp_l p_l) {r : (List GField)} (h : ref19_Strip p_l = some r) :
  Con Tryz.prog 24 [vp_l] w0 H0 (fun H' v => Sl (α := GField) H' v r) := by
 refine Con.mk (N := 52) Tryz.func24 rfl rfl (by kernel_rfl) rfl ?_
 have S := St.start hw
 refine WP.s<|WP.g<|WL.a (.slice none 0 0) rfl<|WL.e<|WP.s<|WP.g<|W.bslice (α := Str) [(str [67, 111, 110, 110, 101, 99, 116, 105, 111, 110]), (str [75, 101, 101, 112, 45, 65, 108, 105, 118, 101]), (str [80, 114, 111, 120, 121, 45, 67, 111, 110, 110, 101, 99, 116, 105, 111, 110]), (str [80, 114, 111, 120, 121, 45, 65, 117, 116, 104, 101, 110, 116, 105, 99, 97, 116, 101]), (str [80, 114, 111, 120, 121, 45, 65, 117, 116, 104, 111, 114, 105, 122, 97, 116, 105, 111, 110]), (str [84, 69]), (str [84, 114, 97, 105, 108, 101, 114]), (str [84, 114, 97, 110, 115, 102, 101, 114, 45, 69, 110, 99, 111, 100, 105, 110, 103]), (str [67, 111, 110, 116, 101, 110, 116, 45, 76, 101, 110, 103, 116, 104]), (str [85, 112, 103, 114, 97, 100, 101])] ([[67, 111, 110, 110, 101, 99, 116, 105, 111, 110], [75, 101, 101, 112, 45, 65, 108, 105, 118, 101], [80, 114, 111, 120, 121, 45, 67, 111, 110, 110, 101, 99, 116, 105, 111, 110], [80, 114, 111, 120, 121, 45, 65, 117, 116, 104, 101, 110, 116, 105, 99, 97, 116, 101], [80, 114, 111, 120, 121, 45, 65, 117, 116, 104, 111, 114, 105, 122, 97, 116, 105, 111, 110], [84, 69], [84, 114, 97, 105, 108, 101, 114], [84, 114, 97, 110, 115, 102, 101, 114, 45, 69, 110, 99, 111, 100, 105, 110, 103], [67, 111, 110, 116, 101, 110, 116, 45, 76, 101, 110, 103, 116, 104], [85, 112, 103, 114, 97, 100, 101]] : List Str) S el23 rfl rfl rfl (by decide) (Go.Eng.encS ⟨rfl, rfl⟩ (Go.Eng.encS ⟨rfl, rfl⟩ (Go.Eng.encS ⟨rfl, rfl⟩ (Go.Eng.encS ⟨rfl, rfl⟩ (Go.Eng.encS ⟨rfl, rfl⟩ (Go.Eng.encS ⟨rfl, rfl⟩ (Go.Eng.encS ⟨rfl, rfl⟩ (Go.Eng.encS ⟨rfl, rfl⟩ (Go.Eng.encS ⟨rfl, rfl⟩ (Go.Eng.encS ⟨rfl, rfl⟩ enc0)))))))))) ?_
 intro u1 w2 H3 hle4 R5 S
 have Rp_l := Sl.mono Rp_l hle4
 refine WL.a (u1) rfl<|WL.e<|WP.s<|WP.g<|W.bslice (α := Str) [(str [72, 111, 115, 116]), (str [67, 97, 99, 104, 101, 45, 67, 111, 110, 116, 114, 111, 108]), (str [86, 97, 114, 121]), (str [86, 97, 114, 105, 97, 110, 116, 115]), (str [86, 97, 114, 105, 97, 110, 116, 45, 75, 101, 121]), (str [86, 105, 97])] ([[72, 111, 115, 116], [67, 97, 99, 104, 101, 45, 67, 111, 110, 116, 114, 111, 108], [86, 97, 114, 121], [86, 97, 114, 105, 97, 110, 116, 115], [86, 97, 114, 105, 97, 110, 116, 45, 75, 101, 121], [86, 105, 97]] : List Str) S el23 rfl rfl rfl (by decide) (Go.Eng.encS ⟨rfl, rfl⟩ (Go.Eng.encS ⟨rfl, rfl⟩ (Go.Eng.encS ⟨rfl, rfl⟩ (Go.Eng.encS ⟨rfl, rfl⟩ (Go.Eng.encS ⟨rfl, rfl⟩ (Go.Eng.encS ⟨rfl, rfl⟩ enc0)))))) ?_
 intro u6 w7 H8 hle9 R10 S
 have Rp_l := Sl.mono Rp_l hle9
 have R5 := Sl.mono R5 hle9
 refine WL.a (u6) rfl<|WL.e<|WP.s<|WP.g<|WL.m (vp_l) rfl ?_
 obtain ⟨r11, hr11, h⟩ := bindE h
 refine W.call S rfl (ref01_All_ok S.holds (hG.post S.post) p_l [67, 111, 110, 110, 101, 99, 116, 105, 111, 110] Rp_l hr11) ?_
 rintro v12 w13 H14 hle15 S R16
 have Rp_l := Sl.mono Rp_l hle15
 have R5 := Sl.mono R5 hle15
 have R10 := Sl.mono R10 hle15
 refine WL.a (v12) rfl<|WL.e<|WP.s<|WP.g<|WL.a (.slice none 0 0) rfl<|WL.e<|WP.s<|WP.s<|WP.g<|WL.a (int 0) rfl<|WL.e ?_
 have S := S.addNil 53 2
 obtain ⟨out_29, hr37, h⟩ := bindE h
 refine WP.cut (fun f w => ∃ (H28 : Hp) (v30 : Value), f 6 = v30 ∧ Sl (α := GField) H28 v30 out_29 ∧ St w0 H0 w H28 [.row v30 53 2 out_29.length]) ?_ ?_
 ·refine WP.block ?_
  refine WP.loopM (ref19_Strip_L0 p_l r11) (fun s f w => match s with | (out_22, i_26) => ∃ (H17 : Hp) (v23 : Value), f 0 = vp_l ∧ f 3 = u1 ∧ f 4 = u6 ∧ f 5 = v12 ∧ f 6 = v23 ∧ f 7 = (int i_26) ∧ Sl (α := GField) H17 vp_l p_l ∧ Sl (α := Str) H17 u1 ([[67, 111, 110, 110, 101, 99, 116, 105, 111, 110], [75, 101, 101, 112, 45, 65, 108, 105, 118, 101], [80, 114, 111, 120, 121, 45, 67, 111, 110, 110, 101, 99, 116, 105, 111, 110], [80, 114, 111, 120, 121, 45, 65, 117, 116, 104, 101, 110, 116, 105, 99, 97, 116, 101], [80, 114, 111, 120, 121, 45, 65, 117, 116, 104, 111, 114, 105, 122, 97, 116, 105, 111, 110], [84, 69], [84, 114, 97, 105, 108, 101, 114], [84, 114, 97, 110, 115, 102, 101, 114, 45, 69, 110, 99, 111, 100, 105, 110, 103], [67, 111, 110, 116, 101, 110, 116, 45, 76, 101, 110, 103, 116, 104], [85, 112, 103, 114, 97, 100, 101]] : List Str) ∧ Sl (α := Str) H17 u6 ([[72, 111, 115, 116], [67, 97, 99, 104, 101, 45, 67, 111, 110, 116, 114, 111, 108], [86, 97, 114, 121], [86, 97, 114, 105, 97, 110, 116, 115], [86, 97, 114, 105, 97, 110, 116, 45, 75, 101, 121], [86, 105, 97]] : List Str) ∧ Sl (α := Str) H17 v12 r11 ∧ Sl (α := GField) H17 v23 out_22 ∧ St w0 H0 w H17 [.row v23 53 2 out_22.length, .row u6 9 1 ([[72, 111, 115, 116], [67, 97, 99, 104, 101, 45, 67, 111, 110, 116, 114, 111, 108], [86, 97, 114, 121], [86, 97, 114, 105, 97, 110, 116, 115], [86, 97, 114, 105, 97, 110, 116, 45, 75, 101, 121], [86, 105, 97]] : List Str).length, .row u1 9 1 ([[67, 111, 110, 110, 101, 99, 116, 105, 111, 110], [75, 101, 101, 112, 45, 65, 108, 105, 118, 101], [80, 114, 111, 120, 121, 45, 67, 111, 110, 110, 101, 99, 116, 105, 111, 110], [80, 114, 111, 120, 121, 45, 65, 117, 116, 104, 101, 110, 116, 105, 99, 97, 116, 101], [80, 114, 111, 120, 121, 45, 65, 117, 116, 104, 111, 114, 105, 122, 97, 116, 105, 111, 110], [84, 69], [84, 114, 97, 105, 108, 101, 114], [84, 114, 97, 110, 115, 102, 101, 114, 45, 69, 110, 99, 111, 100, 105, 110, 103], [67, 111, 110, 116, 101, 110, 116, 45, 76, 101, 110, 103, 116, 104], [85, 112, 103, 114, 97, 100, 101]] : List Str).length]) (([] : List GField), 0) out_29 hr37 ?_ ?_
  ·exact ⟨H14, .slice none 0 0, rfl, rfl, rfl, rfl, rfl, rfl, Rp_l, R5, R10, R16, Sl.nil, S⟩
  ·intro s f w hI y33 hy34 hy35
   obtain ⟨out_22, i_26⟩ := s
   obtain ⟨H17, v23, h18, h19, h20, h21, h25, h27, Rp_l, R5, R10, R16, R24, S⟩ := hI
   refine WP.s<|WP.s<|WP.g<|WL.m (int i_26) h27<|WL.m (vp_l) h18<|WL.w (R.lenL (α := GField) (xs := p_l) (H := H17) Rp_l rfl Tryz.underlying24)<|WL.w (R.lss rfl rfl)<|WL.e ?_
   rcases condE hy34 with ⟨hc38, hy34⟩ | ⟨hc38, hy34⟩
   ·refine WP.condT rfl hc38<|WP.skip<|WP.s<|WP.block<|WP.s<|WP.s<|WP.g<|WL.m (vp_l) h18<|WL.m (int i_26) h27 ?_
    obtain ⟨x39, hx39, hy34⟩ := bindE hy34
    refine W.idx (α := GField) Rp_l rfl rfl el24 hx39 ?_
    rintro a40 _ hA41 rfl
    refine WL.w (R.field rfl fld53_0) ?_
    have hA42 := At.add hA41 0 (by simp)
    refine WL.w (R.loadH (v := str x39.fName) S rfl hA42 lay9 rfl)<|WL.m (u1) h19 ?_
    obtain ⟨r43, hr43, hy34⟩ := bindE hy34
    refine W.call S rfl (ref19_among_ok S.holds (hG.post S.post) x39.fName ([[67, 111, 110, 110, 101, 99, 116, 105, 111, 110], [75, 101, 101, 112, 45, 65, 108, 105, 118, 101], [80, 114, 111, 120, 121, 45, 67, 111, 110, 110, 101, 99, 116, 105, 111, 110], [80, 114, 111, 120, 121, 45, 65, 117, 116, 104, 101, 110, 116, 105, 99, 97, 116, 101], [80, 114, 111, 120, 121, 45, 65, 117, 116, 104, 111, 114, 105, 122, 97, 116, 105, 111, 110], [84, 69], [84, 114, 97, 105, 108, 101, 114], [84, 114, 97, 110, 115, 102, 101, 114, 45, 69, 110, 99, 111, 100, 105, 110, 103], [67, 111, 110, 116, 101, 110, 116, 45, 76, 101, 110, 103, 116, 104], [85, 112, 103, 114, 97, 100, 101]] : List Str) R5 hr43) ?_
    rintro v44 w45 H46 hle47 S rfl
    have Rp_l := Sl.mono Rp_l hle47
    have R5 := Sl.mono R5 hle47
    have R10 := Sl.mono R10 hle47
    have R16 := Sl.mono R16 hle47
    have R24 := Sl.mono R24 hle47
    refine WL.m (boo r43) rfl ?_
    obtain ⟨b74, hg49, hy34⟩ := bindE hy34
    refine WL.grpw 18 [26, 27, 28, 29, 30, 31, 32, 33, 34, 35, 36, 37, 38, 39, 40, 41, 42] 43 (boo b74) (fun w => ∃ H' : Hp, H46.le H' ∧ St w0 H0 w H' [.row v23 53 2 out_22.length, .row u6 9 1 ([[72, 111, 115, 116], [67, 97, 99, 104, 101, 45, 67, 111, 110, 116, 114, 111, 108], [86, 97, 114, 121], [86, 97, 114, 105, 97, 110, 116, 115], [86, 97, 114, 105, 97, 110, 116, 45, 75, 101, 121], [86, 105, 97]] : List Str).length, .row u1 9 1 ([[67, 111, 110, 110, 101, 99, 116, 105, 111, 110], [75, 101, 101, 112, 45, 65, 108, 105, 118, 101], [80, 114, 111, 120, 121, 45, 67, 111, 110, 110, 101, 99, 116, 105, 111, 110], [80, 114, 111, 120, 121, 45, 65, 117, 116, 104, 101, 110, 116, 105, 99, 97, 116, 101], [80, 114, 111, 120, 121, 45, 65, 117, 116, 104, 111, 114, 105, 122, 97, 116, 105, 111, 110], [84, 69], [84, 114, 97, 105, 108, 101, 114], [84, 114, 97, 110, 115, 102, 101, 114, 45, 69, 110, 99, 111, 100, 105, 110, 103], [67, 111, 110, 116, 101, 110, 116, 45, 76, 101, 110, 103, 116, 104], [85, 112, 103, 114, 97, 100, 101]] : List Str).length]) ?_ ?_
    ·rcases boolE r43 with hb48 | hb48
     ·replace hg49 := condT hg49 hb48
      refine WL.n rfl rfl hb48<|WL.n rfl rfl hb48<|WL.n rfl rfl hb48<|WL.n rfl rfl hb48<|WL.n rfl rfl hb48<|WL.n rfl rfl hb48<|WL.n rfl rfl hb48<|WL.n rfl rfl hb48<|WL.gund rfl rfl<|WL.gund rfl rfl<|WL.gund rfl rfl<|WL.gund rfl rfl ?_
      refine WL.gund rfl rfl<|WL.gund rfl rfl<|WL.gund rfl rfl<|WL.gund rfl rfl<|WL.n rfl rfl hb48<|WL.w (R.pickT rfl hb48 rfl) ?_
      exact WL.e ⟨(congrArg boo (oi hg49)), ag, ⟨H46, (Hp.le.refl _), S⟩⟩
     ·replace hg49 := condF hg49 hb48
      refine WL.y rfl rfl hb48<|WL.m (vp_l) h18<|WL.y rfl rfl hb48<|WL.m (int i_26) h27<|WL.y rfl rfl hb48 ?_
      obtain ⟨x50, hx50, hg49⟩ := bindE hg49
      refine W.idx (α := GField) Rp_l rfl rfl el24 hx50 ?_
      rintro a51 _ hA52 rfl
      refine WL.y rfl rfl hb48<|WL.w (R.field rfl fld53_0) ?_
      have hA53 := At.add hA52 0 (by simp)
      refine WL.y rfl rfl hb48<|WL.w (R.loadH (v := str x50.fName) S rfl hA53 lay9 rfl)<|WL.y rfl rfl hb48<|WL.m (v12) h21<|WL.y rfl rfl hb48 ?_
      obtain ⟨r54, hr54, hg49⟩ := bindE hg49
      refine W.call S rfl (ref19_among_ok S.holds (hG.post S.post) x50.fName r11 R16 hr54) ?_
      rintro v55 w56 H57 hle58 S rfl
      have Rp_l := Sl.mono Rp_l hle58
      have R5 := Sl.mono R5 hle58
      have R10 := Sl.mono R10 hle58
      have R16 := Sl.mono R16 hle58
      have R24 := Sl.mono R24 hle58
      refine WL.y rfl rfl hb48<|WL.m (boo r54) rfl ?_
      obtain ⟨b70, hg60, hg49⟩ := bindE hg49
      refine WL.grpw 9 [34, 35, 36, 37, 38, 39, 40, 41] 42 (boo b70) (fun w => ∃ H' : Hp, H57.le H' ∧ St w0 H0 w H' [.row v23 53 2 out_22.length, .row u6 9 1 ([[72, 111, 115, 116], [67, 97, 99, 104, 101, 45, 67, 111, 110, 116, 114, 111, 108], [86, 97, 114, 121], [86, 97, 114, 105, 97, 110, 116, 115], [86, 97, 114, 105, 97, 110, 116, 45, 75, 101, 121], [86, 105, 97]] : List Str).length, .row u1 9 1 ([[67, 111, 110, 110, 101, 99, 116, 105, 111, 110], [75, 101, 101, 112, 45, 65, 108, 105, 118, 101], [80, 114, 111, 120, 121, 45, 67, 111, 110, 110, 101, 99, 116, 105, 111, 110], [80, 114, 111, 120, 121, 45, 65, 117, 116, 104, 101, 110, 116, 105, 99, 97, 116, 101], [80, 114, 111, 120, 121, 45, 65, 117, 116, 104, 111, 114, 105, 122, 97, 116, 105, 111, 110], [84, 69], [84, 114, 97, 105, 108, 101, 114], [84, 114, 97, 110, 115, 102, 101, 114, 45, 69, 110, 99, 111, 100, 105, 110, 103], [67, 111, 110, 116, 101, 110, 116, 45, 76, 101, 110, 103, 116, 104], [85, 112, 103, 114, 97, 100, 101]] : List Str).length]) ?_ ?_
      ·rcases boolE r54 with hb59 | hb59
       ·replace hg60 := condT hg60 hb59
        refine WL.y rfl rfl hb59<|WL.m (vp_l) h18<|WL.y rfl rfl hb59<|WL.m (int i_26) h27<|WL.y rfl rfl hb59 ?_
        obtain ⟨x61, hx61, hg60⟩ := bindE hg60
        refine W.idx (α := GField) Rp_l rfl rfl el24 hx61 ?_
        rintro a62 _ hA63 rfl
        refine WL.y rfl rfl hb59<|WL.w (R.field rfl fld53_0) ?_
        have hA64 := At.add hA63 0 (by simp)
        refine WL.y rfl rfl hb59<|WL.w (R.loadH (v := str x61.fName) S rfl hA64 lay9 rfl)<|WL.y rfl rfl hb59<|WL.m (u6) h20<|WL.y rfl rfl hb59 ?_
        obtain ⟨r65, hr65, hg60⟩ := bindE hg60
        refine W.call S rfl (ref19_among_ok S.holds (hG.post S.post) x61.fName ([[72, 111, 115, 116], [67, 97, 99, 104, 101, 45, 67, 111, 110, 116, 114, 111, 108], [86, 97, 114, 121], [86, 97, 114, 105, 97, 110, 116, 115], [86, 97, 114, 105, 97, 110, 116, 45, 75, 101, 121], [86, 105, 97]] : List Str) R10 hr65) ?_
        rintro v66 w67 H68 hle69 S rfl
        have Rp_l := Sl.mono Rp_l hle69
        have R5 := Sl.mono R5 hle69
        have R10 := Sl.mono R10 hle69
        have R16 := Sl.mono R16 hle69
        have R24 := Sl.mono R24 hle69
        refine WL.y rfl rfl hb59<|WL.w (R.not rfl)<|WL.y rfl rfl hb48<|WL.w (R.pickT rfl hb59 rfl) ?_
        exact WL.e ⟨(congrArg boo (oi hg60)), ag, ⟨H68, hle69, S⟩⟩
       ·replace hg60 := condF hg60 hb59
        refine WL.n rfl rfl hb59<|WL.n rfl rfl hb59<|WL.n rfl rfl hb59<|WL.n rfl rfl hb59<|WL.n rfl rfl hb59<|WL.n rfl rfl hb59<|WL.n rfl rfl hb59<|WL.n rfl rfl hb59<|WL.y rfl rfl hb48<|WL.w (R.pickF rfl hb59 rfl) ?_
        exact WL.e ⟨(congrArg boo (oi hg60)), ag, ⟨H57, (Hp.le.refl _), S⟩⟩
      ·intro us w72 ⟨H71, hle73, S⟩
       have Rp_l := Sl.mono Rp_l hle73
       have R5 := Sl.mono R5 hle73
       have R10 := Sl.mono R10 hle73
       have R16 := Sl.mono R16 hle73
       have R24 := Sl.mono R24 hle73
       refine WL.w (R.pickF rfl hb48 rfl) ?_
       exact WL.e ⟨(congrArg boo (oi hg49)), ag, ⟨H71, (hle58.trans hle73), S⟩⟩
    ·intro us w76 ⟨H75, hle77, S⟩
     have Rp_l := Sl.mono Rp_l hle77
     have R5 := Sl.mono R5 hle77
     have R10 := Sl.mono R10 hle77
     have R16 := Sl.mono R16 hle77
     have R24 := Sl.mono R24 hle77
     refine WL.e ?_
     rcases condE hy34 with ⟨hc78, hy34⟩ | ⟨hc78, hy34⟩
     ·refine WP.condT rfl hc78<|WP.exit<|WP.g<|WL.m (int i_26) h27<|WL.w (R.add rfl rfl)<|WL.a (int (wr (i_26 + 1))) rfl<|WL.e ?_
      obtain rfl := oi hy34
      exact ⟨rfl, ⟨H75, v23, h18, h19, h20, h21, h25, rfl, Rp_l, R5, R10, R16, R24, S⟩⟩
     ·refine WP.condF rfl hc78<|WP.skip<|WP.g<|WL.m (v23) h25<|WL.m (vp_l) h18<|WL.m (int i_26) h27 ?_
      obtain ⟨x79, hx79, hy34⟩ := bindE hy34
      refine W.idx (α := GField) Rp_l rfl rfl el24 hx79 ?_
      rintro a80 _ hA81 rfl
      refine WL.w (R.loadHN (vs := [(str x79.fName), (str x79.fValue)]) S rfl hA81 lay53 rfl rfl)<|W.bslice (α := GField) [(agg [(str x79.fName), (str x79.fValue)])] ([x79] : List GField) S el24 rfl rfl rfl (by decide) (Go.Eng.encS ⟨rfl, rfl⟩ enc0) ?_
      intro u82 w83 H84 hle85 R86 S
      have Rp_l := Sl.mono Rp_l hle85
      have R5 := Sl.mono R5 hle85
      have R10 := Sl.mono R10 hle85
      have R16 := Sl.mono R16 hle85
      have R24 := Sl.mono R24 hle85
      obtain ⟨l87, hl87, hy34⟩ := bindE hy34
      refine W.app (α := GField) (i := 1) S el24 rfl rfl rfl R24 R86 hl87 ?_
      intro v88 w89 H90 hle91 R92 S
      have Rp_l := Sl.mono Rp_l hle91
      have R5 := Sl.mono R5 hle91
      have R10 := Sl.mono R10 hle91
      have R16 := Sl.mono R16 hle91
      have R24 := Sl.mono R24 hle91
      refine WL.a (v88) rfl<|WL.e<|WP.g<|WL.m (int i_26) h27<|WL.w (R.add rfl rfl)<|WL.a (int (wr (i_26 + 1))) rfl<|WL.e ?_
      obtain rfl := oi hy34
      exact ⟨rfl, ⟨H90, v88, h18, h19, h20, h21, rfl, rfl, Rp_l, R5, R10, R16, R92, (S.drop _ (.cons _ (.cons_cons _ (.cons_cons _ (.cons_cons _ .slnil)))))⟩⟩
   ·refine WP.condF rfl hc38<|WP.exit ?_
    obtain rfl := oi hy34
    obtain rfl := hy35
    exact ⟨H17, v23, h25, R24, (S.drop _ (.cons_cons _ (.cons _ (.cons _ .slnil))))⟩
 ·rintro f w ⟨H28, v30, h32, R31, S⟩
  refine WP.s<|WP.g<|WL.m (v30) h32<|WL.a (v30) rfl<|WL.e ?_
  obtain rfl := oi h
  refine WP.ret (Out.one rfl S rfl ?_)
  exact R31
theorem ref01_Has_ok {w0 : World} {H0 : Hp} (hw : Holds w0 H0) (hG : Tryz.Gl w0) (p_l : (List GField)) (p_name : Str) {vp_l : Value} (Rp_l : Sl (α := GField) H0 vp_l p_l) {r : Bool} (h : ref01_Has p_l p_name = some r) :
  Con Tryz.prog 97 [vp_l, (str p_name)] w0 H0 (fun H' v => v = (boo r)) := by
 refine Con.mk (N := 10) Tryz.func97 rfl rfl (by kernel_rfl) rfl ?_
 have S := St.start hw
 refine WP.s<|WP.g<|WL.a (boo false) rfl<|WL.e<|WP.s<|WP.g<|WL.m (vp_l) rfl<|WL.m (str p_name) rfl ?_
 obtain ⟨r1, hr1, h⟩ := bindE h
 refine W.call S rfl (ref01_Get_ok S.holds (hG.post S.post) p_l p_name Rp_l hr1) ?_
 rintro v2 w3 H4 hle5 S R6
 refine WL.w (R.lenL (α := Str) (xs := r1) (H := H4) R6 rfl Tryz.underlying23)<|WL.w (R.gtr rfl rfl)<|WL.a (boo (decide (0 < (r1.length : Int)))) rfl<|WL.e ?_
 obtain rfl := oi h
 refine WP.ret (Out.one rfl S rfl ?_)
 exact rfl
theorem ref01_Index_ok {w0 : World} {H0 : Hp} (hw : Holds w0 H0) (hG : Tryz.Gl w0) (p_s : Str) (p_c : UInt8) (p_from : Int) {r : Int} (h : ref01_Index p_s p_c p_from = some r) :
  Con Tryz.prog 98 [(str p_s), (byt p_c), (int p_from)] w0 H0 (fun H' v => v = (int r)) := by
 refine Con.mk (N := 21) Tryz.func98 rfl rfl (by kernel_rfl) rfl ?_
 have S := St.start hw
 refine WP.s<|WP.g<|WL.a (int 0) rfl<|WL.e<|WP.s<|WP.s<|WP.g<|WL.m (int p_from) rfl<|WL.a (int p_from) rfl<|WL.e ?_
 obtain ⟨r10, hr11, h⟩ := bindE h
 refine WP.cut (fun f w => match r10 with | .inl _ => ∃ (H6 : Hp), St w0 H0 w H6 [] | .inr _ => False) ?_ ?_
 ·refine WP.block ?_
  refine WP.loopM (ref01_Index_L0 p_s p_c) (fun s f w => match s with | i_4 => ∃ (H1 : Hp), f 0 = (str p_s) ∧ f 1 = (byt p_c) ∧ f 7 = (int i_4) ∧ St w0 H0 w H1 []) p_from r10 hr11 ?_ ?_
  ·exact ⟨H0, rfl, rfl, rfl, S⟩
  ·intro i_4 f w hI y7 hy8 hy9
   obtain ⟨H1, h2, h3, h5, S⟩ := hI
   refine WP.s<|WP.s<|WP.g<|WL.m (int i_4) h5<|WL.m (str p_s) h2<|WL.w (R.lenS (a := p_s) rfl Tryz.underlying9)<|WL.w (R.lss rfl rfl)<|WL.e ?_
   rcases condE hy8 with ⟨hc12, hy8⟩ | ⟨hc12, hy8⟩
   ·refine WP.condT rfl hc12<|WP.skip<|WP.s<|WP.block<|WP.s<|WP.g<|WL.m (str p_s) h2<|WL.m (int i_4) h5 ?_
    obtain ⟨c13, hc13, hy8⟩ := bindE hy8
    refine WL.w (R.idxS rfl rfl Tryz.underlying9 hc13)<|WL.m (byt p_c) h3<|WL.w (R.eql8 (a := c13) (b := p_c) rfl rfl)<|WL.e ?_
    rcases condE hy8 with ⟨hc14, hy8⟩ | ⟨hc14, hy8⟩
    ·refine WP.condT rfl hc14<|WP.s<|WP.g<|WL.m (int i_4) h5<|WL.a (int i_4) rfl<|WL.e ?_
     obtain rfl := oi hy8
     obtain rfl := hy9
     obtain rfl := oi h
     refine WP.ret (Out.one rfl S rfl ?_)
     exact rfl
    ·refine WP.condF rfl hc14<|WP.skip<|WP.g<|WL.m (int i_4) h5<|WL.w (R.add rfl rfl)<|WL.a (int (wr (i_4 + 1))) rfl<|WL.e ?_
     obtain rfl := oi hy8
     exact ⟨rfl, ⟨H1, h2, h3, rfl, S⟩⟩
   ·refine WP.condF rfl hc12<|WP.exit ?_
    obtain rfl := oi hy8
    obtain rfl := hy9
    exact ⟨H1, S⟩
 ·intro f w hM
  rcases r10 with _ | e
  ·obtain ⟨H6, S⟩ := hM
   refine WP.s<|WP.g<|WL.a (int (-1)) rfl<|WL.e ?_
   obtain rfl := oi h
   refine WP.ret (Out.one rfl S rfl ?_)
   exact rfl
  ·exact hM.elim
theorem ref01_TokenByte_ok {w0 : World} {H0 : Hp} (hw : Holds w0 H0) (hG : Tryz.Gl w0) (p_c : UInt8) {r : Bool} (h : ref01_TokenByte p_c = some r) :
  Con Tryz.prog 145 [(byt p_c)] w0 H0 (fun H' v => v = (boo r)) := by
 refine Con.mk (N := 34) Tryz.func145 rfl rfl (by kernel_rfl) rfl ?_
 have S := St.start hw
 refine WP.s<|WP.g<|WL.a (boo false) rfl<|WL.e<|WP.s<|WP.s<|WP.g<|WL.m (byt p_c) rfl<|WL.w (R.geq8 (a := p_c) (b := 97) rfl rfl)<|WL.m (boo (decide (97 ≤ p_c))) rfl ?_
 refine WL.grp 3 [7, 8] 9 (boo ((decide (97 ≤ p_c)) && (decide (p_c ≤ 122)))) ?_ ?_
 ·rcases boolE (decide (97 ≤ p_c)) with hb1 | hb1
  ·refine WL.y rfl rfl hb1<|WL.m (byt p_c) rfl<|WL.y rfl rfl hb1<|WL.w (R.leq8 (a := p_c) (b := 122) rfl rfl)<|WL.w (R.pickT rfl hb1 rfl) ?_
   exact WL.e ⟨(andT hb1), ag, rfl⟩
  ·refine WL.n rfl rfl hb1<|WL.n rfl rfl hb1<|WL.w (R.pickF rfl hb1 rfl) ?_
   exact WL.e ⟨(andF hb1), ag, rfl⟩
 ·intro us
  refine WL.m (boo ((decide (97 ≤ p_c)) && (decide (p_c ≤ 122)))) rfl ?_
  refine WL.grp 7 [11, 12, 13, 14, 15, 16] 17 (boo (((decide (97 ≤ p_c)) && (decide (p_c ≤ 122))) || ((decide (65 ≤ p_c)) && (decide (p_c ≤ 90))))) ?_ ?_
  ·rcases boolE ((decide (97 ≤ p_c)) && (decide (p_c ≤ 122))) with hb3 | hb3
   ·refine WL.n rfl rfl hb3<|WL.n rfl rfl hb3<|WL.n rfl rfl hb3<|WL.gund rfl rfl<|WL.gund rfl rfl<|WL.n rfl rfl hb3<|WL.w (R.pickT rfl hb3 rfl) ?_
    exact WL.e ⟨(orT hb3), ag, rfl⟩
   ·refine WL.y rfl rfl hb3<|WL.m (byt p_c) rfl<|WL.y rfl rfl hb3<|WL.w (R.geq8 (a := p_c) (b := 65) rfl rfl)<|WL.y rfl rfl hb3<|WL.m (boo (decide (65 ≤ p_c))) rfl ?_
    refine WL.grp 3 [14, 15] 16 (boo ((decide (65 ≤ p_c)) && (decide (p_c ≤ 90)))) ?_ ?_
    ·rcases boolE (decide (65 ≤ p_c)) with hb5 | hb5
     ·refine WL.y rfl rfl hb5<|WL.m (byt p_c) rfl<|WL.y rfl rfl hb5<|WL.w (R.leq8 (a := p_c) (b := 90) rfl rfl)<|WL.y rfl rfl hb3<|WL.w (R.pickT rfl hb5 rfl) ?_
      exact WL.e ⟨(andT hb5), ag, rfl⟩
     ·refine WL.n rfl rfl hb5<|WL.n rfl rfl hb5<|WL.y rfl rfl hb3<|WL.w (R.pickF rfl hb5 rfl) ?_
      exact WL.e ⟨(andF hb5), ag, rfl⟩
    ·intro us
     refine WL.w (R.pickF rfl hb3 rfl) ?_
     exact WL.e ⟨(orF hb3), ag, rfl⟩
  ·intro us
   refine WL.m (boo (((decide (97 ≤ p_c)) && (decide (p_c ≤ 122))) || ((decide (65 ≤ p_c)) && (decide (p_c ≤ 90))))) rfl ?_
   refine WL.grp 7 [19, 20, 21, 22, 23, 24] 25 (boo ((((decide (97 ≤ p_c)) && (decide (p_c ≤ 122))) || ((decide (65 ≤ p_c)) && (decide (p_c ≤ 90)))) || ((decide (48 ≤ p_c)) && (decide (p_c ≤ 57))))) ?_ ?_
   ·rcases boolE (((decide (97 ≤ p_c)) && (decide (p_c ≤ 122))) || ((decide (65 ≤ p_c)) && (decide (p_c ≤ 90)))) with hb7 | hb7
    ·refine WL.n rfl rfl hb7<|WL.n rfl rfl hb7<|WL.n rfl rfl hb7<|WL.gund rfl rfl<|WL.gund rfl rfl<|WL.n rfl rfl hb7<|WL.w (R.pickT rfl hb7 rfl) ?_
     exact WL.e ⟨(orT hb7), ag, rfl⟩
    ·refine WL.y rfl rfl hb7<|WL.m (byt p_c) rfl<|WL.y rfl rfl hb7<|WL.w (R.geq8 (a := p_c) (b := 48) rfl rfl)<|WL.y rfl rfl hb7<|WL.m (boo (decide (48 ≤ p_c))) rfl ?_
     refine WL.grp 3 [22, 23] 24 (boo ((decide (48 ≤ p_c)) && (decide (p_c ≤ 57)))) ?_ ?_
     ·rcases boolE (decide (48 ≤ p_c)) with hb9 | hb9
      ·refine WL.y rfl rfl hb9<|WL.m (byt p_c) rfl<|WL.y rfl rfl hb9<|WL.w (R.leq8 (a := p_c) (b := 57) rfl rfl)<|WL.y rfl rfl hb7<|WL.w (R.pickT rfl hb9 rfl) ?_
       exact WL.e ⟨(andT hb9), ag, rfl⟩
      ·refine WL.n rfl rfl hb9<|WL.n rfl rfl hb9<|WL.y rfl rfl hb7<|WL.w (R.pickF rfl hb9 rfl) ?_
       exact WL.e ⟨(andF hb9), ag, rfl⟩
     ·intro us
      refine WL.w (R.pickF rfl hb7 rfl) ?_
      exact WL.e ⟨(orF hb7), ag, rfl⟩
   ·intro us
    refine WL.e ?_
    rcases condE h with ⟨hc11, h⟩ | ⟨hc11, h⟩
    ·refine WP.condT rfl hc11<|WP.s<|WP.g<|WL.a (boo true) rfl<|WL.e ?_
     obtain rfl := oi h
     refine WP.ret (Out.one rfl S rfl ?_)
     exact rfl
    ·refine WP.condF rfl hc11<|WP.skip<|WP.s<|WP.s<|WP.g<|WL.a (int 0) rfl<|WL.e ?_
     obtain ⟨r20, hr21, h⟩ := bindE h
     refine WP.cut (fun f w => match r20 with | .inl _ => ∃ (H16 : Hp), St w0 H0 w H16 [] | .inr _ => False) ?_ ?_
     ·refine WP.block ?_
      refine WP.loopM (ref01_TokenByte_L0 p_c) (fun s f w => match s with | i_14 => ∃ (H12 : Hp), f 0 = (byt p_c) ∧ f 3 = (int i_14) ∧ St w0 H0 w H12 []) 0 r20 hr21 ?_ ?_
      ·exact ⟨H0, rfl, rfl, S⟩
      ·intro i_14 f w hI y17 hy18 hy19
       obtain ⟨H12, h13, h15, S⟩ := hI
       refine WP.s<|WP.s<|WP.g<|WL.m (int i_14) h15<|WL.w (R.lss rfl rfl)<|WL.e ?_
       rcases condE hy18 with ⟨hc22, hy18⟩ | ⟨hc22, hy18⟩
       ·refine WP.condT rfl hc22<|WP.skip<|WP.s<|WP.block<|WP.s<|WP.g<|WL.m (int i_14) h15 ?_
        obtain ⟨c23, hc23, hy18⟩ := bindE hy18
        refine WL.w (R.idxS rfl rfl Tryz.underlying9 hc23)<|WL.m (byt p_c) h13<|WL.w (R.eql8 (a := c23) (b := p_c) rfl rfl)<|WL.e ?_
        rcases condE hy18 with ⟨hc24, hy18⟩ | ⟨hc24, hy18⟩
        ·refine WP.condT rfl hc24<|WP.s<|WP.g<|WL.a (boo true) rfl<|WL.e ?_
         obtain rfl := oi hy18
         obtain rfl := hy19
         obtain rfl := oi h
         refine WP.ret (Out.one rfl S rfl ?_)
         exact rfl
        ·refine WP.condF rfl hc24<|WP.skip<|WP.g<|WL.m (int i_14) h15<|WL.w (R.add rfl rfl)<|WL.a (int (wr (i_14 + 1))) rfl<|WL.e ?_
         obtain rfl := oi hy18
         exact ⟨rfl, ⟨H12, h13, rfl, S⟩⟩
       ·refine WP.condF rfl hc22<|WP.exit ?_
        obtain rfl := oi hy18
        obtain rfl := hy19
        exact ⟨H12, S⟩
     ·intro f w hM
      rcases r20 with _ | e
      ·obtain ⟨H16, S⟩ := hM
       refine WP.s<|WP.g<|WL.a (boo false) rfl<|WL.e ?_
       obtain rfl := oi h
       refine WP.ret (Out.one rfl S rfl ?_)
       exact rfl
      ·exact hM.elim
theorem ref01_Token_ok {w0 : World} {H0 : Hp} (hw : Holds w0 H0) (hG : Tryz.Gl w0) (p_s : Str) {r : Bool} (h : ref01_Token p_s = some r) :
  Con Tryz.prog 99 [(str p_s)] w0 H0 (fun H' v => v = (boo r)) := by
 refine Con.mk (N := 17) Tryz.func99 rfl rfl (by kernel_rfl) rfl ?_
 have S := St.start hw
 refine WP.s<|WP.g<|WL.a (boo false) rfl<|WL.e<|WP.s<|WP.s<|WP.g<|WL.a (int 0) rfl<|WL.e ?_
 obtain ⟨r10, hr11, h⟩ := bindE h
 refine WP.cut (fun f w => match r10 with | .inl _ => ∃ (H5 : Hp), f 0 = (str p_s) ∧ St w0 H0 w H5 [] | .inr _ => False) ?_ ?_
 ·refine WP.block ?_
  refine WP.loopM (ref01_Token_L0 p_s) (fun s f w => match s with | i_3 => ∃ (H1 : Hp), f 0 = (str p_s) ∧ f 3 = (int i_3) ∧ St w0 H0 w H1 []) 0 r10 hr11 ?_ ?_
  ·exact ⟨H0, rfl, rfl, S⟩
  ·intro i_3 f w hI y7 hy8 hy9
   obtain ⟨H1, h2, h4, S⟩ := hI
   refine WP.s<|WP.s<|WP.g<|WL.m (int i_3) h4<|WL.m (str p_s) h2<|WL.w (R.lenS (a := p_s) rfl Tryz.underlying9)<|WL.w (R.lss rfl rfl)<|WL.e ?_
   rcases condE hy8 with ⟨hc12, hy8⟩ | ⟨hc12, hy8⟩
   ·refine WP.condT rfl hc12<|WP.skip<|WP.s<|WP.block<|WP.s<|WP.g<|WL.m (str p_s) h2<|WL.m (int i_3) h4 ?_
    obtain ⟨c13, hc13, hy8⟩ := bindE hy8
    refine WL.w (R.idxS rfl rfl Tryz.underlying9 hc13) ?_
    obtain ⟨r14, hr14, hy8⟩ := bindE hy8
    refine W.call S rfl (ref01_TokenByte_ok S.holds (hG.post S.post) c13 hr14) ?_
    rintro v15 w16 H17 hle18 S rfl
    refine WL.w (R.not rfl)<|WL.e ?_
    rcases condE hy8 with ⟨hc19, hy8⟩ | ⟨hc19, hy8⟩
    ·refine WP.condT rfl hc19<|WP.s<|WP.g<|WL.a (boo false) rfl<|WL.e ?_
     obtain rfl := oi hy8
     obtain rfl := hy9
     obtain rfl := oi h
     refine WP.ret (Out.one rfl S rfl ?_)
     exact rfl
    ·refine WP.condF rfl hc19<|WP.skip<|WP.g<|WL.m (int i_3) h4<|WL.w (R.add rfl rfl)<|WL.a (int (wr (i_3 + 1))) rfl<|WL.e ?_
     obtain rfl := oi hy8
     exact ⟨rfl, ⟨H17, h2, rfl, S⟩⟩
   ·refine WP.condF rfl hc12<|WP.exit ?_
    obtain rfl := oi hy8
    obtain rfl := hy9
    exact ⟨H1, h2, S⟩
 ·intro f w hM
  rcases r10 with _ | e
  ·obtain ⟨H5, h6, S⟩ := hM
   refine WP.s<|WP.g<|WL.m (str p_s) h6<|WL.w (R.neqS (a := p_s) (b := []) rfl rfl)<|WL.a (boo (p_s != [])) rfl<|WL.e ?_
   obtain rfl := oi h
   refine WP.ret (Out.one rfl S rfl ?_)
   exact rfl
  ·exact hM.elim
theorem ref01_textByte_ok {w0 : World} {H0 : Hp} (hw : Holds w0 H0) (hG : Tryz.Gl w0) (p_c : UInt8) {r : Bool} (h : ref01_textByte p_c = some r) :
  Con Tryz.prog 124 [(byt p_c)] w0 H0 (fun H' v => v = (boo r)) := by
 refine Con.mk (N := 17) Tryz.func124 rfl rfl (by kernel_rfl) rfl ?_
 have S := St.start hw
 refine WP.s<|WP.g<|WL.a (boo false) rfl<|WL.e<|WP.s<|WP.g<|WL.m (byt p_c) rfl<|WL.w (R.eql8 (a := p_c) (b := 9) rfl rfl)<|WL.m (boo (p_c == 9)) rfl ?_
 refine WL.grp 7 [6, 7, 8, 9, 10, 11] 12 (boo ((p_c == 9) || ((decide (32 ≤ p_c)) && (decide (p_c ≤ 126))))) ?_ ?_
 ·rcases boolE (p_c == 9) with hb1 | hb1
  ·refine WL.n rfl rfl hb1<|WL.n rfl rfl hb1<|WL.n rfl rfl hb1<|WL.gund rfl rfl<|WL.gund rfl rfl<|WL.n rfl rfl hb1<|WL.w (R.pickT rfl hb1 rfl) ?_
   exact WL.e ⟨(orT hb1), ag, rfl⟩
  ·refine WL.y rfl rfl hb1<|WL.m (byt p_c) rfl<|WL.y rfl rfl hb1<|WL.w (R.geq8 (a := p_c) (b := 32) rfl rfl)<|WL.y rfl rfl hb1<|WL.m (boo (decide (32 ≤ p_c))) rfl ?_
   refine WL.grp 3 [9, 10] 11 (boo ((decide (32 ≤ p_c)) && (decide (p_c ≤ 126)))) ?_ ?_
   ·rcases boolE (decide (32 ≤ p_c)) with hb3 | hb3
    ·refine WL.y rfl rfl hb3<|WL.m (byt p_c) rfl<|WL.y rfl rfl hb3<|WL.w (R.leq8 (a := p_c) (b := 126) rfl rfl)<|WL.y rfl rfl hb1<|WL.w (R.pickT rfl hb3 rfl) ?_
     exact WL.e ⟨(andT hb3), ag, rfl⟩
    ·refine WL.n rfl rfl hb3<|WL.n rfl rfl hb3<|WL.y rfl rfl hb1<|WL.w (R.pickF rfl hb3 rfl) ?_
     exact WL.e ⟨(andF hb3), ag, rfl⟩
   ·intro us
    refine WL.w (R.pickF rfl hb1 rfl) ?_
    exact WL.e ⟨(orF hb1), ag, rfl⟩
 ·intro us
  refine WL.m (boo ((p_c == 9) || ((decide (32 ≤ p_c)) && (decide (p_c ≤ 126))))) rfl ?_
  refine WL.grp 3 [14, 15] 16 (boo (((p_c == 9) || ((decide (32 ≤ p_c)) && (decide (p_c ≤ 126)))) || (decide (128 ≤ p_c)))) ?_ ?_
  ·rcases boolE ((p_c == 9) || ((decide (32 ≤ p_c)) && (decide (p_c ≤ 126)))) with hb5 | hb5
   ·refine WL.n rfl rfl hb5<|WL.n rfl rfl hb5<|WL.w (R.pickT rfl hb5 rfl) ?_
    exact WL.e ⟨(orT hb5), ag, rfl⟩
   ·refine WL.y rfl rfl hb5<|WL.m (byt p_c) rfl<|WL.y rfl rfl hb5<|WL.w (R.geq8 (a := p_c) (b := 128) rfl rfl)<|WL.w (R.pickF rfl hb5 rfl) ?_
    exact WL.e ⟨(orF hb5), ag, rfl⟩
  ·intro us
   refine WL.a (boo (((p_c == 9) || ((decide (32 ≤ p_c)) && (decide (p_c ≤ 126)))) || (decide (128 ≤ p_c)))) rfl<|WL.e ?_
   obtain rfl := oi h
   refine WP.ret (Out.one rfl S rfl ?_)
   exact rfl
theorem ref01_Unquote_ok {w0 : World} {H0 : Hp} (hw : Holds w0 H0) (hG : Tryz.Gl w0) (p_s : Str) {r : (Str × Bool)} (h : ref01_Unquote p_s = some r) :
  Con Tryz.prog 146 [(str p_s)] w0 H0 (fun H' v => v = (.tuple ⟨[(str r.1), (boo r.2)]⟩)) := by
 refine Con.mk (N := 60) Tryz.func146 rfl rfl (by kernel_rfl) rfl ?_
 have S := St.start hw
 refine WP.s<|WP.g<|WL.a (str []) rfl<|WL.a (boo false) rfl<|WL.e<|WP.s<|WP.s<|WP.g<|WL.m (str p_s) rfl<|WL.w (R.lenS (a := p_s) rfl Tryz.underlying9)<|WL.w (R.lss rfl rfl)<|WL.m (boo (decide ((p_s.length : Int) < 2))) rfl ?_
 obtain ⟨b4, hg2, h⟩ := bindE h
 refine WL.grp 4 [10, 11, 12] 13 (boo b4) ?_ ?_
 ·rcases boolE (decide ((p_s.length : Int) < 2)) with hb1 | hb1
  ·replace hg2 := condT hg2 hb1
   refine WL.n rfl rfl hb1<|WL.n rfl rfl hb1<|WL.n rfl rfl hb1<|WL.w (R.pickT rfl hb1 rfl) ?_
   exact WL.e ⟨(congrArg boo (oi hg2)), ag, rfl⟩
  ·replace hg2 := condF hg2 hb1
   refine WL.y rfl rfl hb1<|WL.m (str p_s) rfl<|WL.y rfl rfl hb1 ?_
   obtain ⟨c3, hc3, hg2⟩ := bindE hg2
   refine WL.w (R.idxS rfl rfl Tryz.underlying9 hc3)<|WL.y rfl rfl hb1<|WL.w (R.neq8 (a := c3) (b := 34) rfl rfl)<|WL.w (R.pickF rfl hb1 rfl) ?_
   exact WL.e ⟨(congrArg boo (oi hg2)), ag, rfl⟩
 ·intro us
  refine WL.m (boo b4) rfl ?_
  obtain ⟨b8, hg6, h⟩ := bindE h
  refine WL.grp 7 [15, 16, 17, 18, 19, 20] 21 (boo b8) ?_ ?_
  ·rcases boolE b4 with hb5 | hb5
   ·replace hg6 := condT hg6 hb5
    refine WL.n rfl rfl hb5<|WL.n rfl rfl hb5<|WL.n rfl rfl hb5<|WL.n rfl rfl hb5<|WL.n rfl rfl hb5<|WL.n rfl rfl hb5<|WL.w (R.pickT rfl hb5 rfl) ?_
    exact WL.e ⟨(congrArg boo (oi hg6)), ag, rfl⟩
   ·replace hg6 := condF hg6 hb5
    refine WL.y rfl rfl hb5<|WL.m (str p_s) rfl<|WL.y rfl rfl hb5<|WL.m (str p_s) rfl<|WL.y rfl rfl hb5<|WL.w (R.lenS (a := p_s) rfl Tryz.underlying9)<|WL.y rfl rfl hb5<|WL.w (R.sub rfl rfl)<|WL.y rfl rfl hb5 ?_
    obtain ⟨c7, hc7, hg6⟩ := bindE hg6
    refine WL.w (R.idxS rfl rfl Tryz.underlying9 hc7)<|WL.y rfl rfl hb5<|WL.w (R.neq8 (a := c7) (b := 34) rfl rfl)<|WL.w (R.pickF rfl hb5 rfl) ?_
    exact WL.e ⟨(congrArg boo (oi hg6)), ag, rfl⟩
  ·intro us
   refine WL.e ?_
   rcases condE h with ⟨hc9, h⟩ | ⟨hc9, h⟩
   ·refine WP.condT rfl hc9<|WP.s<|WP.g<|WL.a (str []) rfl<|WL.a (boo false) rfl<|WL.e ?_
    obtain rfl := oi h
    refine WP.ret (Out.two rfl S rfl rfl ?_)
    exact rfl
   ·refine WP.condF rfl hc9<|WP.skip<|WP.s<|WP.g<|WL.m (str p_s) rfl<|WL.m (str p_s) rfl<|WL.w (R.lenS (a := p_s) rfl Tryz.underlying9)<|WL.w (R.sub rfl rfl) ?_
    obtain ⟨s10, hs10, h⟩ := bindE h
    refine WL.w (R.subS rfl rfl rfl Tryz.underlying9 hs10)<|WL.a (str s10) rfl<|WL.e<|WP.s<|WP.g<|WL.a (.slice none 0 0) rfl<|WL.e<|WP.s<|WP.s<|WP.g<|WL.a (int 0) rfl<|WL.e ?_
    have S := S.addNil 5 1
    obtain ⟨r27, hr28, h⟩ := bindE h
    refine WP.cut (fun f w => match r27 with | .inl b_20 => ∃ (H19 : Hp) (v21 : Value), f 4 = v21 ∧ Sl (α := UInt8) H19 v21 b_20 ∧ St w0 H0 w H19 [.row v21 5 1 b_20.length] | .inr _ => False) ?_ ?_
    ·refine WP.block ?_
     refine WP.loopM (ref01_Unquote_L0 s10) (fun s f w => match s with | (b_13, i_17) => ∃ (H11 : Hp) (v14 : Value), f 0 = (str s10) ∧ f 4 = v14 ∧ f 5 = (int i_17) ∧ Sl (α := UInt8) H11 v14 b_13 ∧ St w0 H0 w H11 [.row v14 5 1 b_13.length]) (([] : List UInt8), 0) r27 hr28 ?_ ?_
     ·exact ⟨H0, .slice none 0 0, rfl, rfl, rfl, Sl.nil, S⟩
     ·intro s f w hI y24 hy25 hy26
      obtain ⟨b_13, i_17⟩ := s
      obtain ⟨H11, v14, h12, h16, h18, R15, S⟩ := hI
      refine WP.s<|WP.s<|WP.g<|WL.m (int i_17) h18<|WL.m (str s10) h12<|WL.w (R.lenS (a := s10) rfl Tryz.underlying9)<|WL.w (R.lss rfl rfl)<|WL.e ?_
      rcases condE hy25 with ⟨hc29, hy25⟩ | ⟨hc29, hy25⟩
      ·refine WP.condT rfl hc29<|WP.skip<|WP.s<|WP.block<|WP.s<|WP.s<|WP.g<|WL.m (str s10) h12<|WL.m (int i_17) h18 ?_
       obtain ⟨c30, hc30, hy25⟩ := bindE hy25
       refine WL.w (R.idxS rfl rfl Tryz.underlying9 hc30)<|WL.w (R.eql8 (a := c30) (b := 34) rfl rfl)<|WL.e ?_
       rcases condE hy25 with ⟨hc31, hy25⟩ | ⟨hc31, hy25⟩
       ·refine WP.condT rfl hc31<|WP.s<|WP.g<|WL.a (str []) rfl<|WL.a (boo false) rfl<|WL.e ?_
        obtain rfl := oi hy25
        obtain rfl := hy26
        obtain rfl := oi h
        refine WP.ret (Out.two rfl S rfl rfl ?_)
        exact rfl
       ·refine WP.condF rfl hc31<|WP.skip<|WP.s<|WP.s<|WP.g<|WL.m (str s10) h12<|WL.m (int i_17) h18 ?_
        obtain ⟨c32, hc32, hy25⟩ := bindE hy25
        refine WL.w (R.idxS rfl rfl Tryz.underlying9 hc32)<|WL.w (R.eql8 (a := c32) (b := 92) rfl rfl)<|WL.e ?_
        obtain ⟨j39, hj38, hy25⟩ := bindE hy25
        refine WP.cut (fun f w => match j39 with | .inl i_36 => ∃ (H33 : Hp), f 0 = (str s10) ∧ f 4 = v14 ∧ f 5 = (int i_36) ∧ Sl (α := UInt8) H33 v14 b_13 ∧ St w0 H0 w H33 [.row v14 5 1 b_13.length] | .inr _ => False) ?_ ?_
        ·rcases condE hj38 with ⟨hc40, hj38⟩ | ⟨hc40, hj38⟩
         ·refine WP.condT rfl hc40<|WP.s<|WP.g<|WL.m (int i_17) h18<|WL.w (R.add rfl rfl)<|WL.a (int (wr (i_17 + 1))) rfl<|WL.e<|WP.s<|WP.g<|WL.m (int (wr (i_17 + 1))) rfl<|WL.m (str s10) h12<|WL.w (R.lenS (a := s10) rfl Tryz.underlying9) ?_
          refine WL.w (R.eql rfl rfl)<|WL.e ?_
          rcases condE hj38 with ⟨hc41, hj38⟩ | ⟨hc41, hj38⟩
          ·refine WP.condT rfl hc41<|WP.s<|WP.g<|WL.a (str []) rfl<|WL.a (boo false) rfl<|WL.e ?_
           obtain rfl := oi hj38
           obtain rfl := oi hy25
           obtain rfl := hy26
           obtain rfl := oi h
           refine WP.ret (Out.two rfl S rfl rfl ?_)
           exact rfl
          ·refine WP.condF rfl hc41<|WP.skip ?_
           obtain rfl := oi hj38
           exact ⟨H11, h12, h16, rfl, R15, S⟩
         ·refine WP.condF rfl hc40<|WP.skip ?_
          obtain rfl := oi hj38
          exact ⟨H11, h12, h16, h18, R15, S⟩
        ·intro f w hM
         rcases j39 with i_36 | e
         ·obtain ⟨H33, h34, h35, h37, R15, S⟩ := hM
          refine WP.s<|WP.s<|WP.g<|WL.m (str s10) h34<|WL.m (int i_36) h37 ?_
          obtain ⟨c42, hc42, hy25⟩ := bindE hy25
          refine WL.w (R.idxS rfl rfl Tryz.underlying9 hc42) ?_
          obtain ⟨r43, hr43, hy25⟩ := bindE hy25
          refine W.call S rfl (ref01_textByte_ok S.holds (hG.post S.post) c42 hr43) ?_
          rintro v44 w45 H46 hle47 S rfl
          have R15 := Sl.mono R15 hle47
          refine WL.w (R.not rfl)<|WL.e ?_
          rcases condE hy25 with ⟨hc48, hy25⟩ | ⟨hc48, hy25⟩
          ·refine WP.condT rfl hc48<|WP.s<|WP.g<|WL.a (str []) rfl<|WL.a (boo false) rfl<|WL.e ?_
           obtain rfl := oi hy25
           obtain rfl := hy26
           obtain rfl := oi h
           refine WP.ret (Out.two rfl S rfl rfl ?_)
           exact rfl
          ·refine WP.condF rfl hc48<|WP.skip<|WP.g<|WL.m (v14) h35<|WL.m (str s10) h34<|WL.m (int i_36) h37 ?_
           obtain ⟨c49, hc49, hy25⟩ := bindE hy25
           refine WL.w (R.idxS rfl rfl Tryz.underlying9 hc49)<|W.bslice (α := UInt8) [(byt c49)] ([c49] : List UInt8) S el130 rfl rfl rfl (by decide) (Go.Eng.encS ⟨rfl, rfl⟩ enc0) ?_
           intro u50 w51 H52 hle53 R54 S
           have R15 := Sl.mono R15 hle53
           obtain ⟨l55, hl55, hy25⟩ := bindE hy25
           refine W.app (α := UInt8) (i := 1) S el130 rfl rfl rfl R15 R54 hl55 ?_
           intro v56 w57 H58 hle59 R60 S
           have R15 := Sl.mono R15 hle59
           refine WL.a (v56) rfl<|WL.e<|WP.g<|WL.m (int i_36) h37<|WL.w (R.add rfl rfl)<|WL.a (int (wr (i_36 + 1))) rfl<|WL.e ?_
           obtain rfl := oi hy25
           exact ⟨rfl, ⟨H58, v56, h34, rfl, rfl, R60, (S.drop _ (.cons _ (.cons_cons _ .slnil)))⟩⟩
         ·exact hM.elim
      ·refine WP.condF rfl hc29<|WP.exit ?_
       obtain rfl := oi hy25
       obtain rfl := hy26
       exact ⟨H11, v14, h16, R15, S⟩
    ·intro f w hM
     rcases r27 with b_20 | e
     ·obtain ⟨H19, v21, h23, R22, S⟩ := hM
      refine WP.s<|WP.g<|WL.m (v21) h23<|WL.w (R.strL S R22 rfl Tryz.underlying130 Tryz.underlying9 Tryz.underlying5)<|WL.a (str b_20) rfl<|WL.a (boo true) rfl<|WL.e ?_
      obtain rfl := oi h
      refine WP.ret (Out.two rfl S rfl rfl ?_)
      exact rfl
     ·exact hM.elim
theorem ref10_plain_ok {w0 : World} {H0 : Hp} (hw : Holds w0 H0) (hG : Tryz.Gl w0) (p_c : UInt8) {r : Bool} (h : ref10_plain p_c = some r) :
  Con Tryz.prog 147 [(byt p_c)] w0 H0 (fun H' v => v = (boo r)) := by
 refine Con.mk (N := 25) Tryz.func147 rfl rfl (by kernel_rfl) rfl ?_
 have S := St.start hw
 refine WP.s<|WP.g<|WL.a (boo false) rfl<|WL.e<|WP.s<|WP.g<|WL.m (byt p_c) rfl<|WL.w (R.neq8 (a := p_c) (b := 32) rfl rfl)<|WL.m (boo (p_c != 32)) rfl ?_
 refine WL.grp 3 [6, 7] 8 (boo ((p_c != 32) && (p_c != 9))) ?_ ?_
 ·rcases boolE (p_c != 32) with hb1 | hb1
  ·refine WL.y rfl rfl hb1<|WL.m (byt p_c) rfl<|WL.y rfl rfl hb1<|WL.w (R.neq8 (a := p_c) (b := 9) rfl rfl)<|WL.w (R.pickT rfl hb1 rfl) ?_
   exact WL.e ⟨(andT hb1), ag, rfl⟩
  ·refine WL.n rfl rfl hb1<|WL.n rfl rfl hb1<|WL.w (R.pickF rfl hb1 rfl) ?_
   exact WL.e ⟨(andF hb1), ag, rfl⟩
 ·intro us
  refine WL.m (boo ((p_c != 32) && (p_c != 9))) rfl ?_
  refine WL.grp 3 [10, 11] 12 (boo (((p_c != 32) && (p_c != 9)) && (p_c != 40))) ?_ ?_
  ·rcases boolE ((p_c != 32) && (p_c != 9)) with hb3 | hb3
   ·refine WL.y rfl rfl hb3<|WL.m (byt p_c) rfl<|WL.y rfl rfl hb3<|WL.w (R.neq8 (a := p_c) (b := 40) rfl rfl)<|WL.w (R.pickT rfl hb3 rfl) ?_
    exact WL.e ⟨(andT hb3), ag, rfl⟩
   ·refine WL.n rfl rfl hb3<|WL.n rfl rfl hb3<|WL.w (R.pickF rfl hb3 rfl) ?_
    exact WL.e ⟨(andF hb3), ag, rfl⟩
  ·intro us
   refine WL.m (boo (((p_c != 32) && (p_c != 9)) && (p_c != 40))) rfl ?_
   refine WL.grp 3 [14, 15] 16 (boo ((((p_c != 32) && (p_c != 9)) && (p_c != 40)) && (p_c != 41))) ?_ ?_
   ·rcases boolE (((p_c != 32) && (p_c != 9)) && (p_c != 40)) with hb5 | hb5
    ·refine WL.y rfl rfl hb5<|WL.m (byt p_c) rfl<|WL.y rfl rfl hb5<|WL.w (R.neq8 (a := p_c) (b := 41) rfl rfl)<|WL.w (R.pickT rfl hb5 rfl) ?_
     exact WL.e ⟨(andT hb5), ag, rfl⟩
    ·refine WL.n rfl rfl hb5<|WL.n rfl rfl hb5<|WL.w (R.pickF rfl hb5 rfl) ?_
     exact WL.e ⟨(andF hb5), ag, rfl⟩
   ·intro us
    refine WL.m (boo ((((p_c != 32) && (p_c != 9)) && (p_c != 40)) && (p_c != 41))) rfl ?_
    refine WL.grp 3 [18, 19] 20 (boo (((((p_c != 32) && (p_c != 9)) && (p_c != 40)) && (p_c != 41)) && (p_c != 44))) ?_ ?_
    ·rcases boolE ((((p_c != 32) && (p_c != 9)) && (p_c != 40)) && (p_c != 41)) with hb7 | hb7
     ·refine WL.y rfl rfl hb7<|WL.m (byt p_c) rfl<|WL.y rfl rfl hb7<|WL.w (R.neq8 (a := p_c) (b := 44) rfl rfl)<|WL.w (R.pickT rfl hb7 rfl) ?_
      exact WL.e ⟨(andT hb7), ag, rfl⟩
     ·refine WL.n rfl rfl hb7<|WL.n rfl rfl hb7<|WL.w (R.pickF rfl hb7 rfl) ?_
      exact WL.e ⟨(andF hb7), ag, rfl⟩
    ·intro us
     refine WL.m (boo (((((p_c != 32) && (p_c != 9)) && (p_c != 40)) && (p_c != 41)) && (p_c != 44))) rfl ?_
     refine WL.grp 3 [22, 23] 24 (boo ((((((p_c != 32) && (p_c != 9)) && (p_c != 40)) && (p_c != 41)) && (p_c != 44)) && (p_c != 34))) ?_ ?_
     ·rcases boolE (((((p_c != 32) && (p_c != 9)) && (p_c != 40)) && (p_c != 41)) && (p_c != 44)) with hb9 | hb9
      ·refine WL.y rfl rfl hb9<|WL.m (byt p_c) rfl<|WL.y rfl rfl hb9<|WL.w (R.neq8 (a := p_c) (b := 34) rfl rfl)<|WL.w (R.pickT rfl hb9 rfl) ?_
       exact WL.e ⟨(andT hb9), ag, rfl⟩
      ·refine WL.n rfl rfl hb9<|WL.n rfl rfl hb9<|WL.w (R.pickF rfl hb9 rfl) ?_
       exact WL.e ⟨(andF hb9), ag, rfl⟩
     ·intro us
      refine WL.a (boo ((((((p_c != 32) && (p_c != 9)) && (p_c != 40)) && (p_c != 41)) && (p_c != 44)) && (p_c != 34))) rfl<|WL.e ?_
      obtain rfl := oi h
      refine WP.ret (Out.one rfl S rfl ?_)
      exact rfl
end Go.Proofs
