/- A part of the proof of laws of the seat: written by program over the translation. -/
import Derived.Test.YtggmjoffcdnplaaPureA
import Derived.Test.YtggmjoffcdnplaaProg
namespace Go.Proofs
open Go.Eng Go.Eng.Pure
set_option linter.unusedVariables false
theorem lay23 : lay Try.prog 23 = some (true, 2) := by kernel_rfl
theorem fld23_1 : fld Try.prog 23 1 = some 1 := by kernel_rfl
theorem lay9 : lay Try.prog 9 = some (false, 1) := by kernel_rfl
theorem fld23_0 : fld Try.prog 23 0 = some 0 := by kernel_rfl
theorem lay4 : lay Try.prog 4 = some (false, 1) := by kernel_rfl
theorem bp23 : bplaces Try.prog 23 = some [(0, 1), (1, 1)] := by kernel_rfl
theorem zer23 : zer Try.prog 23 = some [(boo false), (str [])] := by kernel_rfl
theorem ps23 : plainS Try.prog 23 = true := by kernel_rfl
theorem fk23 : fieldK Try.prog 23 = [some 1, some 2] := by kernel_rfl
set_option maxHeartbeats 4000000 in
theorem etag_both_ok {w0 : World} {H0 : Hp} (hw : Holds w0 H0) (p_a : GETag) (p_b : GETag) (p_test : (GETag → Option Bool)) {kp_test : FuncId} {cp_test : List Value} (Fp_test : ∀ {w : World} {H : Hp}, H0.le H → Holds w H → ∀ (x0 : GETag) (r : Bool), p_test x0 = some r → Con Try.prog kp_test ([(agg [(boo x0.fWeak), (str x0.fTag)])] ++ cp_test) w H (fun H' v => v = (boo r))) {r : Bool} (h : etag_both p_a p_b p_test = some r) :
    Con Try.prog 15 [(agg [(boo p_a.fWeak), (str p_a.fTag)]), (agg [(boo p_b.fWeak), (str p_b.fTag)]), (.func (.func kp_test) #[] cp_test.toArray)] w0 H0 (fun H' v => v = (boo r)) := by
  refine Con.mk (N := 22) Try.func15 rfl rfl (by kernel_rfl) rfl ?_
  have S := St.start hw
  refine WP.seq ?_
  refine WP.region ?_
  refine W.box [(boo p_a.fWeak), (str p_a.fTag)] S rfl rfl ?_
  intro b1 w2 S
  refine W.box [(boo p_b.fWeak), (str p_b.fTag)] S rfl rfl ?_
  intro b3 w4 S
  refine WL.valw R.assign ?_
  refine WL.nil ?_
  refine WP.seq ?_
  refine WP.region ?_
  refine WL.valw R.move ?_
  refine WL.valw (R.loadBN (i := 1) (vs := [(boo p_a.fWeak), (str p_a.fTag)]) S rfl rfl lay23 rfl rfl) ?_
  obtain ⟨r5, hr5, h⟩ := bindE h
  refine W.callv S rfl rfl (Fp_test (S.post.le) S.holds p_a _ hr5) ?_
  rintro v6 w7 H8 hle9 S rfl
  refine WL.valw R.move ?_
  obtain ⟨b17, hg11, h⟩ := bindE h
  refine WL.grpw 4 [11, 12, 13] 14 (boo b17) (fun w => ∃ H' : Hp, H8.le H' ∧ St w0 H0 w H' [.box b3 23 [(boo p_b.fWeak), (str p_b.fTag)], .box b1 23 [(boo p_a.fWeak), (str p_a.fTag)]]) ?_ ?_
  · rcases boolE r5 with hb10 | hb10
    · replace hg11 := condT hg11 hb10
      refine WL.gyes rfl rfl hb10 ?_
      refine WL.valw R.move ?_
      refine WL.gyes rfl rfl hb10 ?_
      refine WL.valw (R.loadBN (i := 0) (vs := [(boo p_b.fWeak), (str p_b.fTag)]) S rfl rfl lay23 rfl rfl) ?_
      refine WL.gyes rfl rfl hb10 ?_
      obtain ⟨r12, hr12, hg11⟩ := bindE hg11
      refine W.callv S rfl rfl (Fp_test (S.post.le) S.holds p_b _ hr12) ?_
      rintro v13 w14 H15 hle16 S rfl
      refine WL.valw (R.pickT rfl hb10 rfl) ?_
      exact WL.nil ⟨(congrArg boo (Option.some.inj hg11)), (by repeat (first | exact agree_refl | refine agree_upd rfl ?_ | refine agree_upds' rfl ?_)), ⟨H15, hle16, S⟩⟩
    · replace hg11 := condF hg11 hb10
      refine WL.gno rfl rfl hb10 ?_
      refine WL.gno rfl rfl hb10 ?_
      refine WL.gno rfl rfl hb10 ?_
      refine WL.valw (R.pickF rfl hb10 rfl) ?_
      exact WL.nil ⟨(congrArg boo (Option.some.inj hg11)), (by repeat (first | exact agree_refl | refine agree_upd rfl ?_ | refine agree_upds' rfl ?_)), ⟨H8, (Hp.le.refl _), S⟩⟩
  · intro us w19 ⟨H18, hle20, S⟩
    refine WL.valw R.move ?_
    refine WL.grp 6 [16, 17, 18, 19, 20] 21 (boo (b17 && (p_a.fTag == p_b.fTag))) ?_ ?_
    · rcases boolE b17 with hb21 | hb21
      · refine WL.gyes rfl rfl hb21 ?_
        refine WL.valw (R.fieldB rfl fld23_1) ?_
        refine WL.gyes rfl rfl hb21 ?_
        refine WL.valw (R.loadB (i := 1) (v := (str p_a.fTag)) S rfl rfl lay9 rfl) ?_
        refine WL.gyes rfl rfl hb21 ?_
        refine WL.valw (R.fieldB rfl fld23_1) ?_
        refine WL.gyes rfl rfl hb21 ?_
        refine WL.valw (R.loadB (i := 0) (v := (str p_b.fTag)) S rfl rfl lay9 rfl) ?_
        refine WL.gyes rfl rfl hb21 ?_
        refine WL.valw (R.eqlS (a := p_a.fTag) (b := p_b.fTag) rfl rfl) ?_
        refine WL.valw (R.pickT rfl hb21 rfl) ?_
        exact WL.nil ⟨(andT hb21), (by repeat (first | exact agree_refl | refine agree_upd rfl ?_ | refine agree_upds' rfl ?_)), rfl⟩
      · refine WL.gno rfl rfl hb21 ?_
        refine WL.gno rfl rfl hb21 ?_
        refine WL.gno rfl rfl hb21 ?_
        refine WL.gno rfl rfl hb21 ?_
        refine WL.gno rfl rfl hb21 ?_
        refine WL.valw (R.pickF rfl hb21 rfl) ?_
        exact WL.nil ⟨(andF hb21), (by repeat (first | exact agree_refl | refine agree_upd rfl ?_ | refine agree_upds' rfl ?_)), rfl⟩
    · intro us
      refine WL.valw R.assign ?_
      refine WL.nil ?_
      obtain rfl := Option.some.inj h
      refine WP.ret (Out.one rfl S rfl ?_)
      exact rfl
set_option maxHeartbeats 4000000 in
theorem etag_Strong_1_ok {w0 : World} {H0 : Hp} (hw : Holds w0 H0) (p_e : GETag) {r : Bool} (h : etag_Strong_1 p_e = some r) :
    Con Try.prog 16 [(agg [(boo p_e.fWeak), (str p_e.fTag)])] w0 H0 (fun H' v => v = (boo r)) := by
  refine Con.mk (N := 6) Try.func16 rfl rfl (by kernel_rfl) rfl ?_
  have S := St.start hw
  refine WP.seq ?_
  refine WP.region ?_
  refine W.box [(boo p_e.fWeak), (str p_e.fTag)] S rfl rfl ?_
  intro b1 w2 S
  refine WL.valw R.assign ?_
  refine WL.nil ?_
  refine WP.seq ?_
  refine WP.region ?_
  refine WL.valw (R.fieldB rfl fld23_0) ?_
  refine WL.valw (R.loadB (i := 0) (v := (boo p_e.fWeak)) S rfl rfl lay4 rfl) ?_
  refine WL.valw (R.not rfl) ?_
  refine WL.valw R.assign ?_
  refine WL.nil ?_
  obtain rfl := Option.some.inj h
  refine WP.ret (Out.one rfl S rfl ?_)
  exact rfl
set_option maxHeartbeats 4000000 in
theorem etag_Strong_ok {w0 : World} {H0 : Hp} (hw : Holds w0 H0) (p_a : GETag) (p_b : GETag) {r : Bool} (h : etag_Strong p_a p_b = some r) :
    Con Try.prog 6 [(agg [(boo p_a.fWeak), (str p_a.fTag)]), (agg [(boo p_b.fWeak), (str p_b.fTag)])] w0 H0 (fun H' v => v = (boo r)) := by
  refine Con.mk (N := 8) Try.func6 rfl rfl (by kernel_rfl) rfl ?_
  have S := St.start hw
  refine WP.seq ?_
  refine WP.region ?_
  refine W.box [(boo p_a.fWeak), (str p_a.fTag)] S rfl rfl ?_
  intro b1 w2 S
  refine W.box [(boo p_b.fWeak), (str p_b.fTag)] S rfl rfl ?_
  intro b3 w4 S
  refine WL.valw R.assign ?_
  refine WL.nil ?_
  refine WP.seq ?_
  refine WP.region ?_
  refine WL.valw (R.loadBN (i := 1) (vs := [(boo p_a.fWeak), (str p_a.fTag)]) S rfl rfl lay23 rfl rfl) ?_
  refine WL.valw (R.loadBN (i := 0) (vs := [(boo p_b.fWeak), (str p_b.fTag)]) S rfl rfl lay23 rfl rfl) ?_
  obtain ⟨r5, hr5, h⟩ := bindE h
  refine W.call S rfl (etag_both_ok S.holds p_a p_b etag_Strong_1 (fun hle hw x0 r h => etag_Strong_1_ok hw x0 h) hr5) ?_
  rintro v6 w7 H8 hle9 S rfl
  refine WL.valw R.assign ?_
  refine WL.nil ?_
  obtain rfl := Option.some.inj h
  refine WP.ret (Out.one rfl S rfl ?_)
  exact rfl
set_option maxHeartbeats 4000000 in
theorem ref19_Strong_ok {w0 : World} {H0 : Hp} (hw : Holds w0 H0) (p_a : GETag) (p_b : GETag) {r : Bool} (h : ref19_Strong p_a p_b = some r) :
    Con Try.prog 7 [(agg [(boo p_a.fWeak), (str p_a.fTag)]), (agg [(boo p_b.fWeak), (str p_b.fTag)])] w0 H0 (fun H' v => v = (boo r)) := by
  refine Con.mk (N := 20) Try.func7 rfl rfl (by kernel_rfl) rfl ?_
  have S := St.start hw
  refine WP.seq ?_
  refine WP.region ?_
  refine W.box [(boo p_a.fWeak), (str p_a.fTag)] S rfl rfl ?_
  intro b1 w2 S
  refine W.box [(boo p_b.fWeak), (str p_b.fTag)] S rfl rfl ?_
  intro b3 w4 S
  refine WL.valw R.assign ?_
  refine WL.nil ?_
  refine WP.seq ?_
  refine WP.region ?_
  refine WL.valw (R.fieldB rfl fld23_1) ?_
  refine WL.valw (R.loadB (i := 1) (v := (str p_a.fTag)) S rfl rfl lay9 rfl) ?_
  refine WL.valw (R.fieldB rfl fld23_1) ?_
  refine WL.valw (R.loadB (i := 0) (v := (str p_b.fTag)) S rfl rfl lay9 rfl) ?_
  refine WL.valw (R.eqlS (a := p_a.fTag) (b := p_b.fTag) rfl rfl) ?_
  refine WL.valw R.move ?_
  refine WL.grp 4 [11, 12, 13] 14 (boo ((p_a.fTag == p_b.fTag) && (!p_a.fWeak))) ?_ ?_
  · rcases boolE (p_a.fTag == p_b.fTag) with hb5 | hb5
    · refine WL.gyes rfl rfl hb5 ?_
      refine WL.valw (R.fieldB rfl fld23_0) ?_
      refine WL.gyes rfl rfl hb5 ?_
      refine WL.valw (R.loadB (i := 1) (v := (boo p_a.fWeak)) S rfl rfl lay4 rfl) ?_
      refine WL.gyes rfl rfl hb5 ?_
      refine WL.valw (R.not rfl) ?_
      refine WL.valw (R.pickT rfl hb5 rfl) ?_
      exact WL.nil ⟨(andT hb5), (by repeat (first | exact agree_refl | refine agree_upd rfl ?_ | refine agree_upds' rfl ?_)), rfl⟩
    · refine WL.gno rfl rfl hb5 ?_
      refine WL.gno rfl rfl hb5 ?_
      refine WL.gno rfl rfl hb5 ?_
      refine WL.valw (R.pickF rfl hb5 rfl) ?_
      exact WL.nil ⟨(andF hb5), (by repeat (first | exact agree_refl | refine agree_upd rfl ?_ | refine agree_upds' rfl ?_)), rfl⟩
  · intro us
    refine WL.valw R.move ?_
    refine WL.grp 4 [16, 17, 18] 19 (boo (((p_a.fTag == p_b.fTag) && (!p_a.fWeak)) && (!p_b.fWeak))) ?_ ?_
    · rcases boolE ((p_a.fTag == p_b.fTag) && (!p_a.fWeak)) with hb7 | hb7
      · refine WL.gyes rfl rfl hb7 ?_
        refine WL.valw (R.fieldB rfl fld23_0) ?_
        refine WL.gyes rfl rfl hb7 ?_
        refine WL.valw (R.loadB (i := 0) (v := (boo p_b.fWeak)) S rfl rfl lay4 rfl) ?_
        refine WL.gyes rfl rfl hb7 ?_
        refine WL.valw (R.not rfl) ?_
        refine WL.valw (R.pickT rfl hb7 rfl) ?_
        exact WL.nil ⟨(andT hb7), (by repeat (first | exact agree_refl | refine agree_upd rfl ?_ | refine agree_upds' rfl ?_)), rfl⟩
      · refine WL.gno rfl rfl hb7 ?_
        refine WL.gno rfl rfl hb7 ?_
        refine WL.gno rfl rfl hb7 ?_
        refine WL.valw (R.pickF rfl hb7 rfl) ?_
        exact WL.nil ⟨(andF hb7), (by repeat (first | exact agree_refl | refine agree_upd rfl ?_ | refine agree_upds' rfl ?_)), rfl⟩
    · intro us
      refine WL.valw R.assign ?_
      refine WL.nil ?_
      obtain rfl := Option.some.inj h
      refine WP.ret (Out.one rfl S rfl ?_)
      exact rfl
set_option maxHeartbeats 4000000 in
theorem etag_Weak_1_ok {w0 : World} {H0 : Hp} (hw : Holds w0 H0) (p_e : GETag) {r : Bool} (h : etag_Weak_1 p_e = some r) :
    Con Try.prog 17 [(agg [(boo p_e.fWeak), (str p_e.fTag)])] w0 H0 (fun H' v => v = (boo r)) := by
  refine Con.mk (N := 3) Try.func17 rfl rfl (by kernel_rfl) rfl ?_
  have S := St.start hw
  refine WP.seq ?_
  refine WP.region ?_
  refine W.box [(boo p_e.fWeak), (str p_e.fTag)] S rfl rfl ?_
  intro b1 w2 S
  refine WL.valw R.assign ?_
  refine WL.nil ?_
  refine WP.seq ?_
  refine WP.region ?_
  refine WL.valw R.assign ?_
  refine WL.nil ?_
  obtain rfl := Option.some.inj h
  refine WP.ret (Out.one rfl S rfl ?_)
  exact rfl
set_option maxHeartbeats 4000000 in
theorem etag_Weak_ok {w0 : World} {H0 : Hp} (hw : Holds w0 H0) (p_a : GETag) (p_b : GETag) {r : Bool} (h : etag_Weak p_a p_b = some r) :
    Con Try.prog 8 [(agg [(boo p_a.fWeak), (str p_a.fTag)]), (agg [(boo p_b.fWeak), (str p_b.fTag)])] w0 H0 (fun H' v => v = (boo r)) := by
  refine Con.mk (N := 8) Try.func8 rfl rfl (by kernel_rfl) rfl ?_
  have S := St.start hw
  refine WP.seq ?_
  refine WP.region ?_
  refine W.box [(boo p_a.fWeak), (str p_a.fTag)] S rfl rfl ?_
  intro b1 w2 S
  refine W.box [(boo p_b.fWeak), (str p_b.fTag)] S rfl rfl ?_
  intro b3 w4 S
  refine WL.valw R.assign ?_
  refine WL.nil ?_
  refine WP.seq ?_
  refine WP.region ?_
  refine WL.valw (R.loadBN (i := 1) (vs := [(boo p_a.fWeak), (str p_a.fTag)]) S rfl rfl lay23 rfl rfl) ?_
  refine WL.valw (R.loadBN (i := 0) (vs := [(boo p_b.fWeak), (str p_b.fTag)]) S rfl rfl lay23 rfl rfl) ?_
  obtain ⟨r5, hr5, h⟩ := bindE h
  refine W.call S rfl (etag_both_ok S.holds p_a p_b etag_Weak_1 (fun hle hw x0 r h => etag_Weak_1_ok hw x0 h) hr5) ?_
  rintro v6 w7 H8 hle9 S rfl
  refine WL.valw R.assign ?_
  refine WL.nil ?_
  obtain rfl := Option.some.inj h
  refine WP.ret (Out.one rfl S rfl ?_)
  exact rfl
set_option maxHeartbeats 4000000 in
theorem ref19_Weak_ok {w0 : World} {H0 : Hp} (hw : Holds w0 H0) (p_a : GETag) (p_b : GETag) {r : Bool} (h : ref19_Weak p_a p_b = some r) :
    Con Try.prog 9 [(agg [(boo p_a.fWeak), (str p_a.fTag)]), (agg [(boo p_b.fWeak), (str p_b.fTag)])] w0 H0 (fun H' v => v = (boo r)) := by
  refine Con.mk (N := 10) Try.func9 rfl rfl (by kernel_rfl) rfl ?_
  have S := St.start hw
  refine WP.seq ?_
  refine WP.region ?_
  refine W.box [(boo p_a.fWeak), (str p_a.fTag)] S rfl rfl ?_
  intro b1 w2 S
  refine W.box [(boo p_b.fWeak), (str p_b.fTag)] S rfl rfl ?_
  intro b3 w4 S
  refine WL.valw R.assign ?_
  refine WL.nil ?_
  refine WP.seq ?_
  refine WP.region ?_
  refine WL.valw (R.fieldB rfl fld23_1) ?_
  refine WL.valw (R.loadB (i := 1) (v := (str p_a.fTag)) S rfl rfl lay9 rfl) ?_
  refine WL.valw (R.fieldB rfl fld23_1) ?_
  refine WL.valw (R.loadB (i := 0) (v := (str p_b.fTag)) S rfl rfl lay9 rfl) ?_
  refine WL.valw (R.eqlS (a := p_a.fTag) (b := p_b.fTag) rfl rfl) ?_
  refine WL.valw R.assign ?_
  refine WL.nil ?_
  obtain rfl := Option.some.inj h
  refine WP.ret (Out.one rfl S rfl ?_)
  exact rfl
set_option maxHeartbeats 4000000 in
theorem stringslite_HasPrefix_ok {w0 : World} {H0 : Hp} (hw : Holds w0 H0) (p_s : Str) (p_prefix : Str) {r : Bool} (h : stringslite_HasPrefix p_s p_prefix = some r) :
    Con Try.prog 22 [(str p_s), (str p_prefix)] w0 H0 (fun H' v => v = (boo r)) := by
  refine Con.mk (N := 18) Try.func22 rfl rfl (by kernel_rfl) rfl ?_
  have S := St.start hw
  refine WP.seq ?_
  refine WP.region ?_
  refine WL.valw R.assign ?_
  refine WL.nil ?_
  refine WP.seq ?_
  refine WP.region ?_
  refine WL.valw R.move ?_
  refine WL.valw (R.lenS (a := p_s) rfl Try.underlying9) ?_
  refine WL.valw R.move ?_
  refine WL.valw (R.lenS (a := p_prefix) rfl Try.underlying9) ?_
  refine WL.valw (R.geq rfl rfl) ?_
  refine WL.valw R.move ?_
  obtain ⟨b4, hg2, h⟩ := bindE h
  refine WL.grp 7 [11, 12, 13, 14, 15, 16] 17 (boo b4) ?_ ?_
  · rcases boolE (decide ((p_prefix.length : Int) ≤ (p_s.length : Int))) with hb1 | hb1
    · replace hg2 := condT hg2 hb1
      refine WL.gyes rfl rfl hb1 ?_
      refine WL.valw R.move ?_
      refine WL.gyes rfl rfl hb1 ?_
      refine WL.valw R.move ?_
      refine WL.gyes rfl rfl hb1 ?_
      refine WL.valw (R.lenS (a := p_prefix) rfl Try.underlying9) ?_
      refine WL.gyes rfl rfl hb1 ?_
      obtain ⟨s3, hs3, hg2⟩ := bindE hg2
      refine WL.valw (R.subShi rfl rfl Try.underlying9 hs3) ?_
      refine WL.gyes rfl rfl hb1 ?_
      refine WL.valw R.move ?_
      refine WL.gyes rfl rfl hb1 ?_
      refine WL.valw (R.eqlS (a := s3) (b := p_prefix) rfl rfl) ?_
      refine WL.valw (R.pickT rfl hb1 rfl) ?_
      exact WL.nil ⟨(congrArg boo (Option.some.inj hg2)), (by repeat (first | exact agree_refl | refine agree_upd rfl ?_ | refine agree_upds' rfl ?_)), rfl⟩
    · replace hg2 := condF hg2 hb1
      refine WL.gno rfl rfl hb1 ?_
      refine WL.gno rfl rfl hb1 ?_
      refine WL.gno rfl rfl hb1 ?_
      refine WL.gno rfl rfl hb1 ?_
      refine WL.gno rfl rfl hb1 ?_
      refine WL.gno rfl rfl hb1 ?_
      refine WL.valw (R.pickF rfl hb1 rfl) ?_
      exact WL.nil ⟨(congrArg boo (Option.some.inj hg2)), (by repeat (first | exact agree_refl | refine agree_upd rfl ?_ | refine agree_upds' rfl ?_)), rfl⟩
  · intro us
    refine WL.valw R.assign ?_
    refine WL.nil ?_
    obtain rfl := Option.some.inj h
    refine WP.ret (Out.one rfl S rfl ?_)
    exact rfl
set_option maxHeartbeats 4000000 in
theorem stringslite_CutPrefix_ok {w0 : World} {H0 : Hp} (hw : Holds w0 H0) (p_s : Str) (p_prefix : Str) {r : (Str × Bool)} (h : stringslite_CutPrefix p_s p_prefix = some r) :
    Con Try.prog 21 [(str p_s), (str p_prefix)] w0 H0 (fun H' v => v = (.tuple ⟨[(str r.1), (boo r.2)]⟩)) := by
  refine Con.mk (N := 15) Try.func21 rfl rfl (by kernel_rfl) rfl ?_
  have S := St.start hw
  refine WP.seq ?_
  refine WP.region ?_
  refine WL.valw R.assign ?_
  refine WL.valw R.assign ?_
  refine WL.nil ?_
  refine WP.seq ?_
  refine WP.seq ?_
  refine WP.region ?_
  refine WL.valw R.move ?_
  refine WL.valw R.move ?_
  obtain ⟨r1, hr1, h⟩ := bindE h
  refine W.call S rfl (stringslite_HasPrefix_ok S.holds p_s p_prefix hr1) ?_
  rintro v2 w3 H4 hle5 S rfl
  refine WL.valw (R.not rfl) ?_
  refine WL.nil ?_
  rcases condE h with ⟨hc6, h⟩ | ⟨hc6, h⟩
  · refine WP.condT rfl hc6 ?_
    refine WP.seq ?_
    refine WP.region ?_
    refine WL.valw R.move ?_
    refine WL.valw R.assign ?_
    refine WL.valw R.assign ?_
    refine WL.nil ?_
    obtain rfl := Option.some.inj h
    refine WP.ret (Out.two rfl S rfl rfl ?_)
    exact rfl
  · refine WP.condF rfl hc6 ?_
    refine WP.skip ?_
    refine WP.seq ?_
    refine WP.region ?_
    refine WL.valw R.move ?_
    refine WL.valw R.move ?_
    refine WL.valw (R.lenS (a := p_prefix) rfl Try.underlying9) ?_
    obtain ⟨s7, hs7, h⟩ := bindE h
    refine WL.valw (R.subSlo rfl rfl Try.underlying9 hs7) ?_
    refine WL.valw R.assign ?_
    refine WL.valw R.assign ?_
    refine WL.nil ?_
    obtain rfl := Option.some.inj h
    refine WP.ret (Out.two rfl S rfl rfl ?_)
    exact rfl
set_option maxHeartbeats 4000000 in
theorem strings_CutPrefix_ok {w0 : World} {H0 : Hp} (hw : Holds w0 H0) (p_s : Str) (p_prefix : Str) {r : (Str × Bool)} (h : strings_CutPrefix p_s p_prefix = some r) :
    Con Try.prog 18 [(str p_s), (str p_prefix)] w0 H0 (fun H' v => v = (.tuple ⟨[(str r.1), (boo r.2)]⟩)) := by
  refine Con.mk (N := 11) Try.func18 rfl rfl (by kernel_rfl) rfl ?_
  have S := St.start hw
  refine WP.seq ?_
  refine WP.region ?_
  refine WL.valw R.assign ?_
  refine WL.valw R.assign ?_
  refine WL.nil ?_
  refine WP.seq ?_
  refine WP.region ?_
  refine WL.valw R.move ?_
  refine WL.valw R.move ?_
  obtain ⟨r1, hr1, h⟩ := bindE h
  refine W.call S rfl (stringslite_CutPrefix_ok S.holds p_s p_prefix hr1) ?_
  rintro v2 w3 H4 hle5 S rfl
  refine WL.valw (R.ext rfl rfl) ?_
  refine WL.valw (R.ext rfl rfl) ?_
  refine WL.valw R.assign ?_
  refine WL.valw R.assign ?_
  refine WL.nil ?_
  obtain rfl := Option.some.inj h
  refine WP.ret (Out.two rfl S rfl rfl ?_)
  exact rfl
set_option maxHeartbeats 4000000 in
theorem etag_permitted_ok {w0 : World} {H0 : Hp} (hw : Holds w0 H0) (p_s : Str) {r : Bool} (h : etag_permitted p_s = some r) :
    Con Try.prog 19 [(str p_s)] w0 H0 (fun H' v => v = (boo r)) := by
  refine Con.mk (N := 24) Try.func19 rfl rfl (by kernel_rfl) rfl ?_
  have S := St.start hw
  refine WP.seq ?_
  refine WP.region ?_
  refine WL.valw R.assign ?_
  refine WL.nil ?_
  refine WP.seq ?_
  refine WP.seq ?_
  refine WP.region ?_
  refine WL.valw R.move ?_
  refine WL.valw (R.lenS (a := p_s) rfl Try.underlying9) ?_
  refine WL.valw R.move ?_
  refine WL.nil ?_
  obtain ⟨r10, hr11, h⟩ := bindE h
  refine WP.cut (fun f w => match r10 with | .inl _ => ∃ (H6 : Hp), St w0 H0 w H6 [] | .inr _ => False) ?_ ?_
  · refine WP.block ?_
    refine WP.loopM (etag_permitted_L0 p_s) (fun s f w => match s with | y_4 => ∃ (H1 : Hp), f 0 = (str p_s) ∧ f 6 = (int (p_s.length : Int)) ∧ f 7 = (int y_4) ∧ St w0 H0 w H1 []) 0 r10 hr11 ?_ ?_
    · exact ⟨H0, rfl, rfl, rfl, S⟩
    · intro y_4 f w hI y7 hy8 hy9
      obtain ⟨H1, h2, h3, h5, S⟩ := hI
      refine WP.seq ?_
      refine WP.region ?_
      refine WL.valw (R.lss h5 h3) ?_
      refine WL.nil ?_
      refine WP.seq ?_
      rcases condE hy8 with ⟨hc12, hy8⟩ | ⟨hc12, hy8⟩
      · refine WP.condT rfl hc12 ?_
        refine WP.skip ?_
        refine WP.seq ?_
        refine WP.block ?_
        refine WP.seq ?_
        refine WP.region ?_
        refine WL.valw (R.mv h5) ?_
        refine WL.valw R.assign ?_
        refine WL.nil ?_
        refine WP.seq ?_
        refine WP.region ?_
        refine WL.valw (R.mv h2) ?_
        refine WL.valw R.move ?_
        obtain ⟨c13, hc13, hy8⟩ := bindE hy8
        refine WL.valw (R.idxS rfl rfl Try.underlying9 hc13) ?_
        refine WL.valw R.assign ?_
        refine WL.nil ?_
        refine WP.seq ?_
        refine WP.region ?_
        refine WL.valw R.move ?_
        refine WL.valw (R.lss8 (a := c13) (b := 33) rfl rfl) ?_
        refine WL.valw R.move ?_
        refine WL.grp 3 [16, 17] 18 (boo ((decide (c13 < 33)) || (c13 == 34))) ?_ ?_
        · rcases boolE (decide (c13 < 33)) with hb14 | hb14
          · refine WL.gno rfl rfl hb14 ?_
            refine WL.gno rfl rfl hb14 ?_
            refine WL.valw (R.pickT rfl hb14 rfl) ?_
            exact WL.nil ⟨(orT hb14), (by repeat (first | exact agree_refl | refine agree_upd rfl ?_ | refine agree_upds' rfl ?_)), rfl⟩
          · refine WL.gyes rfl rfl hb14 ?_
            refine WL.valw R.move ?_
            refine WL.gyes rfl rfl hb14 ?_
            refine WL.valw (R.eql8 (a := c13) (b := 34) rfl rfl) ?_
            refine WL.valw (R.pickF rfl hb14 rfl) ?_
            exact WL.nil ⟨(orF hb14), (by repeat (first | exact agree_refl | refine agree_upd rfl ?_ | refine agree_upds' rfl ?_)), rfl⟩
        · intro us
          refine WL.valw R.move ?_
          refine WL.grp 3 [20, 21] 22 (boo (((decide (c13 < 33)) || (c13 == 34)) || (c13 == 127))) ?_ ?_
          · rcases boolE ((decide (c13 < 33)) || (c13 == 34)) with hb16 | hb16
            · refine WL.gno rfl rfl hb16 ?_
              refine WL.gno rfl rfl hb16 ?_
              refine WL.valw (R.pickT rfl hb16 rfl) ?_
              exact WL.nil ⟨(orT hb16), (by repeat (first | exact agree_refl | refine agree_upd rfl ?_ | refine agree_upds' rfl ?_)), rfl⟩
            · refine WL.gyes rfl rfl hb16 ?_
              refine WL.valw R.move ?_
              refine WL.gyes rfl rfl hb16 ?_
              refine WL.valw (R.eql8 (a := c13) (b := 127) rfl rfl) ?_
              refine WL.valw (R.pickF rfl hb16 rfl) ?_
              exact WL.nil ⟨(orF hb16), (by repeat (first | exact agree_refl | refine agree_upd rfl ?_ | refine agree_upds' rfl ?_)), rfl⟩
          · intro us
            refine WL.nil ?_
            rcases condE hy8 with ⟨hc18, hy8⟩ | ⟨hc18, hy8⟩
            · refine WP.condT rfl hc18 ?_
              refine WP.seq ?_
              refine WP.region ?_
              refine WL.valw R.assign ?_
              refine WL.nil ?_
              obtain rfl := Option.some.inj hy8
              obtain rfl := hy9
              obtain rfl := Option.some.inj h
              refine WP.ret (Out.one rfl S rfl ?_)
              exact rfl
            · refine WP.condF rfl hc18 ?_
              refine WP.skip ?_
              refine WP.region ?_
              refine WL.valw (R.add h5 rfl) ?_
              refine WL.valw R.move ?_
              refine WL.nil ?_
              obtain rfl := Option.some.inj hy8
              exact ⟨rfl, ⟨H1, h2, h3, rfl, S⟩⟩
      · refine WP.condF rfl hc12 ?_
        refine WP.exit ?_
        obtain rfl := Option.some.inj hy8
        obtain rfl := hy9
        exact ⟨H1, S⟩
  · intro f w hM
    rcases r10 with _ | e
    · obtain ⟨H6, S⟩ := hM
      refine WP.seq ?_
      refine WP.region ?_
      refine WL.valw R.assign ?_
      refine WL.nil ?_
      obtain rfl := Option.some.inj h
      refine WP.ret (Out.one rfl S rfl ?_)
      exact rfl
    · exact hM.elim
set_option maxHeartbeats 4000000 in
theorem etag_Parse_ok {w0 : World} {H0 : Hp} (hw : Holds w0 H0) (p_s : Str) {r : (GETag × Bool)} (h : etag_Parse p_s = some r) :
    Con Try.prog 11 [(str p_s)] w0 H0 (fun H' v => v = (.tuple ⟨[(agg [(boo r.1.fWeak), (str r.1.fTag)]), (boo r.2)]⟩)) := by
  refine Con.mk (N := 43) Try.func11 rfl rfl (by kernel_rfl) rfl ?_
  have S := St.start hw
  refine WP.seq ?_
  refine WP.region ?_
  refine W.alloc [(boo false), (str [])] S zer23 ?_
  intro b1 w2 S
  refine WL.valw R.assign ?_
  refine WL.nil ?_
  refine WP.seq ?_
  refine WP.region ?_
  refine WL.valw R.move ?_
  obtain ⟨r3, hr3, h⟩ := bindE h
  refine W.call S rfl (strings_CutPrefix_ok S.holds p_s [87, 47] hr3) ?_
  rintro v4 w5 H6 hle7 S rfl
  refine WL.valw R.move ?_
  refine WL.valw (R.ext rfl rfl) ?_
  refine WL.valw (R.ext rfl rfl) ?_
  refine WL.valw R.assign ?_
  refine WL.valw R.assign ?_
  refine WL.nil ?_
  refine WP.seq ?_
  refine WP.seq ?_
  refine WP.region ?_
  refine WL.valw R.move ?_
  refine WL.valw (R.lenS (a := r3.1) rfl Try.underlying9) ?_
  refine WL.valw (R.lss rfl rfl) ?_
  refine WL.valw R.move ?_
  obtain ⟨b11, hg9, h⟩ := bindE h
  refine WL.grp 4 [14, 15, 16] 17 (boo b11) ?_ ?_
  · rcases boolE (decide ((r3.1.length : Int) < 2)) with hb8 | hb8
    · replace hg9 := condT hg9 hb8
      refine WL.gno rfl rfl hb8 ?_
      refine WL.gno rfl rfl hb8 ?_
      refine WL.gno rfl rfl hb8 ?_
      refine WL.valw (R.pickT rfl hb8 rfl) ?_
      exact WL.nil ⟨(congrArg boo (Option.some.inj hg9)), (by repeat (first | exact agree_refl | refine agree_upd rfl ?_ | refine agree_upds' rfl ?_)), rfl⟩
    · replace hg9 := condF hg9 hb8
      refine WL.gyes rfl rfl hb8 ?_
      refine WL.valw R.move ?_
      refine WL.gyes rfl rfl hb8 ?_
      obtain ⟨c10, hc10, hg9⟩ := bindE hg9
      refine WL.valw (R.idxS rfl rfl Try.underlying9 hc10) ?_
      refine WL.gyes rfl rfl hb8 ?_
      refine WL.valw (R.neq8 (a := c10) (b := 34) rfl rfl) ?_
      refine WL.valw (R.pickF rfl hb8 rfl) ?_
      exact WL.nil ⟨(congrArg boo (Option.some.inj hg9)), (by repeat (first | exact agree_refl | refine agree_upd rfl ?_ | refine agree_upds' rfl ?_)), rfl⟩
  · intro us
    refine WL.valw R.move ?_
    obtain ⟨b15, hg13, h⟩ := bindE h
    refine WL.grp 7 [19, 20, 21, 22, 23, 24] 25 (boo b15) ?_ ?_
    · rcases boolE b11 with hb12 | hb12
      · replace hg13 := condT hg13 hb12
        refine WL.gno rfl rfl hb12 ?_
        refine WL.gno rfl rfl hb12 ?_
        refine WL.gno rfl rfl hb12 ?_
        refine WL.gno rfl rfl hb12 ?_
        refine WL.gno rfl rfl hb12 ?_
        refine WL.gno rfl rfl hb12 ?_
        refine WL.valw (R.pickT rfl hb12 rfl) ?_
        exact WL.nil ⟨(congrArg boo (Option.some.inj hg13)), (by repeat (first | exact agree_refl | refine agree_upd rfl ?_ | refine agree_upds' rfl ?_)), rfl⟩
      · replace hg13 := condF hg13 hb12
        refine WL.gyes rfl rfl hb12 ?_
        refine WL.valw R.move ?_
        refine WL.gyes rfl rfl hb12 ?_
        refine WL.valw R.move ?_
        refine WL.gyes rfl rfl hb12 ?_
        refine WL.valw (R.lenS (a := r3.1) rfl Try.underlying9) ?_
        refine WL.gyes rfl rfl hb12 ?_
        refine WL.valw (R.sub rfl rfl) ?_
        refine WL.gyes rfl rfl hb12 ?_
        obtain ⟨c14, hc14, hg13⟩ := bindE hg13
        refine WL.valw (R.idxS rfl rfl Try.underlying9 hc14) ?_
        refine WL.gyes rfl rfl hb12 ?_
        refine WL.valw (R.neq8 (a := c14) (b := 34) rfl rfl) ?_
        refine WL.valw (R.pickF rfl hb12 rfl) ?_
        exact WL.nil ⟨(congrArg boo (Option.some.inj hg13)), (by repeat (first | exact agree_refl | refine agree_upd rfl ?_ | refine agree_upds' rfl ?_)), rfl⟩
    · intro us
      refine WL.valw R.move ?_
      obtain ⟨b24, hg17, h⟩ := bindE h
      refine WL.grpw 8 [27, 28, 29, 30, 31, 32, 33] 34 (boo b24) (fun w => ∃ H' : Hp, H6.le H' ∧ St w0 H0 w H' [.box b1 23 [(boo false), (str [])]]) ?_ ?_
      · rcases boolE b15 with hb16 | hb16
        · replace hg17 := condT hg17 hb16
          refine WL.gno rfl rfl hb16 ?_
          refine WL.gno rfl rfl hb16 ?_
          refine WL.gno rfl rfl hb16 ?_
          refine WL.gno rfl rfl hb16 ?_
          refine WL.gno rfl rfl hb16 ?_
          refine WL.gno rfl rfl hb16 ?_
          refine WL.gno rfl rfl hb16 ?_
          refine WL.valw (R.pickT rfl hb16 rfl) ?_
          exact WL.nil ⟨(congrArg boo (Option.some.inj hg17)), (by repeat (first | exact agree_refl | refine agree_upd rfl ?_ | refine agree_upds' rfl ?_)), ⟨H6, (Hp.le.refl _), S⟩⟩
        · replace hg17 := condF hg17 hb16
          refine WL.gyes rfl rfl hb16 ?_
          refine WL.valw R.move ?_
          refine WL.gyes rfl rfl hb16 ?_
          refine WL.valw R.move ?_
          refine WL.gyes rfl rfl hb16 ?_
          refine WL.valw (R.lenS (a := r3.1) rfl Try.underlying9) ?_
          refine WL.gyes rfl rfl hb16 ?_
          refine WL.valw (R.sub rfl rfl) ?_
          refine WL.gyes rfl rfl hb16 ?_
          obtain ⟨s18, hs18, hg17⟩ := bindE hg17
          refine WL.valw (R.subS rfl rfl rfl Try.underlying9 hs18) ?_
          refine WL.gyes rfl rfl hb16 ?_
          obtain ⟨r19, hr19, hg17⟩ := bindE hg17
          refine W.call S rfl (etag_permitted_ok S.holds s18 hr19) ?_
          rintro v20 w21 H22 hle23 S rfl
          refine WL.gyes rfl rfl hb16 ?_
          refine WL.valw (R.not rfl) ?_
          refine WL.valw (R.pickF rfl hb16 rfl) ?_
          exact WL.nil ⟨(congrArg boo (Option.some.inj hg17)), (by repeat (first | exact agree_refl | refine agree_upd rfl ?_ | refine agree_upds' rfl ?_)), ⟨H22, hle23, S⟩⟩
      · intro us w26 ⟨H25, hle27, S⟩
        refine WL.nil ?_
        rcases condE h with ⟨hc28, h⟩ | ⟨hc28, h⟩
        · refine WP.condT rfl hc28 ?_
          refine WP.seq ?_
          refine WP.region ?_
          refine WL.valw (R.build [] [(boo false), (str [])] bp23 zer23 rfl rfl) ?_
          refine W.store (i := 0) [(boo false), (str [])] S rfl rfl rfl lay23 rfl rfl (Nat.le_of_ble_eq_true rfl) rfl ?_
          intro w29 S
          refine WL.valw R.assign ?_
          refine WL.nil ?_
          obtain rfl := Option.some.inj h
          refine WP.ret (Out.two rfl S (Res.cellB (i := 0) (cs := [(boo false), (str [])]) S rfl rfl lay23 rfl rfl) rfl ?_)
          exact rfl
        · refine WP.condF rfl hc28 ?_
          refine WP.skip ?_
          refine WP.seq ?_
          refine WP.region ?_
          refine WL.valw R.move ?_
          refine WL.valw R.move ?_
          refine WL.valw R.move ?_
          refine WL.valw (R.lenS (a := r3.1) rfl Try.underlying9) ?_
          refine WL.valw (R.sub rfl rfl) ?_
          obtain ⟨s30, hs30, h⟩ := bindE h
          refine WL.valw (R.subS rfl rfl rfl Try.underlying9 hs30) ?_
          refine WL.valw (R.build [(0, (boo r3.2)), (1, (str s30))] [(boo r3.2), (str s30)] bp23 zer23 rfl rfl) ?_
          refine W.store (i := 0) [(boo r3.2), (str s30)] S rfl rfl rfl lay23 rfl rfl (Nat.le_of_ble_eq_true rfl) rfl ?_
          intro w31 S
          refine WL.valw R.assign ?_
          refine WL.nil ?_
          obtain rfl := Option.some.inj h
          refine WP.ret (Out.two rfl S (Res.cellB (i := 0) (cs := [(boo r3.2), (str s30)]) S rfl rfl lay23 rfl rfl) rfl ?_)
          exact rfl
set_option maxHeartbeats 4000000 in
theorem law21_awake_ok {w0 : World} {H0 : Hp} (hw : Holds w0 H0) {r : Bool} (h : law21_awake = some r) :
    Con Try.prog 10 [] w0 H0 (fun H' v => v = (boo r)) := by
  refine Con.mk (N := 37) Try.func10 rfl rfl (by kernel_rfl) rfl ?_
  have S := St.start hw
  refine WP.seq ?_
  refine WP.region ?_
  refine WL.valw R.assign ?_
  refine WL.nil ?_
  refine WP.seq ?_
  refine WP.region ?_
  obtain ⟨r1, hr1, h⟩ := bindE h
  refine W.call S rfl (etag_Parse_ok S.holds [87, 47, 34, 97, 34] hr1) ?_
  rintro v2 w3 H4 hle5 S rfl
  refine WL.valw R.move ?_
  refine WL.valw (R.ext rfl rfl) ?_
  refine WL.valw (R.ext rfl rfl) ?_
  refine W.alloc [(boo false), (str [])] S zer23 ?_
  intro b6 w7 S
  refine W.store (i := 0) [(boo r1.1.fWeak), (str r1.1.fTag)] S rfl rfl rfl lay23 rfl rfl (Nat.le_of_ble_eq_true rfl) rfl ?_
  intro w8 S
  refine WL.valw R.assign ?_
  refine WL.nil ?_
  refine WP.seq ?_
  refine WP.region ?_
  obtain ⟨r9, hr9, h⟩ := bindE h
  refine W.call S rfl (etag_Parse_ok S.holds [34, 97, 34] hr9) ?_
  rintro v10 w11 H12 hle13 S rfl
  refine WL.valw R.move ?_
  refine WL.valw (R.ext rfl rfl) ?_
  refine WL.valw (R.ext rfl rfl) ?_
  refine W.alloc [(boo false), (str [])] S zer23 ?_
  intro b14 w15 S
  refine W.store (i := 0) [(boo r9.1.fWeak), (str r9.1.fTag)] S rfl rfl rfl lay23 rfl rfl (Nat.le_of_ble_eq_true rfl) rfl ?_
  intro w16 S
  refine WL.valw R.assign ?_
  refine WL.nil ?_
  refine WP.seq ?_
  refine WP.region ?_
  refine WL.valw R.move ?_
  refine WL.valw R.move ?_
  refine WL.grp 2 [15] 16 (boo (r1.2 && r9.2)) ?_ ?_
  · rcases boolE r1.2 with hb17 | hb17
    · refine WL.gyes rfl rfl hb17 ?_
      refine WL.valw R.move ?_
      refine WL.valw (R.pickT rfl hb17 rfl) ?_
      exact WL.nil ⟨(andT hb17), (by repeat (first | exact agree_refl | refine agree_upd rfl ?_ | refine agree_upds' rfl ?_)), rfl⟩
    · refine WL.gno rfl rfl hb17 ?_
      refine WL.valw (R.pickF rfl hb17 rfl) ?_
      exact WL.nil ⟨(andF hb17), (by repeat (first | exact agree_refl | refine agree_upd rfl ?_ | refine agree_upds' rfl ?_)), rfl⟩
  · intro us
    refine WL.valw R.move ?_
    refine WL.grp 3 [18, 19] 20 (boo ((r1.2 && r9.2) && r1.1.fWeak)) ?_ ?_
    · rcases boolE (r1.2 && r9.2) with hb19 | hb19
      · refine WL.gyes rfl rfl hb19 ?_
        refine WL.valw (R.fieldB rfl fld23_0) ?_
        refine WL.gyes rfl rfl hb19 ?_
        refine WL.valw (R.loadB (i := 1) (v := (boo r1.1.fWeak)) S rfl rfl lay4 rfl) ?_
        refine WL.valw (R.pickT rfl hb19 rfl) ?_
        exact WL.nil ⟨(andT hb19), (by repeat (first | exact agree_refl | refine agree_upd rfl ?_ | refine agree_upds' rfl ?_)), rfl⟩
      · refine WL.gno rfl rfl hb19 ?_
        refine WL.gno rfl rfl hb19 ?_
        refine WL.valw (R.pickF rfl hb19 rfl) ?_
        exact WL.nil ⟨(andF hb19), (by repeat (first | exact agree_refl | refine agree_upd rfl ?_ | refine agree_upds' rfl ?_)), rfl⟩
    · intro us
      refine WL.valw R.move ?_
      obtain ⟨b28, hg22, h⟩ := bindE h
      refine WL.grpw 4 [22, 23, 24] 25 (boo b28) (fun w => ∃ H' : Hp, H12.le H' ∧ St w0 H0 w H' [.box b14 23 [(boo r9.1.fWeak), (str r9.1.fTag)], .box b6 23 [(boo r1.1.fWeak), (str r1.1.fTag)]]) ?_ ?_
      · rcases boolE ((r1.2 && r9.2) && r1.1.fWeak) with hb21 | hb21
        · replace hg22 := condT hg22 hb21
          refine WL.gyes rfl rfl hb21 ?_
          refine WL.valw (R.loadBN (i := 1) (vs := [(boo r1.1.fWeak), (str r1.1.fTag)]) S rfl rfl lay23 rfl rfl) ?_
          refine WL.gyes rfl rfl hb21 ?_
          refine WL.valw (R.loadBN (i := 0) (vs := [(boo r9.1.fWeak), (str r9.1.fTag)]) S rfl rfl lay23 rfl rfl) ?_
          refine WL.gyes rfl rfl hb21 ?_
          obtain ⟨r23, hr23, hg22⟩ := bindE hg22
          refine W.call S rfl (etag_Weak_ok S.holds r1.1 r9.1 hr23) ?_
          rintro v24 w25 H26 hle27 S rfl
          refine WL.valw (R.pickT rfl hb21 rfl) ?_
          exact WL.nil ⟨(congrArg boo (Option.some.inj hg22)), (by repeat (first | exact agree_refl | refine agree_upd rfl ?_ | refine agree_upds' rfl ?_)), ⟨H26, hle27, S⟩⟩
        · replace hg22 := condF hg22 hb21
          refine WL.gno rfl rfl hb21 ?_
          refine WL.gno rfl rfl hb21 ?_
          refine WL.gno rfl rfl hb21 ?_
          refine WL.valw (R.pickF rfl hb21 rfl) ?_
          exact WL.nil ⟨(congrArg boo (Option.some.inj hg22)), (by repeat (first | exact agree_refl | refine agree_upd rfl ?_ | refine agree_upds' rfl ?_)), ⟨H12, (Hp.le.refl _), S⟩⟩
      · intro us w30 ⟨H29, hle31, S⟩
        refine WL.valw R.move ?_
        obtain ⟨b39, hg33, h⟩ := bindE h
        refine WL.grpw 5 [27, 28, 29, 30] 31 (boo b39) (fun w => ∃ H' : Hp, H29.le H' ∧ St w0 H0 w H' [.box b14 23 [(boo r9.1.fWeak), (str r9.1.fTag)], .box b6 23 [(boo r1.1.fWeak), (str r1.1.fTag)]]) ?_ ?_
        · rcases boolE b28 with hb32 | hb32
          · replace hg33 := condT hg33 hb32
            refine WL.gyes rfl rfl hb32 ?_
            refine WL.valw (R.loadBN (i := 1) (vs := [(boo r1.1.fWeak), (str r1.1.fTag)]) S rfl rfl lay23 rfl rfl) ?_
            refine WL.gyes rfl rfl hb32 ?_
            refine WL.valw (R.loadBN (i := 0) (vs := [(boo r9.1.fWeak), (str r9.1.fTag)]) S rfl rfl lay23 rfl rfl) ?_
            refine WL.gyes rfl rfl hb32 ?_
            obtain ⟨r34, hr34, hg33⟩ := bindE hg33
            refine W.call S rfl (etag_Strong_ok S.holds r1.1 r9.1 hr34) ?_
            rintro v35 w36 H37 hle38 S rfl
            refine WL.gyes rfl rfl hb32 ?_
            refine WL.valw (R.not rfl) ?_
            refine WL.valw (R.pickT rfl hb32 rfl) ?_
            exact WL.nil ⟨(congrArg boo (Option.some.inj hg33)), (by repeat (first | exact agree_refl | refine agree_upd rfl ?_ | refine agree_upds' rfl ?_)), ⟨H37, hle38, S⟩⟩
          · replace hg33 := condF hg33 hb32
            refine WL.gno rfl rfl hb32 ?_
            refine WL.gno rfl rfl hb32 ?_
            refine WL.gno rfl rfl hb32 ?_
            refine WL.gno rfl rfl hb32 ?_
            refine WL.valw (R.pickF rfl hb32 rfl) ?_
            exact WL.nil ⟨(congrArg boo (Option.some.inj hg33)), (by repeat (first | exact agree_refl | refine agree_upd rfl ?_ | refine agree_upds' rfl ?_)), ⟨H29, (Hp.le.refl _), S⟩⟩
        · intro us w41 ⟨H40, hle42, S⟩
          refine WL.valw R.move ?_
          obtain ⟨b50, hg44, h⟩ := bindE h
          refine WL.grpw 4 [33, 34, 35] 36 (boo b50) (fun w => ∃ H' : Hp, H40.le H' ∧ St w0 H0 w H' [.box b14 23 [(boo r9.1.fWeak), (str r9.1.fTag)], .box b6 23 [(boo r1.1.fWeak), (str r1.1.fTag)]]) ?_ ?_
          · rcases boolE b39 with hb43 | hb43
            · replace hg44 := condT hg44 hb43
              refine WL.gyes rfl rfl hb43 ?_
              refine WL.valw (R.loadBN (i := 0) (vs := [(boo r9.1.fWeak), (str r9.1.fTag)]) S rfl rfl lay23 rfl rfl) ?_
              refine WL.gyes rfl rfl hb43 ?_
              refine WL.valw (R.loadBN (i := 0) (vs := [(boo r9.1.fWeak), (str r9.1.fTag)]) S rfl rfl lay23 rfl rfl) ?_
              refine WL.gyes rfl rfl hb43 ?_
              obtain ⟨r45, hr45, hg44⟩ := bindE hg44
              refine W.call S rfl (etag_Strong_ok S.holds r9.1 r9.1 hr45) ?_
              rintro v46 w47 H48 hle49 S rfl
              refine WL.valw (R.pickT rfl hb43 rfl) ?_
              exact WL.nil ⟨(congrArg boo (Option.some.inj hg44)), (by repeat (first | exact agree_refl | refine agree_upd rfl ?_ | refine agree_upds' rfl ?_)), ⟨H48, hle49, S⟩⟩
            · replace hg44 := condF hg44 hb43
              refine WL.gno rfl rfl hb43 ?_
              refine WL.gno rfl rfl hb43 ?_
              refine WL.gno rfl rfl hb43 ?_
              refine WL.valw (R.pickF rfl hb43 rfl) ?_
              exact WL.nil ⟨(congrArg boo (Option.some.inj hg44)), (by repeat (first | exact agree_refl | refine agree_upd rfl ?_ | refine agree_upds' rfl ?_)), ⟨H40, (Hp.le.refl _), S⟩⟩
          · intro us w52 ⟨H51, hle53, S⟩
            refine WL.valw R.assign ?_
            refine WL.nil ?_
            obtain rfl := Option.some.inj h
            refine WP.ret (Out.one rfl S rfl ?_)
            exact rfl
set_option maxHeartbeats 4000000 in
theorem law21_EtagCompares_ok {w0 : World} {H0 : Hp} (hw : Holds w0 H0) (p_x : GETag) (p_y : GETag) {r : Bool} (h : law21_EtagCompares p_x p_y = some r) :
    Con Try.prog 3 [(agg [(boo p_x.fWeak), (str p_x.fTag)]), (agg [(boo p_y.fWeak), (str p_y.fTag)])] w0 H0 (fun H' v => v = (boo r)) := by
  refine Con.mk (N := 54) Try.func3 rfl rfl (by kernel_rfl) rfl ?_
  have S := St.start hw
  refine WP.seq ?_
  refine WP.region ?_
  refine W.box [(boo p_x.fWeak), (str p_x.fTag)] S rfl rfl ?_
  intro b1 w2 S
  refine W.box [(boo p_y.fWeak), (str p_y.fTag)] S rfl rfl ?_
  intro b3 w4 S
  refine WL.valw R.assign ?_
  refine WL.nil ?_
  refine WP.seq ?_
  refine WP.seq ?_
  refine WP.region ?_
  refine WL.valw (R.fieldB rfl fld23_1) ?_
  refine WL.valw (R.loadB (i := 1) (v := (str p_x.fTag)) S rfl rfl lay9 rfl) ?_
  refine WL.valw (R.lenS (a := p_x.fTag) rfl Try.underlying9) ?_
  refine WL.valw (R.gtr rfl rfl) ?_
  refine WL.valw R.move ?_
  refine WL.grp 5 [10, 11, 12, 13] 14 (boo ((decide (1000 < (p_x.fTag.length : Int))) || (decide (1000 < (p_y.fTag.length : Int))))) ?_ ?_
  · rcases boolE (decide (1000 < (p_x.fTag.length : Int))) with hb5 | hb5
    · refine WL.gno rfl rfl hb5 ?_
      refine WL.gno rfl rfl hb5 ?_
      refine WL.gno rfl rfl hb5 ?_
      refine WL.gno rfl rfl hb5 ?_
      refine WL.valw (R.pickT rfl hb5 rfl) ?_
      exact WL.nil ⟨(orT hb5), (by repeat (first | exact agree_refl | refine agree_upd rfl ?_ | refine agree_upds' rfl ?_)), rfl⟩
    · refine WL.gyes rfl rfl hb5 ?_
      refine WL.valw (R.fieldB rfl fld23_1) ?_
      refine WL.gyes rfl rfl hb5 ?_
      refine WL.valw (R.loadB (i := 0) (v := (str p_y.fTag)) S rfl rfl lay9 rfl) ?_
      refine WL.gyes rfl rfl hb5 ?_
      refine WL.valw (R.lenS (a := p_y.fTag) rfl Try.underlying9) ?_
      refine WL.gyes rfl rfl hb5 ?_
      refine WL.valw (R.gtr rfl rfl) ?_
      refine WL.valw (R.pickF rfl hb5 rfl) ?_
      exact WL.nil ⟨(orF hb5), (by repeat (first | exact agree_refl | refine agree_upd rfl ?_ | refine agree_upds' rfl ?_)), rfl⟩
  · intro us
    refine WL.nil ?_
    rcases condE h with ⟨hc7, h⟩ | ⟨hc7, h⟩
    · refine WP.condT rfl hc7 ?_
      refine WP.seq ?_
      refine WP.region ?_
      refine WL.valw R.assign ?_
      refine WL.nil ?_
      obtain rfl := Option.some.inj h
      refine WP.ret (Out.one rfl S rfl ?_)
      exact rfl
    · refine WP.condF rfl hc7 ?_
      refine WP.skip ?_
      refine WP.seq ?_
      refine WP.quiet S (by kernel_rfl) (by kernel_rfl) ?_
      refine WQ.val (fun w hw => by obtain ⟨_, hq, S⟩ := hw; exact (R.loadBN (i := 1) (vs := [(boo p_x.fWeak), (str p_x.fTag)]) S rfl rfl lay23 rfl rfl)) ?_
      refine WQ.val (fun w hw => by obtain ⟨_, hq, S⟩ := hw; exact (R.loadBN (i := 0) (vs := [(boo p_y.fWeak), (str p_y.fTag)]) S rfl rfl lay23 rfl rfl)) ?_
      obtain ⟨r11, hr11, h⟩ := bindE h
      refine WQ.call (v := (boo r11)) rfl (fun w H' hq S => etag_Strong_ok S.holds p_x p_y hr11) ?_
      refine WQ.val (fun w hw => by obtain ⟨_, hq, S⟩ := hw; exact (R.loadBN (i := 1) (vs := [(boo p_x.fWeak), (str p_x.fTag)]) S rfl rfl lay23 rfl rfl)) ?_
      refine WQ.val (fun w hw => by obtain ⟨_, hq, S⟩ := hw; exact (R.loadBN (i := 0) (vs := [(boo p_y.fWeak), (str p_y.fTag)]) S rfl rfl lay23 rfl rfl)) ?_
      obtain ⟨r16, hr16, h⟩ := bindE h
      refine WQ.call (v := (boo r16)) rfl (fun w H' hq S => ref19_Strong_ok S.holds p_x p_y hr16) ?_
      refine WQ.val (fun _ _ => (R.eqlB rfl rfl Try.underlying4)) ?_
      refine WQ.val (fun _ _ => R.move) ?_
      obtain ⟨b33, hg22, h⟩ := bindE h
      refine WQ.grp 8 [23, 24, 25, 26, 27, 28, 29] 30 (boo b33) ?_ ?_
      · rcases boolE (r11 == r16) with hb21 | hb21
        · replace hg22 := condT hg22 hb21
          refine WQ.gyes rfl rfl hb21 ?_
          refine WQ.val (fun w hw => by obtain ⟨_, hq, S⟩ := hw; exact (R.loadBN (i := 1) (vs := [(boo p_x.fWeak), (str p_x.fTag)]) S rfl rfl lay23 rfl rfl)) ?_
          refine WQ.gyes rfl rfl hb21 ?_
          refine WQ.val (fun w hw => by obtain ⟨_, hq, S⟩ := hw; exact (R.loadBN (i := 0) (vs := [(boo p_y.fWeak), (str p_y.fTag)]) S rfl rfl lay23 rfl rfl)) ?_
          refine WQ.gyes rfl rfl hb21 ?_
          obtain ⟨r23, hr23, hg22⟩ := bindE hg22
          refine WQ.call (v := (boo r23)) rfl (fun w H' hq S => etag_Weak_ok S.holds p_x p_y hr23) ?_
          refine WQ.gyes rfl rfl hb21 ?_
          refine WQ.val (fun w hw => by obtain ⟨_, hq, S⟩ := hw; exact (R.loadBN (i := 1) (vs := [(boo p_x.fWeak), (str p_x.fTag)]) S rfl rfl lay23 rfl rfl)) ?_
          refine WQ.gyes rfl rfl hb21 ?_
          refine WQ.val (fun w hw => by obtain ⟨_, hq, S⟩ := hw; exact (R.loadBN (i := 0) (vs := [(boo p_y.fWeak), (str p_y.fTag)]) S rfl rfl lay23 rfl rfl)) ?_
          refine WQ.gyes rfl rfl hb21 ?_
          obtain ⟨r28, hr28, hg22⟩ := bindE hg22
          refine WQ.call (v := (boo r28)) rfl (fun w H' hq S => ref19_Weak_ok S.holds p_x p_y hr28) ?_
          refine WQ.gyes rfl rfl hb21 ?_
          refine WQ.val (fun _ _ => (R.eqlB rfl rfl Try.underlying4)) ?_
          refine WQ.val (fun _ _ => (R.pickT rfl hb21 rfl)) ?_
          exact WQ.nil ⟨(congrArg boo (Option.some.inj hg22)), (by repeat (first | exact agree_refl | refine agree_upd rfl ?_ | refine agree_upds' rfl ?_))⟩
        · replace hg22 := condF hg22 hb21
          refine WQ.gno rfl rfl hb21 ?_
          refine WQ.gno rfl rfl hb21 ?_
          refine WQ.gno rfl rfl hb21 ?_
          refine WQ.gno rfl rfl hb21 ?_
          refine WQ.gno rfl rfl hb21 ?_
          refine WQ.gno rfl rfl hb21 ?_
          refine WQ.gno rfl rfl hb21 ?_
          refine WQ.val (fun _ _ => (R.pickF rfl hb21 rfl)) ?_
          exact WQ.nil ⟨(congrArg boo (Option.some.inj hg22)), (by repeat (first | exact agree_refl | refine agree_upd rfl ?_ | refine agree_upds' rfl ?_))⟩
      · intro us
        refine WQ.val (fun _ _ => R.move) ?_
        obtain ⟨b49, hg35, h⟩ := bindE h
        refine WQ.grp 10 [32, 33, 34, 35, 36, 37, 38, 39, 40] 41 (boo b49) ?_ ?_
        · rcases boolE b33 with hb34 | hb34
          · replace hg35 := condT hg35 hb34
            refine WQ.gyes rfl rfl hb34 ?_
            refine WQ.val (fun w hw => by obtain ⟨_, hq, S⟩ := hw; exact (R.loadBN (i := 1) (vs := [(boo p_x.fWeak), (str p_x.fTag)]) S rfl rfl lay23 rfl rfl)) ?_
            refine WQ.gyes rfl rfl hb34 ?_
            refine WQ.val (fun w hw => by obtain ⟨_, hq, S⟩ := hw; exact (R.loadBN (i := 0) (vs := [(boo p_y.fWeak), (str p_y.fTag)]) S rfl rfl lay23 rfl rfl)) ?_
            refine WQ.gyes rfl rfl hb34 ?_
            obtain ⟨r36, hr36, hg35⟩ := bindE hg35
            refine WQ.call (v := (boo r36)) rfl (fun w H' hq S => etag_Strong_ok S.holds p_x p_y hr36) ?_
            refine WQ.gyes rfl rfl hb34 ?_
            refine WQ.val (fun _ _ => (R.not rfl)) ?_
            refine WQ.gyes rfl rfl hb34 ?_
            refine WQ.val (fun _ _ => R.move) ?_
            obtain ⟨b48, hg42, hg35⟩ := bindE hg35
            refine WQ.grp 4 [37, 38, 39] 40 (boo b48) ?_ ?_
            · rcases boolE (!r36) with hb41 | hb41
              · replace hg42 := condT hg42 hb41
                refine WQ.gno rfl rfl hb41 ?_
                refine WQ.gno rfl rfl hb41 ?_
                refine WQ.gno rfl rfl hb41 ?_
                refine WQ.gyes rfl rfl hb34 ?_
                refine WQ.val (fun _ _ => (R.pickT rfl hb41 rfl)) ?_
                exact WQ.nil ⟨(congrArg boo (Option.some.inj hg42)), (by repeat (first | exact agree_refl | refine agree_upd rfl ?_ | refine agree_upds' rfl ?_))⟩
              · replace hg42 := condF hg42 hb41
                refine WQ.gyes rfl rfl hb41 ?_
                refine WQ.val (fun w hw => by obtain ⟨_, hq, S⟩ := hw; exact (R.loadBN (i := 1) (vs := [(boo p_x.fWeak), (str p_x.fTag)]) S rfl rfl lay23 rfl rfl)) ?_
                refine WQ.gyes rfl rfl hb41 ?_
                refine WQ.val (fun w hw => by obtain ⟨_, hq, S⟩ := hw; exact (R.loadBN (i := 0) (vs := [(boo p_y.fWeak), (str p_y.fTag)]) S rfl rfl lay23 rfl rfl)) ?_
                refine WQ.gyes rfl rfl hb41 ?_
                obtain ⟨r43, hr43, hg42⟩ := bindE hg42
                refine WQ.call (v := (boo r43)) rfl (fun w H' hq S => etag_Weak_ok S.holds p_x p_y hr43) ?_
                refine WQ.gyes rfl rfl hb34 ?_
                refine WQ.val (fun _ _ => (R.pickF rfl hb41 rfl)) ?_
                exact WQ.nil ⟨(congrArg boo (Option.some.inj hg42)), (by repeat (first | exact agree_refl | refine agree_upd rfl ?_ | refine agree_upds' rfl ?_))⟩
            · intro us
              refine WQ.val (fun _ _ => (R.pickT rfl hb34 rfl)) ?_
              exact WQ.nil ⟨(congrArg boo (Option.some.inj hg35)), (by repeat (first | exact agree_refl | refine agree_upd rfl ?_ | refine agree_upds' rfl ?_))⟩
          · replace hg35 := condF hg35 hb34
            refine WQ.gno rfl rfl hb34 ?_
            refine WQ.gno rfl rfl hb34 ?_
            refine WQ.gno rfl rfl hb34 ?_
            refine WQ.gno rfl rfl hb34 ?_
            refine WQ.gno rfl rfl hb34 ?_
            refine WQ.gund rfl rfl ?_
            refine WQ.gund rfl rfl ?_
            refine WQ.gund rfl rfl ?_
            refine WQ.gno rfl rfl hb34 ?_
            refine WQ.val (fun _ _ => (R.pickF rfl hb34 rfl)) ?_
            exact WQ.nil ⟨(congrArg boo (Option.some.inj hg35)), (by repeat (first | exact agree_refl | refine agree_upd rfl ?_ | refine agree_upds' rfl ?_))⟩
        · intro us
          refine WQ.val (fun _ _ => R.move) ?_
          obtain ⟨b62, hg51, h⟩ := bindE h
          refine WQ.grp 8 [43, 44, 45, 46, 47, 48, 49] 50 (boo b62) ?_ ?_
          · rcases boolE b49 with hb50 | hb50
            · replace hg51 := condT hg51 hb50
              refine WQ.gyes rfl rfl hb50 ?_
              refine WQ.val (fun w hw => by obtain ⟨_, hq, S⟩ := hw; exact (R.loadBN (i := 1) (vs := [(boo p_x.fWeak), (str p_x.fTag)]) S rfl rfl lay23 rfl rfl)) ?_
              refine WQ.gyes rfl rfl hb50 ?_
              refine WQ.val (fun w hw => by obtain ⟨_, hq, S⟩ := hw; exact (R.loadBN (i := 0) (vs := [(boo p_y.fWeak), (str p_y.fTag)]) S rfl rfl lay23 rfl rfl)) ?_
              refine WQ.gyes rfl rfl hb50 ?_
              obtain ⟨r52, hr52, hg51⟩ := bindE hg51
              refine WQ.call (v := (boo r52)) rfl (fun w H' hq S => etag_Weak_ok S.holds p_x p_y hr52) ?_
              refine WQ.gyes rfl rfl hb50 ?_
              refine WQ.val (fun w hw => by obtain ⟨_, hq, S⟩ := hw; exact (R.loadBN (i := 0) (vs := [(boo p_y.fWeak), (str p_y.fTag)]) S rfl rfl lay23 rfl rfl)) ?_
              refine WQ.gyes rfl rfl hb50 ?_
              refine WQ.val (fun w hw => by obtain ⟨_, hq, S⟩ := hw; exact (R.loadBN (i := 1) (vs := [(boo p_x.fWeak), (str p_x.fTag)]) S rfl rfl lay23 rfl rfl)) ?_
              refine WQ.gyes rfl rfl hb50 ?_
              obtain ⟨r57, hr57, hg51⟩ := bindE hg51
              refine WQ.call (v := (boo r57)) rfl (fun w H' hq S => etag_Weak_ok S.holds p_y p_x hr57) ?_
              refine WQ.gyes rfl rfl hb50 ?_
              refine WQ.val (fun _ _ => (R.eqlB rfl rfl Try.underlying4)) ?_
              refine WQ.val (fun _ _ => (R.pickT rfl hb50 rfl)) ?_
              exact WQ.nil ⟨(congrArg boo (Option.some.inj hg51)), (by repeat (first | exact agree_refl | refine agree_upd rfl ?_ | refine agree_upds' rfl ?_))⟩
            · replace hg51 := condF hg51 hb50
              refine WQ.gno rfl rfl hb50 ?_
              refine WQ.gno rfl rfl hb50 ?_
              refine WQ.gno rfl rfl hb50 ?_
              refine WQ.gno rfl rfl hb50 ?_
              refine WQ.gno rfl rfl hb50 ?_
              refine WQ.gno rfl rfl hb50 ?_
              refine WQ.gno rfl rfl hb50 ?_
              refine WQ.val (fun _ _ => (R.pickF rfl hb50 rfl)) ?_
              exact WQ.nil ⟨(congrArg boo (Option.some.inj hg51)), (by repeat (first | exact agree_refl | refine agree_upd rfl ?_ | refine agree_upds' rfl ?_))⟩
          · intro us
            refine WQ.val (fun _ _ => R.move) ?_
            obtain ⟨b70, hg64, h⟩ := bindE h
            refine WQ.grp 2 [52] 53 (boo b70) ?_ ?_
            · rcases boolE b62 with hb63 | hb63
              · replace hg64 := condT hg64 hb63
                refine WQ.gyes rfl rfl hb63 ?_
                obtain ⟨r65, hr65, hg64⟩ := bindE hg64
                refine WQ.call (v := (boo r65)) rfl (fun w H' hq S => law21_awake_ok S.holds  hr65) ?_
                refine WQ.val (fun _ _ => (R.pickT rfl hb63 rfl)) ?_
                exact WQ.nil ⟨(congrArg boo (Option.some.inj hg64)), (by repeat (first | exact agree_refl | refine agree_upd rfl ?_ | refine agree_upds' rfl ?_))⟩
              · replace hg64 := condF hg64 hb63
                refine WQ.gno rfl rfl hb63 ?_
                refine WQ.val (fun _ _ => (R.pickF rfl hb63 rfl)) ?_
                exact WQ.nil ⟨(congrArg boo (Option.some.inj hg64)), (by repeat (first | exact agree_refl | refine agree_upd rfl ?_ | refine agree_upds' rfl ?_))⟩
            · intro us
              refine WQ.val (fun _ _ => R.assign) ?_
              refine WQ.nil ?_
              intro w8 H9 hle10 S
              obtain rfl := Option.some.inj h
              refine WP.ret (Out.one rfl S rfl ?_)
              exact rfl
set_option maxHeartbeats 4000000 in
theorem ref19_tagText_ok {w0 : World} {H0 : Hp} (hw : Holds w0 H0) (p_s : Str) {r : Bool} (h : ref19_tagText p_s = some r) :
    Con Try.prog 20 [(str p_s)] w0 H0 (fun H' v => v = (boo r)) := by
  refine Con.mk (N := 26) Try.func20 rfl rfl (by kernel_rfl) rfl ?_
  have S := St.start hw
  refine WP.seq ?_
  refine WP.region ?_
  refine WL.valw R.assign ?_
  refine WL.nil ?_
  refine WP.seq ?_
  refine WP.seq ?_
  refine WP.region ?_
  refine WL.valw R.assign ?_
  refine WL.nil ?_
  obtain ⟨r9, hr10, h⟩ := bindE h
  refine WP.cut (fun f w => match r9 with | .inl _ => ∃ (H5 : Hp), St w0 H0 w H5 [] | .inr _ => False) ?_ ?_
  · refine WP.block ?_
    refine WP.loopM (ref19_tagText_L0 p_s) (fun s f w => match s with | i_3 => ∃ (H1 : Hp), f 0 = (str p_s) ∧ f 3 = (int i_3) ∧ St w0 H0 w H1 []) 0 r9 hr10 ?_ ?_
    · exact ⟨H0, rfl, rfl, S⟩
    · intro i_3 f w hI y6 hy7 hy8
      obtain ⟨H1, h2, h4, S⟩ := hI
      refine WP.seq ?_
      refine WP.seq ?_
      refine WP.region ?_
      refine WL.valw (R.mv h4) ?_
      refine WL.valw (R.mv h2) ?_
      refine WL.valw (R.lenS (a := p_s) rfl Try.underlying9) ?_
      refine WL.valw (R.lss rfl rfl) ?_
      refine WL.nil ?_
      rcases condE hy7 with ⟨hc11, hy7⟩ | ⟨hc11, hy7⟩
      · refine WP.condT rfl hc11 ?_
        refine WP.skip ?_
        refine WP.seq ?_
        refine WP.block ?_
        refine WP.seq ?_
        refine WP.region ?_
        refine WL.valw (R.mv h2) ?_
        refine WL.valw (R.mv h4) ?_
        obtain ⟨c12, hc12, hy7⟩ := bindE hy7
        refine WL.valw (R.idxS rfl rfl Try.underlying9 hc12) ?_
        refine WL.valw (R.lss8 (a := c12) (b := 33) rfl rfl) ?_
        refine WL.valw R.move ?_
        obtain ⟨b16, hg14, hy7⟩ := bindE hy7
        refine WL.grp 5 [15, 16, 17, 18] 19 (boo b16) ?_ ?_
        · rcases boolE (decide (c12 < 33)) with hb13 | hb13
          · replace hg14 := condT hg14 hb13
            refine WL.gno rfl rfl hb13 ?_
            refine WL.gno rfl rfl hb13 ?_
            refine WL.gno rfl rfl hb13 ?_
            refine WL.gno rfl rfl hb13 ?_
            refine WL.valw (R.pickT rfl hb13 rfl) ?_
            exact WL.nil ⟨(congrArg boo (Option.some.inj hg14)), (by repeat (first | exact agree_refl | refine agree_upd rfl ?_ | refine agree_upds' rfl ?_)), rfl⟩
          · replace hg14 := condF hg14 hb13
            refine WL.gyes rfl rfl hb13 ?_
            refine WL.valw (R.mv h2) ?_
            refine WL.gyes rfl rfl hb13 ?_
            refine WL.valw (R.mv h4) ?_
            refine WL.gyes rfl rfl hb13 ?_
            obtain ⟨c15, hc15, hg14⟩ := bindE hg14
            refine WL.valw (R.idxS rfl rfl Try.underlying9 hc15) ?_
            refine WL.gyes rfl rfl hb13 ?_
            refine WL.valw (R.eql8 (a := c15) (b := 34) rfl rfl) ?_
            refine WL.valw (R.pickF rfl hb13 rfl) ?_
            exact WL.nil ⟨(congrArg boo (Option.some.inj hg14)), (by repeat (first | exact agree_refl | refine agree_upd rfl ?_ | refine agree_upds' rfl ?_)), rfl⟩
        · intro us
          refine WL.valw R.move ?_
          obtain ⟨b20, hg18, hy7⟩ := bindE hy7
          refine WL.grp 5 [21, 22, 23, 24] 25 (boo b20) ?_ ?_
          · rcases boolE b16 with hb17 | hb17
            · replace hg18 := condT hg18 hb17
              refine WL.gno rfl rfl hb17 ?_
              refine WL.gno rfl rfl hb17 ?_
              refine WL.gno rfl rfl hb17 ?_
              refine WL.gno rfl rfl hb17 ?_
              refine WL.valw (R.pickT rfl hb17 rfl) ?_
              exact WL.nil ⟨(congrArg boo (Option.some.inj hg18)), (by repeat (first | exact agree_refl | refine agree_upd rfl ?_ | refine agree_upds' rfl ?_)), rfl⟩
            · replace hg18 := condF hg18 hb17
              refine WL.gyes rfl rfl hb17 ?_
              refine WL.valw (R.mv h2) ?_
              refine WL.gyes rfl rfl hb17 ?_
              refine WL.valw (R.mv h4) ?_
              refine WL.gyes rfl rfl hb17 ?_
              obtain ⟨c19, hc19, hg18⟩ := bindE hg18
              refine WL.valw (R.idxS rfl rfl Try.underlying9 hc19) ?_
              refine WL.gyes rfl rfl hb17 ?_
              refine WL.valw (R.eql8 (a := c19) (b := 127) rfl rfl) ?_
              refine WL.valw (R.pickF rfl hb17 rfl) ?_
              exact WL.nil ⟨(congrArg boo (Option.some.inj hg18)), (by repeat (first | exact agree_refl | refine agree_upd rfl ?_ | refine agree_upds' rfl ?_)), rfl⟩
          · intro us
            refine WL.nil ?_
            rcases condE hy7 with ⟨hc21, hy7⟩ | ⟨hc21, hy7⟩
            · refine WP.condT rfl hc21 ?_
              refine WP.seq ?_
              refine WP.region ?_
              refine WL.valw R.assign ?_
              refine WL.nil ?_
              obtain rfl := Option.some.inj hy7
              obtain rfl := hy8
              obtain rfl := Option.some.inj h
              refine WP.ret (Out.one rfl S rfl ?_)
              exact rfl
            · refine WP.condF rfl hc21 ?_
              refine WP.skip ?_
              refine WP.region ?_
              refine WL.valw (R.mv h4) ?_
              refine WL.valw (R.add rfl rfl) ?_
              refine WL.valw R.assign ?_
              refine WL.nil ?_
              obtain rfl := Option.some.inj hy7
              exact ⟨rfl, ⟨H1, h2, rfl, S⟩⟩
      · refine WP.condF rfl hc11 ?_
        refine WP.exit ?_
        obtain rfl := Option.some.inj hy7
        obtain rfl := hy8
        exact ⟨H1, S⟩
  · intro f w hM
    rcases r9 with _ | e
    · obtain ⟨H5, S⟩ := hM
      refine WP.seq ?_
      refine WP.region ?_
      refine WL.valw R.assign ?_
      refine WL.nil ?_
      obtain rfl := Option.some.inj h
      refine WP.ret (Out.one rfl S rfl ?_)
      exact rfl
    · exact hM.elim
set_option maxHeartbeats 4000000 in
theorem ref19_ParseETag_ok {w0 : World} {H0 : Hp} (hw : Holds w0 H0) (p_s : Str) {r : (GETag × Bool)} (h : ref19_ParseETag p_s = some r) :
    Con Try.prog 12 [(str p_s)] w0 H0 (fun H' v => v = (.tuple ⟨[(agg [(boo r.1.fWeak), (str r.1.fTag)]), (boo r.2)]⟩)) := by
  refine Con.mk (N := 49) Try.func12 rfl rfl (by kernel_rfl) rfl ?_
  have S := St.start hw
  refine WP.seq ?_
  refine WP.region ?_
  refine W.alloc [(boo false), (str [])] S zer23 ?_
  intro b1 w2 S
  refine WL.valw R.assign ?_
  refine WL.nil ?_
  refine WP.seq ?_
  refine WP.region ?_
  refine W.alloc [(boo false), (str [])] S zer23 ?_
  intro b3 w4 S
  refine WL.nil ?_
  refine WP.seq ?_
  refine WP.seq ?_
  refine WP.region ?_
  refine WL.valw R.move ?_
  refine WL.valw (R.lenS (a := p_s) rfl Try.underlying9) ?_
  refine WL.valw (R.gtr rfl rfl) ?_
  refine WL.valw R.move ?_
  obtain ⟨b8, hg6, h⟩ := bindE h
  refine WL.grp 4 [9, 10, 11] 12 (boo b8) ?_ ?_
  · rcases boolE (decide (2 < (p_s.length : Int))) with hb5 | hb5
    · replace hg6 := condT hg6 hb5
      refine WL.gyes rfl rfl hb5 ?_
      refine WL.valw R.move ?_
      refine WL.gyes rfl rfl hb5 ?_
      obtain ⟨s7, hs7, hg6⟩ := bindE hg6
      refine WL.valw (R.subShi rfl rfl Try.underlying9 hs7) ?_
      refine WL.gyes rfl rfl hb5 ?_
      refine WL.valw (R.eqlS (a := s7) (b := [87, 47]) rfl rfl) ?_
      refine WL.valw (R.pickT rfl hb5 rfl) ?_
      exact WL.nil ⟨(congrArg boo (Option.some.inj hg6)), (by repeat (first | exact agree_refl | refine agree_upd rfl ?_ | refine agree_upds' rfl ?_)), rfl⟩
    · replace hg6 := condF hg6 hb5
      refine WL.gno rfl rfl hb5 ?_
      refine WL.gno rfl rfl hb5 ?_
      refine WL.gno rfl rfl hb5 ?_
      refine WL.valw (R.pickF rfl hb5 rfl) ?_
      exact WL.nil ⟨(congrArg boo (Option.some.inj hg6)), (by repeat (first | exact agree_refl | refine agree_upd rfl ?_ | refine agree_upds' rfl ?_)), rfl⟩
  · intro us
    refine WL.nil ?_
    obtain ⟨⟨s_10, m14, m15⟩, hj16, h⟩ := bindE h
    refine WP.cut (fun f w => ∃ (H9 : Hp), f 0 = (str s_10) ∧ f 2 = (ptr b1 0) ∧ f 4 = (ptr b3 0) ∧ St w0 H0 w H9 [.box b3 23 [(boo m14), (str m15)], .box b1 23 [(boo false), (str [])]]) ?_ ?_
    · rcases condE hj16 with ⟨hc18, hj16⟩ | ⟨hc18, hj16⟩
      · refine WP.condT rfl hc18 ?_
        refine WP.draw (by kernel_rfl) 5 rfl #[false, false, false, false, false] rfl ?_
        have S := S.drew
        refine WA.take (i := 0) #[true, false, false, false, false] rfl (by kernel_rfl) (by kernel_rfl) (by kernel_rfl) rfl (fun _ => R.move) ?_
        obtain ⟨s19, hs19, hj16⟩ := bindE hj16
        refine WA.take (i := 1) #[true, true, false, false, false] rfl (by kernel_rfl) (by kernel_rfl) (by kernel_rfl) rfl (fun _ => (R.subSlo rfl rfl Try.underlying9 hs19)) ?_
        refine WA.take (i := 2) #[true, true, true, false, false] rfl (by kernel_rfl) (by kernel_rfl) (by kernel_rfl) rfl (fun _ => (R.fieldB rfl fld23_0)) ?_
        refine WA.one (i := 3) #[true, true, true, true, false] rfl (by kernel_rfl) rfl ?_
        refine W.store (i := 0) [(boo true), (str [])] S rfl rfl rfl lay4 rfl rfl (Nat.le_of_ble_eq_true rfl) rfl ?_
        intro w20 S
        refine WL.nil ?_
        refine WA.take (i := 4) #[true, true, true, true, true] rfl (by kernel_rfl) (by kernel_rfl) (by kernel_rfl) rfl (fun _ => R.assign) ?_
        refine WA.done (by kernel_rfl) ?_
        cases Option.some.inj hj16
        exact ⟨H0, rfl, rfl, rfl, S⟩
      · refine WP.condF rfl hc18 ?_
        refine WP.skip ?_
        cases Option.some.inj hj16
        exact ⟨H0, rfl, rfl, rfl, S⟩
    · rintro f w ⟨H9, h11, h12, h13, S⟩
      refine WP.seq ?_
      refine WP.seq ?_
      refine WP.region ?_
      refine WL.valw (R.mv h11) ?_
      refine WL.valw (R.lenS (a := s_10) rfl Try.underlying9) ?_
      refine WL.valw (R.lss rfl rfl) ?_
      refine WL.valw R.move ?_
      obtain ⟨b24, hg22, h⟩ := bindE h
      refine WL.grp 4 [20, 21, 22] 23 (boo b24) ?_ ?_
      · rcases boolE (decide ((s_10.length : Int) < 2)) with hb21 | hb21
        · replace hg22 := condT hg22 hb21
          refine WL.gno rfl rfl hb21 ?_
          refine WL.gno rfl rfl hb21 ?_
          refine WL.gno rfl rfl hb21 ?_
          refine WL.valw (R.pickT rfl hb21 rfl) ?_
          exact WL.nil ⟨(congrArg boo (Option.some.inj hg22)), (by repeat (first | exact agree_refl | refine agree_upd rfl ?_ | refine agree_upds' rfl ?_)), rfl⟩
        · replace hg22 := condF hg22 hb21
          refine WL.gyes rfl rfl hb21 ?_
          refine WL.valw (R.mv h11) ?_
          refine WL.gyes rfl rfl hb21 ?_
          obtain ⟨c23, hc23, hg22⟩ := bindE hg22
          refine WL.valw (R.idxS rfl rfl Try.underlying9 hc23) ?_
          refine WL.gyes rfl rfl hb21 ?_
          refine WL.valw (R.neq8 (a := c23) (b := 34) rfl rfl) ?_
          refine WL.valw (R.pickF rfl hb21 rfl) ?_
          exact WL.nil ⟨(congrArg boo (Option.some.inj hg22)), (by repeat (first | exact agree_refl | refine agree_upd rfl ?_ | refine agree_upds' rfl ?_)), rfl⟩
      · intro us
        refine WL.valw R.move ?_
        obtain ⟨b28, hg26, h⟩ := bindE h
        refine WL.grp 7 [25, 26, 27, 28, 29, 30] 31 (boo b28) ?_ ?_
        · rcases boolE b24 with hb25 | hb25
          · replace hg26 := condT hg26 hb25
            refine WL.gno rfl rfl hb25 ?_
            refine WL.gno rfl rfl hb25 ?_
            refine WL.gno rfl rfl hb25 ?_
            refine WL.gno rfl rfl hb25 ?_
            refine WL.gno rfl rfl hb25 ?_
            refine WL.gno rfl rfl hb25 ?_
            refine WL.valw (R.pickT rfl hb25 rfl) ?_
            exact WL.nil ⟨(congrArg boo (Option.some.inj hg26)), (by repeat (first | exact agree_refl | refine agree_upd rfl ?_ | refine agree_upds' rfl ?_)), rfl⟩
          · replace hg26 := condF hg26 hb25
            refine WL.gyes rfl rfl hb25 ?_
            refine WL.valw (R.mv h11) ?_
            refine WL.gyes rfl rfl hb25 ?_
            refine WL.valw (R.mv h11) ?_
            refine WL.gyes rfl rfl hb25 ?_
            refine WL.valw (R.lenS (a := s_10) rfl Try.underlying9) ?_
            refine WL.gyes rfl rfl hb25 ?_
            refine WL.valw (R.sub rfl rfl) ?_
            refine WL.gyes rfl rfl hb25 ?_
            obtain ⟨c27, hc27, hg26⟩ := bindE hg26
            refine WL.valw (R.idxS rfl rfl Try.underlying9 hc27) ?_
            refine WL.gyes rfl rfl hb25 ?_
            refine WL.valw (R.neq8 (a := c27) (b := 34) rfl rfl) ?_
            refine WL.valw (R.pickF rfl hb25 rfl) ?_
            exact WL.nil ⟨(congrArg boo (Option.some.inj hg26)), (by repeat (first | exact agree_refl | refine agree_upd rfl ?_ | refine agree_upds' rfl ?_)), rfl⟩
        · intro us
          refine WL.valw R.move ?_
          obtain ⟨b37, hg30, h⟩ := bindE h
          refine WL.grpw 8 [33, 34, 35, 36, 37, 38, 39] 40 (boo b37) (fun w => ∃ H' : Hp, H9.le H' ∧ St w0 H0 w H' [.box b3 23 [(boo m14), (str m15)], .box b1 23 [(boo false), (str [])]]) ?_ ?_
          · rcases boolE b28 with hb29 | hb29
            · replace hg30 := condT hg30 hb29
              refine WL.gno rfl rfl hb29 ?_
              refine WL.gno rfl rfl hb29 ?_
              refine WL.gno rfl rfl hb29 ?_
              refine WL.gno rfl rfl hb29 ?_
              refine WL.gno rfl rfl hb29 ?_
              refine WL.gno rfl rfl hb29 ?_
              refine WL.gno rfl rfl hb29 ?_
              refine WL.valw (R.pickT rfl hb29 rfl) ?_
              exact WL.nil ⟨(congrArg boo (Option.some.inj hg30)), (by repeat (first | exact agree_refl | refine agree_upd rfl ?_ | refine agree_upds' rfl ?_)), ⟨H9, (Hp.le.refl _), S⟩⟩
            · replace hg30 := condF hg30 hb29
              refine WL.gyes rfl rfl hb29 ?_
              refine WL.valw (R.mv h11) ?_
              refine WL.gyes rfl rfl hb29 ?_
              refine WL.valw (R.mv h11) ?_
              refine WL.gyes rfl rfl hb29 ?_
              refine WL.valw (R.lenS (a := s_10) rfl Try.underlying9) ?_
              refine WL.gyes rfl rfl hb29 ?_
              refine WL.valw (R.sub rfl rfl) ?_
              refine WL.gyes rfl rfl hb29 ?_
              obtain ⟨s31, hs31, hg30⟩ := bindE hg30
              refine WL.valw (R.subS rfl rfl rfl Try.underlying9 hs31) ?_
              refine WL.gyes rfl rfl hb29 ?_
              obtain ⟨r32, hr32, hg30⟩ := bindE hg30
              refine W.call S rfl (ref19_tagText_ok S.holds s31 hr32) ?_
              rintro v33 w34 H35 hle36 S rfl
              refine WL.gyes rfl rfl hb29 ?_
              refine WL.valw (R.not rfl) ?_
              refine WL.valw (R.pickF rfl hb29 rfl) ?_
              exact WL.nil ⟨(congrArg boo (Option.some.inj hg30)), (by repeat (first | exact agree_refl | refine agree_upd rfl ?_ | refine agree_upds' rfl ?_)), ⟨H35, hle36, S⟩⟩
          · intro us w39 ⟨H38, hle40, S⟩
            refine WL.nil ?_
            rcases condE h with ⟨hc41, h⟩ | ⟨hc41, h⟩
            · refine WP.condT rfl hc41 ?_
              refine WP.seq ?_
              refine WP.region ?_
              refine WL.valw (R.build [] [(boo false), (str [])] bp23 zer23 rfl rfl) ?_
              refine W.store (i := 1) [(boo false), (str [])] S h12 rfl rfl lay23 rfl rfl (Nat.le_of_ble_eq_true rfl) rfl ?_
              intro w42 S
              refine WL.valw R.assign ?_
              refine WL.nil ?_
              obtain rfl := Option.some.inj h
              refine WP.ret (Out.two rfl S (Res.cellB (i := 1) (cs := [(boo false), (str [])]) S h12 rfl lay23 rfl rfl) rfl ?_)
              exact rfl
            · refine WP.condF rfl hc41 ?_
              refine WP.skip ?_
              refine WP.seq ?_
              refine WP.region ?_
              refine WL.valw (R.mv h11) ?_
              refine WL.valw (R.mv h11) ?_
              refine WL.valw (R.lenS (a := s_10) rfl Try.underlying9) ?_
              refine WL.valw (R.sub rfl rfl) ?_
              obtain ⟨s43, hs43, h⟩ := bindE h
              refine WL.valw (R.subS rfl rfl rfl Try.underlying9 hs43) ?_
              refine WL.valw (R.fieldB h13 fld23_1) ?_
              refine W.store (i := 0) [(boo m14), (str s43)] S rfl rfl rfl lay9 rfl rfl (Nat.le_of_ble_eq_true rfl) rfl ?_
              intro w44 S
              refine WL.nil ?_
              refine WP.seq ?_
              refine WP.region ?_
              refine WL.valw (R.loadBN (i := 0) (vs := [(boo m14), (str s43)]) S h13 rfl lay23 rfl rfl) ?_
              refine W.store (i := 1) [(boo m14), (str s43)] S h12 rfl rfl lay23 rfl rfl (Nat.le_of_ble_eq_true rfl) rfl ?_
              intro w45 S
              refine WL.valw R.assign ?_
              refine WL.nil ?_
              obtain rfl := Option.some.inj h
              refine WP.ret (Out.two rfl S (Res.cellB (i := 1) (cs := [(boo m14), (str s43)]) S h12 rfl lay23 rfl rfl) rfl ?_)
              exact rfl
set_option maxHeartbeats 4000000 in
theorem etag_Format_ok {w0 : World} {H0 : Hp} (hw : Holds w0 H0) (p_e : GETag) {r : Str} (h : etag_Format p_e = some r) :
    Con Try.prog 13 [(agg [(boo p_e.fWeak), (str p_e.fTag)])] w0 H0 (fun H' v => v = (str r)) := by
  refine Con.mk (N := 17) Try.func13 rfl rfl (by kernel_rfl) rfl ?_
  have S := St.start hw
  refine WP.seq ?_
  refine WP.region ?_
  refine W.box [(boo p_e.fWeak), (str p_e.fTag)] S rfl rfl ?_
  intro b1 w2 S
  refine WL.valw R.assign ?_
  refine WL.nil ?_
  refine WP.seq ?_
  refine WP.seq ?_
  refine WP.region ?_
  refine WL.valw (R.fieldB rfl fld23_1) ?_
  refine WL.valw (R.loadB (i := 0) (v := (str p_e.fTag)) S rfl rfl lay9 rfl) ?_
  obtain ⟨r3, hr3, h⟩ := bindE h
  refine W.call S rfl (etag_permitted_ok S.holds p_e.fTag hr3) ?_
  rintro v4 w5 H6 hle7 S rfl
  refine WL.valw (R.not rfl) ?_
  refine WL.nil ?_
  rcases condE h with ⟨hc8, h⟩ | ⟨hc8, h⟩
  · refine WP.condT rfl hc8 ?_
    refine WP.seq ?_
    refine WP.region ?_
    refine WL.valw R.assign ?_
    refine WL.nil ?_
    obtain rfl := Option.some.inj h
    refine WP.ret (Out.one rfl S rfl ?_)
    exact rfl
  · refine WP.condF rfl hc8 ?_
    refine WP.skip ?_
    refine WP.seq ?_
    refine WP.region ?_
    refine WL.valw (R.fieldB rfl fld23_1) ?_
    refine WL.valw (R.loadB (i := 0) (v := (str p_e.fTag)) S rfl rfl lay9 rfl) ?_
    obtain ⟨s9, hs9, h⟩ := bindE h
    refine WL.valw (R.cat (a := [34]) (b := p_e.fTag) rfl rfl hs9) ?_
    obtain ⟨s10, hs10, h⟩ := bindE h
    refine WL.valw (R.cat (a := s9) (b := [34]) rfl rfl hs10) ?_
    refine WL.valw R.assign ?_
    refine WL.nil ?_
    refine WP.seq ?_
    refine WP.seq ?_
    refine WP.region ?_
    refine WL.valw (R.fieldB rfl fld23_0) ?_
    refine WL.valw (R.loadB (i := 0) (v := (boo p_e.fWeak)) S rfl rfl lay4 rfl) ?_
    refine WL.nil ?_
    rcases condE h with ⟨hc11, h⟩ | ⟨hc11, h⟩
    · refine WP.condT rfl hc11 ?_
      refine WP.seq ?_
      refine WP.region ?_
      refine WL.valw R.move ?_
      obtain ⟨s12, hs12, h⟩ := bindE h
      refine WL.valw (R.cat (a := [87, 47]) (b := s10) rfl rfl hs12) ?_
      refine WL.valw R.assign ?_
      refine WL.nil ?_
      obtain rfl := Option.some.inj h
      refine WP.ret (Out.one rfl S rfl ?_)
      exact rfl
    · refine WP.condF rfl hc11 ?_
      refine WP.skip ?_
      refine WP.seq ?_
      refine WP.region ?_
      refine WL.valw R.move ?_
      refine WL.valw R.assign ?_
      refine WL.nil ?_
      obtain rfl := Option.some.inj h
      refine WP.ret (Out.one rfl S rfl ?_)
      exact rfl
set_option maxHeartbeats 4000000 in
theorem ref19_FormatETag_ok {w0 : World} {H0 : Hp} (hw : Holds w0 H0) (p_e : GETag) {r : Str} (h : ref19_FormatETag p_e = some r) :
    Con Try.prog 14 [(agg [(boo p_e.fWeak), (str p_e.fTag)])] w0 H0 (fun H' v => v = (str r)) := by
  refine Con.mk (N := 17) Try.func14 rfl rfl (by kernel_rfl) rfl ?_
  have S := St.start hw
  refine WP.seq ?_
  refine WP.region ?_
  refine W.box [(boo p_e.fWeak), (str p_e.fTag)] S rfl rfl ?_
  intro b1 w2 S
  refine WL.valw R.assign ?_
  refine WL.nil ?_
  refine WP.seq ?_
  refine WP.seq ?_
  refine WP.region ?_
  refine WL.valw (R.fieldB rfl fld23_1) ?_
  refine WL.valw (R.loadB (i := 0) (v := (str p_e.fTag)) S rfl rfl lay9 rfl) ?_
  obtain ⟨r3, hr3, h⟩ := bindE h
  refine W.call S rfl (ref19_tagText_ok S.holds p_e.fTag hr3) ?_
  rintro v4 w5 H6 hle7 S rfl
  refine WL.valw (R.not rfl) ?_
  refine WL.nil ?_
  rcases condE h with ⟨hc8, h⟩ | ⟨hc8, h⟩
  · refine WP.condT rfl hc8 ?_
    refine WP.seq ?_
    refine WP.region ?_
    refine WL.valw R.assign ?_
    refine WL.nil ?_
    obtain rfl := Option.some.inj h
    refine WP.ret (Out.one rfl S rfl ?_)
    exact rfl
  · refine WP.condF rfl hc8 ?_
    refine WP.skip ?_
    refine WP.seq ?_
    refine WP.seq ?_
    refine WP.region ?_
    refine WL.valw (R.fieldB rfl fld23_0) ?_
    refine WL.valw (R.loadB (i := 0) (v := (boo p_e.fWeak)) S rfl rfl lay4 rfl) ?_
    refine WL.nil ?_
    rcases condE h with ⟨hc9, h⟩ | ⟨hc9, h⟩
    · refine WP.condT rfl hc9 ?_
      refine WP.seq ?_
      refine WP.region ?_
      refine WL.valw (R.fieldB rfl fld23_1) ?_
      refine WL.valw (R.loadB (i := 0) (v := (str p_e.fTag)) S rfl rfl lay9 rfl) ?_
      obtain ⟨s10, hs10, h⟩ := bindE h
      refine WL.valw (R.cat (a := [87, 47, 34]) (b := p_e.fTag) rfl rfl hs10) ?_
      obtain ⟨s11, hs11, h⟩ := bindE h
      refine WL.valw (R.cat (a := s10) (b := [34]) rfl rfl hs11) ?_
      refine WL.valw R.assign ?_
      refine WL.nil ?_
      obtain rfl := Option.some.inj h
      refine WP.ret (Out.one rfl S rfl ?_)
      exact rfl
    · refine WP.condF rfl hc9 ?_
      refine WP.skip ?_
      refine WP.seq ?_
      refine WP.region ?_
      refine WL.valw (R.fieldB rfl fld23_1) ?_
      refine WL.valw (R.loadB (i := 0) (v := (str p_e.fTag)) S rfl rfl lay9 rfl) ?_
      obtain ⟨s12, hs12, h⟩ := bindE h
      refine WL.valw (R.cat (a := [34]) (b := p_e.fTag) rfl rfl hs12) ?_
      obtain ⟨s13, hs13, h⟩ := bindE h
      refine WL.valw (R.cat (a := s12) (b := [34]) rfl rfl hs13) ?_
      refine WL.valw R.assign ?_
      refine WL.nil ?_
      obtain rfl := Option.some.inj h
      refine WP.ret (Out.one rfl S rfl ?_)
      exact rfl
set_option maxHeartbeats 4000000 in
theorem law21_EtagParses_ok {w0 : World} {H0 : Hp} (hw : Holds w0 H0) (p_s : Str) (p_e : GETag) {r : Bool} (h : law21_EtagParses p_s p_e = some r) :
    Con Try.prog 4 [(str p_s), (agg [(boo p_e.fWeak), (str p_e.fTag)])] w0 H0 (fun H' v => v = (boo r)) := by
  refine Con.mk (N := 46) Try.func4 rfl rfl (by kernel_rfl) rfl ?_
  have S := St.start hw
  refine WP.seq ?_
  refine WP.region ?_
  refine W.box [(boo p_e.fWeak), (str p_e.fTag)] S rfl rfl ?_
  intro b1 w2 S
  refine WL.valw R.assign ?_
  refine WL.nil ?_
  refine WP.seq ?_
  refine WP.seq ?_
  refine WP.region ?_
  refine WL.valw R.move ?_
  refine WL.valw (R.lenS (a := p_s) rfl Try.underlying9) ?_
  refine WL.valw (R.gtr rfl rfl) ?_
  refine WL.valw R.move ?_
  refine WL.grp 5 [13, 14, 15, 16] 17 (boo ((decide (1000 < (p_s.length : Int))) || (decide (1000 < (p_e.fTag.length : Int))))) ?_ ?_
  · rcases boolE (decide (1000 < (p_s.length : Int))) with hb3 | hb3
    · refine WL.gno rfl rfl hb3 ?_
      refine WL.gno rfl rfl hb3 ?_
      refine WL.gno rfl rfl hb3 ?_
      refine WL.gno rfl rfl hb3 ?_
      refine WL.valw (R.pickT rfl hb3 rfl) ?_
      exact WL.nil ⟨(orT hb3), (by repeat (first | exact agree_refl | refine agree_upd rfl ?_ | refine agree_upds' rfl ?_)), rfl⟩
    · refine WL.gyes rfl rfl hb3 ?_
      refine WL.valw (R.fieldB rfl fld23_1) ?_
      refine WL.gyes rfl rfl hb3 ?_
      refine WL.valw (R.loadB (i := 0) (v := (str p_e.fTag)) S rfl rfl lay9 rfl) ?_
      refine WL.gyes rfl rfl hb3 ?_
      refine WL.valw (R.lenS (a := p_e.fTag) rfl Try.underlying9) ?_
      refine WL.gyes rfl rfl hb3 ?_
      refine WL.valw (R.gtr rfl rfl) ?_
      refine WL.valw (R.pickF rfl hb3 rfl) ?_
      exact WL.nil ⟨(orF hb3), (by repeat (first | exact agree_refl | refine agree_upd rfl ?_ | refine agree_upds' rfl ?_)), rfl⟩
  · intro us
    refine WL.nil ?_
    rcases condE h with ⟨hc5, h⟩ | ⟨hc5, h⟩
    · refine WP.condT rfl hc5 ?_
      refine WP.seq ?_
      refine WP.region ?_
      refine WL.valw R.assign ?_
      refine WL.nil ?_
      obtain rfl := Option.some.inj h
      refine WP.ret (Out.one rfl S rfl ?_)
      exact rfl
    · refine WP.condF rfl hc5 ?_
      refine WP.skip ?_
      refine WP.seq ?_
      refine WP.region ?_
      refine WL.valw R.move ?_
      obtain ⟨r6, hr6, h⟩ := bindE h
      refine W.call S rfl (etag_Parse_ok S.holds p_s hr6) ?_
      rintro v7 w8 H9 hle10 S rfl
      refine WL.valw R.move ?_
      refine WL.valw (R.ext rfl rfl) ?_
      refine WL.valw (R.ext rfl rfl) ?_
      refine W.alloc [(boo false), (str [])] S zer23 ?_
      intro b11 w12 S
      refine W.store (i := 0) [(boo r6.1.fWeak), (str r6.1.fTag)] S rfl rfl rfl lay23 rfl rfl (Nat.le_of_ble_eq_true rfl) rfl ?_
      intro w13 S
      refine WL.valw R.assign ?_
      refine WL.nil ?_
      refine WP.seq ?_
      refine WP.region ?_
      refine WL.valw R.move ?_
      obtain ⟨r14, hr14, h⟩ := bindE h
      refine W.call S rfl (ref19_ParseETag_ok S.holds p_s hr14) ?_
      rintro v15 w16 H17 hle18 S rfl
      refine WL.valw R.move ?_
      refine WL.valw (R.ext rfl rfl) ?_
      refine WL.valw (R.ext rfl rfl) ?_
      refine W.alloc [(boo false), (str [])] S zer23 ?_
      intro b19 w20 S
      refine W.store (i := 0) [(boo r14.1.fWeak), (str r14.1.fTag)] S rfl rfl rfl lay23 rfl rfl (Nat.le_of_ble_eq_true rfl) rfl ?_
      intro w21 S
      refine WL.valw R.assign ?_
      refine WL.nil ?_
      refine WP.seq ?_
      refine WP.quiet S (by kernel_rfl) (by kernel_rfl) ?_
      refine WQ.val (fun w hw => by obtain ⟨_, hq, S⟩ := hw; exact (R.loadBN (i := 1) (vs := [(boo r6.1.fWeak), (str r6.1.fTag)]) S rfl rfl lay23 rfl rfl)) ?_
      refine WQ.val (fun w hw => by obtain ⟨_, hq, S⟩ := hw; exact (R.loadBN (i := 0) (vs := [(boo r14.1.fWeak), (str r14.1.fTag)]) S rfl rfl lay23 rfl rfl)) ?_
      refine WQ.val (fun _ _ => (R.eqlA ((r6.1.fWeak == r14.1.fWeak) && ((r6.1.fTag == r14.1.fTag) && true)) rfl rfl ps23 fk23 rfl rfl rfl)) ?_
      refine WQ.val (fun _ _ => R.move) ?_
      refine WQ.grp 4 [32, 33, 34] 35 (boo (((r6.1.fWeak == r14.1.fWeak) && ((r6.1.fTag == r14.1.fTag) && true)) && (r6.2 == r14.2))) ?_ ?_
      · rcases boolE ((r6.1.fWeak == r14.1.fWeak) && ((r6.1.fTag == r14.1.fTag) && true)) with hb25 | hb25
        · refine WQ.gyes rfl rfl hb25 ?_
          refine WQ.val (fun _ _ => R.move) ?_
          refine WQ.gyes rfl rfl hb25 ?_
          refine WQ.val (fun _ _ => R.move) ?_
          refine WQ.gyes rfl rfl hb25 ?_
          refine WQ.val (fun _ _ => (R.eqlB rfl rfl Try.underlying4)) ?_
          refine WQ.val (fun _ _ => (R.pickT rfl hb25 rfl)) ?_
          exact WQ.nil ⟨(andT hb25), (by repeat (first | exact agree_refl | refine agree_upd rfl ?_ | refine agree_upds' rfl ?_))⟩
        · refine WQ.gno rfl rfl hb25 ?_
          refine WQ.gno rfl rfl hb25 ?_
          refine WQ.gno rfl rfl hb25 ?_
          refine WQ.val (fun _ _ => (R.pickF rfl hb25 rfl)) ?_
          exact WQ.nil ⟨(andF hb25), (by repeat (first | exact agree_refl | refine agree_upd rfl ?_ | refine agree_upds' rfl ?_))⟩
      · intro us
        refine WQ.val (fun _ _ => R.move) ?_
        obtain ⟨b39, hg28, h⟩ := bindE h
        refine WQ.grp 6 [37, 38, 39, 40, 41] 42 (boo b39) ?_ ?_
        · rcases boolE (((r6.1.fWeak == r14.1.fWeak) && ((r6.1.fTag == r14.1.fTag) && true)) && (r6.2 == r14.2)) with hb27 | hb27
          · replace hg28 := condT hg28 hb27
            refine WQ.gyes rfl rfl hb27 ?_
            refine WQ.val (fun w hw => by obtain ⟨_, hq, S⟩ := hw; exact (R.loadBN (i := 2) (vs := [(boo p_e.fWeak), (str p_e.fTag)]) S rfl rfl lay23 rfl rfl)) ?_
            refine WQ.gyes rfl rfl hb27 ?_
            obtain ⟨r29, hr29, hg28⟩ := bindE hg28
            refine WQ.call (v := (str r29)) rfl (fun w H' hq S => etag_Format_ok S.holds p_e hr29) ?_
            refine WQ.gyes rfl rfl hb27 ?_
            refine WQ.val (fun w hw => by obtain ⟨_, hq, S⟩ := hw; exact (R.loadBN (i := 2) (vs := [(boo p_e.fWeak), (str p_e.fTag)]) S rfl rfl lay23 rfl rfl)) ?_
            refine WQ.gyes rfl rfl hb27 ?_
            obtain ⟨r34, hr34, hg28⟩ := bindE hg28
            refine WQ.call (v := (str r34)) rfl (fun w H' hq S => ref19_FormatETag_ok S.holds p_e hr34) ?_
            refine WQ.gyes rfl rfl hb27 ?_
            refine WQ.val (fun _ _ => (R.eqlS (a := r29) (b := r34) rfl rfl)) ?_
            refine WQ.val (fun _ _ => (R.pickT rfl hb27 rfl)) ?_
            exact WQ.nil ⟨(congrArg boo (Option.some.inj hg28)), (by repeat (first | exact agree_refl | refine agree_upd rfl ?_ | refine agree_upds' rfl ?_))⟩
          · replace hg28 := condF hg28 hb27
            refine WQ.gno rfl rfl hb27 ?_
            refine WQ.gno rfl rfl hb27 ?_
            refine WQ.gno rfl rfl hb27 ?_
            refine WQ.gno rfl rfl hb27 ?_
            refine WQ.gno rfl rfl hb27 ?_
            refine WQ.val (fun _ _ => (R.pickF rfl hb27 rfl)) ?_
            exact WQ.nil ⟨(congrArg boo (Option.some.inj hg28)), (by repeat (first | exact agree_refl | refine agree_upd rfl ?_ | refine agree_upds' rfl ?_))⟩
        · intro us
          refine WQ.val (fun _ _ => R.move) ?_
          obtain ⟨b47, hg41, h⟩ := bindE h
          refine WQ.grp 2 [44] 45 (boo b47) ?_ ?_
          · rcases boolE b39 with hb40 | hb40
            · replace hg41 := condT hg41 hb40
              refine WQ.gyes rfl rfl hb40 ?_
              obtain ⟨r42, hr42, hg41⟩ := bindE hg41
              refine WQ.call (v := (boo r42)) rfl (fun w H' hq S => law21_awake_ok S.holds  hr42) ?_
              refine WQ.val (fun _ _ => (R.pickT rfl hb40 rfl)) ?_
              exact WQ.nil ⟨(congrArg boo (Option.some.inj hg41)), (by repeat (first | exact agree_refl | refine agree_upd rfl ?_ | refine agree_upds' rfl ?_))⟩
            · replace hg41 := condF hg41 hb40
              refine WQ.gno rfl rfl hb40 ?_
              refine WQ.val (fun _ _ => (R.pickF rfl hb40 rfl)) ?_
              exact WQ.nil ⟨(congrArg boo (Option.some.inj hg41)), (by repeat (first | exact agree_refl | refine agree_upd rfl ?_ | refine agree_upds' rfl ?_))⟩
          · intro us
            refine WQ.val (fun _ _ => R.assign) ?_
            refine WQ.nil ?_
            intro w22 H23 hle24 S
            obtain rfl := Option.some.inj h
            refine WP.ret (Out.one rfl S rfl ?_)
            exact rfl
set_option maxHeartbeats 4000000 in
theorem law21_EtagBack_ok {w0 : World} {H0 : Hp} (hw : Holds w0 H0) (p_s : Str) (p_e : GETag) {r : Bool} (h : law21_EtagBack p_s p_e = some r) :
    Con Try.prog 5 [(str p_s), (agg [(boo p_e.fWeak), (str p_e.fTag)])] w0 H0 (fun H' v => v = (boo r)) := by
  refine Con.mk (N := 56) Try.func5 rfl rfl (by kernel_rfl) rfl ?_
  have S := St.start hw
  refine WP.seq ?_
  refine WP.region ?_
  refine W.box [(boo p_e.fWeak), (str p_e.fTag)] S rfl rfl ?_
  intro b1 w2 S
  refine WL.valw R.assign ?_
  refine WL.nil ?_
  refine WP.seq ?_
  refine WP.seq ?_
  refine WP.region ?_
  refine WL.valw R.move ?_
  refine WL.valw (R.lenS (a := p_s) rfl Try.underlying9) ?_
  refine WL.valw (R.gtr rfl rfl) ?_
  refine WL.valw R.move ?_
  refine WL.grp 5 [14, 15, 16, 17] 18 (boo ((decide (1000 < (p_s.length : Int))) || (decide (1000 < (p_e.fTag.length : Int))))) ?_ ?_
  · rcases boolE (decide (1000 < (p_s.length : Int))) with hb3 | hb3
    · refine WL.gno rfl rfl hb3 ?_
      refine WL.gno rfl rfl hb3 ?_
      refine WL.gno rfl rfl hb3 ?_
      refine WL.gno rfl rfl hb3 ?_
      refine WL.valw (R.pickT rfl hb3 rfl) ?_
      exact WL.nil ⟨(orT hb3), (by repeat (first | exact agree_refl | refine agree_upd rfl ?_ | refine agree_upds' rfl ?_)), rfl⟩
    · refine WL.gyes rfl rfl hb3 ?_
      refine WL.valw (R.fieldB rfl fld23_1) ?_
      refine WL.gyes rfl rfl hb3 ?_
      refine WL.valw (R.loadB (i := 0) (v := (str p_e.fTag)) S rfl rfl lay9 rfl) ?_
      refine WL.gyes rfl rfl hb3 ?_
      refine WL.valw (R.lenS (a := p_e.fTag) rfl Try.underlying9) ?_
      refine WL.gyes rfl rfl hb3 ?_
      refine WL.valw (R.gtr rfl rfl) ?_
      refine WL.valw (R.pickF rfl hb3 rfl) ?_
      exact WL.nil ⟨(orF hb3), (by repeat (first | exact agree_refl | refine agree_upd rfl ?_ | refine agree_upds' rfl ?_)), rfl⟩
  · intro us
    refine WL.nil ?_
    rcases condE h with ⟨hc5, h⟩ | ⟨hc5, h⟩
    · refine WP.condT rfl hc5 ?_
      refine WP.seq ?_
      refine WP.region ?_
      refine WL.valw R.assign ?_
      refine WL.nil ?_
      obtain rfl := Option.some.inj h
      refine WP.ret (Out.one rfl S rfl ?_)
      exact rfl
    · refine WP.condF rfl hc5 ?_
      refine WP.skip ?_
      refine WP.seq ?_
      refine WP.region ?_
      refine WL.valw R.move ?_
      obtain ⟨r6, hr6, h⟩ := bindE h
      refine W.call S rfl (etag_Parse_ok S.holds p_s hr6) ?_
      rintro v7 w8 H9 hle10 S rfl
      refine WL.valw R.move ?_
      refine WL.valw (R.ext rfl rfl) ?_
      refine WL.valw (R.ext rfl rfl) ?_
      refine W.alloc [(boo false), (str [])] S zer23 ?_
      intro b11 w12 S
      refine W.store (i := 0) [(boo r6.1.fWeak), (str r6.1.fTag)] S rfl rfl rfl lay23 rfl rfl (Nat.le_of_ble_eq_true rfl) rfl ?_
      intro w13 S
      refine WL.valw R.assign ?_
      refine WL.nil ?_
      refine WP.seq ?_
      refine WP.seq ?_
      refine WP.region ?_
      refine WL.valw R.move ?_
      refine WL.valw R.move ?_
      obtain ⟨b21, hg15, h⟩ := bindE h
      refine WL.grpw 5 [26, 27, 28, 29] 30 (boo b21) (fun w => ∃ H' : Hp, H9.le H' ∧ St w0 H0 w H' [.box b11 23 [(boo r6.1.fWeak), (str r6.1.fTag)], .box b1 23 [(boo p_e.fWeak), (str p_e.fTag)]]) ?_ ?_
      · rcases boolE r6.2 with hb14 | hb14
        · replace hg15 := condT hg15 hb14
          refine WL.gyes rfl rfl hb14 ?_
          refine WL.valw (R.loadBN (i := 0) (vs := [(boo r6.1.fWeak), (str r6.1.fTag)]) S rfl rfl lay23 rfl rfl) ?_
          refine WL.gyes rfl rfl hb14 ?_
          obtain ⟨r16, hr16, hg15⟩ := bindE hg15
          refine W.call S rfl (etag_Format_ok S.holds r6.1 hr16) ?_
          rintro v17 w18 H19 hle20 S rfl
          refine WL.gyes rfl rfl hb14 ?_
          refine WL.valw R.move ?_
          refine WL.gyes rfl rfl hb14 ?_
          refine WL.valw (R.neqS (a := r16) (b := p_s) rfl rfl) ?_
          refine WL.valw (R.pickT rfl hb14 rfl) ?_
          exact WL.nil ⟨(congrArg boo (Option.some.inj hg15)), (by repeat (first | exact agree_refl | refine agree_upd rfl ?_ | refine agree_upds' rfl ?_)), ⟨H19, hle20, S⟩⟩
        · replace hg15 := condF hg15 hb14
          refine WL.gno rfl rfl hb14 ?_
          refine WL.gno rfl rfl hb14 ?_
          refine WL.gno rfl rfl hb14 ?_
          refine WL.gno rfl rfl hb14 ?_
          refine WL.valw (R.pickF rfl hb14 rfl) ?_
          exact WL.nil ⟨(congrArg boo (Option.some.inj hg15)), (by repeat (first | exact agree_refl | refine agree_upd rfl ?_ | refine agree_upds' rfl ?_)), ⟨H9, (Hp.le.refl _), S⟩⟩
      · intro us w23 ⟨H22, hle24, S⟩
        refine WL.nil ?_
        rcases condE h with ⟨hc25, h⟩ | ⟨hc25, h⟩
        · refine WP.condT rfl hc25 ?_
          refine WP.seq ?_
          refine WP.region ?_
          refine WL.valw R.assign ?_
          refine WL.nil ?_
          obtain rfl := Option.some.inj h
          refine WP.ret (Out.one rfl S rfl ?_)
          exact rfl
        · refine WP.condF rfl hc25 ?_
          refine WP.skip ?_
          refine WP.seq ?_
          refine WP.region ?_
          refine WL.valw (R.loadBN (i := 1) (vs := [(boo p_e.fWeak), (str p_e.fTag)]) S rfl rfl lay23 rfl rfl) ?_
          obtain ⟨r26, hr26, h⟩ := bindE h
          refine W.call S rfl (etag_Format_ok S.holds p_e hr26) ?_
          rintro v27 w28 H29 hle30 S rfl
          refine WL.valw R.assign ?_
          refine WL.nil ?_
          refine WP.seq ?_
          refine WP.seq ?_
          refine WP.region ?_
          refine WL.valw R.move ?_
          refine WL.valw (R.eqlS (a := r26) (b := []) rfl rfl) ?_
          refine WL.nil ?_
          rcases condE h with ⟨hc31, h⟩ | ⟨hc31, h⟩
          · refine WP.condT rfl hc31 ?_
            refine WP.seq ?_
            refine WP.region ?_
            refine WL.valw R.move ?_
            refine WL.valw (R.loadBN (i := 1) (vs := [(boo p_e.fWeak), (str p_e.fTag)]) S rfl rfl lay23 rfl rfl) ?_
            obtain ⟨r32, hr32, h⟩ := bindE h
            refine W.call S rfl (ref19_FormatETag_ok S.holds p_e hr32) ?_
            rintro v33 w34 H35 hle36 S rfl
            refine WL.valw (R.eqlS (a := r26) (b := r32) rfl rfl) ?_
            refine WL.valw R.move ?_
            obtain ⟨b44, hg38, h⟩ := bindE h
            refine WL.grpw 2 [40] 41 (boo b44) (fun w => ∃ H' : Hp, H35.le H' ∧ St w0 H0 w H' [.box b11 23 [(boo r6.1.fWeak), (str r6.1.fTag)], .box b1 23 [(boo p_e.fWeak), (str p_e.fTag)]]) ?_ ?_
            · rcases boolE (r26 == r32) with hb37 | hb37
              · replace hg38 := condT hg38 hb37
                refine WL.gyes rfl rfl hb37 ?_
                obtain ⟨r39, hr39, hg38⟩ := bindE hg38
                refine W.call S rfl (law21_awake_ok S.holds  hr39) ?_
                rintro v40 w41 H42 hle43 S rfl
                refine WL.valw (R.pickT rfl hb37 rfl) ?_
                exact WL.nil ⟨(congrArg boo (Option.some.inj hg38)), (by repeat (first | exact agree_refl | refine agree_upd rfl ?_ | refine agree_upds' rfl ?_)), ⟨H42, hle43, S⟩⟩
              · replace hg38 := condF hg38 hb37
                refine WL.gno rfl rfl hb37 ?_
                refine WL.valw (R.pickF rfl hb37 rfl) ?_
                exact WL.nil ⟨(congrArg boo (Option.some.inj hg38)), (by repeat (first | exact agree_refl | refine agree_upd rfl ?_ | refine agree_upds' rfl ?_)), ⟨H35, (Hp.le.refl _), S⟩⟩
            · intro us w46 ⟨H45, hle47, S⟩
              refine WL.valw R.assign ?_
              refine WL.nil ?_
              obtain rfl := Option.some.inj h
              refine WP.ret (Out.one rfl S rfl ?_)
              exact rfl
          · refine WP.condF rfl hc31 ?_
            refine WP.skip ?_
            refine WP.seq ?_
            refine WP.region ?_
            refine WL.valw R.move ?_
            obtain ⟨r48, hr48, h⟩ := bindE h
            refine W.call S rfl (etag_Parse_ok S.holds r26 hr48) ?_
            rintro v49 w50 H51 hle52 S rfl
            refine WL.valw R.move ?_
            refine WL.valw (R.ext rfl rfl) ?_
            refine WL.valw (R.ext rfl rfl) ?_
            refine W.alloc [(boo false), (str [])] S zer23 ?_
            intro b53 w54 S
            refine W.store (i := 0) [(boo r48.1.fWeak), (str r48.1.fTag)] S rfl rfl rfl lay23 rfl rfl (Nat.le_of_ble_eq_true rfl) rfl ?_
            intro w55 S
            refine WL.valw R.assign ?_
            refine WL.nil ?_
            refine WP.seq ?_
            refine WP.region ?_
            refine WL.valw R.move ?_
            refine WL.valw R.move ?_
            refine WL.grp 4 [49, 50, 51] 52 (boo (r48.2 && ((r48.1.fWeak == p_e.fWeak) && ((r48.1.fTag == p_e.fTag) && true)))) ?_ ?_
            · rcases boolE r48.2 with hb56 | hb56
              · refine WL.gyes rfl rfl hb56 ?_
                refine WL.valw (R.loadBN (i := 0) (vs := [(boo r48.1.fWeak), (str r48.1.fTag)]) S rfl rfl lay23 rfl rfl) ?_
                refine WL.gyes rfl rfl hb56 ?_
                refine WL.valw (R.loadBN (i := 2) (vs := [(boo p_e.fWeak), (str p_e.fTag)]) S rfl rfl lay23 rfl rfl) ?_
                refine WL.gyes rfl rfl hb56 ?_
                refine WL.valw (R.eqlA ((r48.1.fWeak == p_e.fWeak) && ((r48.1.fTag == p_e.fTag) && true)) rfl rfl ps23 fk23 rfl rfl rfl) ?_
                refine WL.valw (R.pickT rfl hb56 rfl) ?_
                exact WL.nil ⟨(andT hb56), (by repeat (first | exact agree_refl | refine agree_upd rfl ?_ | refine agree_upds' rfl ?_)), rfl⟩
              · refine WL.gno rfl rfl hb56 ?_
                refine WL.gno rfl rfl hb56 ?_
                refine WL.gno rfl rfl hb56 ?_
                refine WL.valw (R.pickF rfl hb56 rfl) ?_
                exact WL.nil ⟨(andF hb56), (by repeat (first | exact agree_refl | refine agree_upd rfl ?_ | refine agree_upds' rfl ?_)), rfl⟩
            · intro us
              refine WL.valw R.move ?_
              obtain ⟨b65, hg59, h⟩ := bindE h
              refine WL.grpw 2 [54] 55 (boo b65) (fun w => ∃ H' : Hp, H51.le H' ∧ St w0 H0 w H' [.box b53 23 [(boo r48.1.fWeak), (str r48.1.fTag)], .box b11 23 [(boo r6.1.fWeak), (str r6.1.fTag)], .box b1 23 [(boo p_e.fWeak), (str p_e.fTag)]]) ?_ ?_
              · rcases boolE (r48.2 && ((r48.1.fWeak == p_e.fWeak) && ((r48.1.fTag == p_e.fTag) && true))) with hb58 | hb58
                · replace hg59 := condT hg59 hb58
                  refine WL.gyes rfl rfl hb58 ?_
                  obtain ⟨r60, hr60, hg59⟩ := bindE hg59
                  refine W.call S rfl (law21_awake_ok S.holds  hr60) ?_
                  rintro v61 w62 H63 hle64 S rfl
                  refine WL.valw (R.pickT rfl hb58 rfl) ?_
                  exact WL.nil ⟨(congrArg boo (Option.some.inj hg59)), (by repeat (first | exact agree_refl | refine agree_upd rfl ?_ | refine agree_upds' rfl ?_)), ⟨H63, hle64, S⟩⟩
                · replace hg59 := condF hg59 hb58
                  refine WL.gno rfl rfl hb58 ?_
                  refine WL.valw (R.pickF rfl hb58 rfl) ?_
                  exact WL.nil ⟨(congrArg boo (Option.some.inj hg59)), (by repeat (first | exact agree_refl | refine agree_upd rfl ?_ | refine agree_upds' rfl ?_)), ⟨H51, (Hp.le.refl _), S⟩⟩
              · intro us w67 ⟨H66, hle68, S⟩
                refine WL.valw R.assign ?_
                refine WL.nil ?_
                obtain rfl := Option.some.inj h
                refine WP.ret (Out.one rfl S rfl ?_)
                exact rfl
end Go.Proofs
