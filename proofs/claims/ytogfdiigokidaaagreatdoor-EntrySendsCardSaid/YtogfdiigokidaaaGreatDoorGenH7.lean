/- A part of the proof of laws of the seat: written by program over the translation. -/
import Derived.Test.YtogfdiigokidaaaGreatDoorGenH6
namespace Go.Proofs
open Go.Eng Go.Eng.Pure
set_option linter.unusedVariables false
set_option maxRecDepth 10000 in
set_option maxHeartbeats 4000000 in
theorem message_FormatResponse_ok {w0 : World} {H0 : Hp} (hw : Holds w0 H0) (hG : Tryz.Gl w0) (p_r : GResponse) (p_method : Str) {vp_r3 : Value} (Rp_r3 : Sl (α := GField) H0 vp_r3 p_r.fFields) {r : Str} (h : message_FormatResponse p_r p_method = some r) :
    Con Tryz.prog 35 [(agg [(int p_r.fMinor), (int p_r.fStatus), (str p_r.fReason), vp_r3, (str p_r.fBody)]), (str p_method)] w0 H0 (fun H' v => v = (str r)) := by
  refine Con.mk (N := 34) Tryz.func35 rfl rfl (by kernel_rfl) rfl ?_
  have S := St.start hw
  refine WP.seq ?_
  refine WP.region ?_
  refine W.box [(int p_r.fMinor), (int p_r.fStatus), (str p_r.fReason), vp_r3, (str p_r.fBody)] S rfl rfl ?_
  intro b1 w2 S
  refine WL.valw (R.as (v := (str [])) rfl) ?_
  refine WL.nil ?_
  refine WP.seq ?_
  refine WP.seq ?_
  refine WP.region ?_
  refine WL.valw (R.fieldB rfl fld30_4) ?_
  refine WL.valw (R.loadB (i := 0) (v := (str p_r.fBody)) S rfl rfl lay9 rfl) ?_
  refine WL.valw (R.lenS (a := p_r.fBody) rfl Tryz.underlying9) ?_
  refine WL.valw (R.gtr rfl rfl) ?_
  refine WL.nil ?_
  rcases condE h with ⟨hc3, h⟩ | ⟨hc3, h⟩
  · refine WP.condT rfl hc3 ?_
    refine WP.seq ?_
    refine WP.region ?_
    refine WL.valw (R.as (v := (str [])) rfl) ?_
    refine WL.nil ?_
    obtain rfl := Option.some.inj h
    refine WP.ret (Out.one rfl S rfl ?_)
    exact rfl
  · refine WP.condF rfl hc3 ?_
    refine WP.skip ?_
    refine WP.seq ?_
    refine WP.region ?_
    refine WL.valw (R.fieldB rfl fld30_0) ?_
    refine WL.valw (R.loadB (i := 0) (v := (int p_r.fMinor)) S rfl rfl lay3 rfl) ?_
    refine WL.valw (R.fieldB rfl fld30_1) ?_
    refine WL.valw (R.loadB (i := 0) (v := (int p_r.fStatus)) S rfl rfl lay3 rfl) ?_
    refine WL.valw (R.fieldB rfl fld30_2) ?_
    refine WL.valw (R.loadB (i := 0) (v := (str p_r.fReason)) S rfl rfl lay9 rfl) ?_
    obtain ⟨r4, hr4, h⟩ := bindE h
    refine W.call S rfl (startline_FormatStatus_ok S.holds (hG.post S.post) p_r.fMinor p_r.fStatus p_r.fReason hr4) ?_
    rintro v5 w6 H7 hle8 S rfl
    have Rp_r3 := Sl.mono Rp_r3 hle8
    refine WL.valw (R.as (v := (str r4)) rfl) ?_
    refine WL.nil ?_
    refine WP.seq ?_
    refine WP.seq ?_
    refine WP.region ?_
    refine WL.valw (R.fieldB rfl fld30_1) ?_
    refine WL.valw (R.loadB (i := 0) (v := (int p_r.fStatus)) S rfl rfl lay3 rfl) ?_
    refine WL.valw (R.mv (v := (str p_method)) rfl) ?_
    obtain ⟨r9, hr9, h⟩ := bindE h
    refine W.call S rfl (message_Bodiless_ok S.holds (hG.post S.post) p_r.fStatus p_method hr9) ?_
    rintro v10 w11 H12 hle13 S rfl
    have Rp_r3 := Sl.mono Rp_r3 hle13
    refine WL.nil ?_
    rcases condE h with ⟨hc14, h⟩ | ⟨hc14, h⟩
    · refine WP.condT rfl hc14 ?_
      refine WP.seq ?_
      refine WP.region ?_
      refine WL.valw (R.mv (v := (str r4)) rfl) ?_
      refine WL.valw (R.fieldB rfl fld30_3) ?_
      refine WL.valw (R.loadB (i := 0) (v := vp_r3) S rfl rfl lay24 rfl) ?_
      obtain ⟨r15, hr15, h⟩ := bindE h
      refine W.call S rfl (message_format_ok S.holds (hG.post S.post) r4 p_r.fFields (-1) [] Rp_r3 hr15) ?_
      rintro v16 w17 H18 hle19 S rfl
      have Rp_r3 := Sl.mono Rp_r3 hle19
      refine WL.valw (R.as (v := (str r15)) rfl) ?_
      refine WL.nil ?_
      obtain rfl := Option.some.inj h
      refine WP.ret (Out.one rfl S rfl ?_)
      exact rfl
    · refine WP.condF rfl hc14 ?_
      refine WP.skip ?_
      refine WP.seq ?_
      refine WP.region ?_
      refine WL.valw (R.mv (v := (str r4)) rfl) ?_
      refine WL.valw (R.fieldB rfl fld30_3) ?_
      refine WL.valw (R.loadB (i := 0) (v := vp_r3) S rfl rfl lay24 rfl) ?_
      refine WL.valw (R.fieldB rfl fld30_4) ?_
      refine WL.valw (R.loadB (i := 0) (v := (str p_r.fBody)) S rfl rfl lay9 rfl) ?_
      refine WL.valw (R.lenS (a := p_r.fBody) rfl Tryz.underlying9) ?_
      refine WL.valw (R.fieldB rfl fld30_4) ?_
      refine WL.valw (R.loadB (i := 0) (v := (str p_r.fBody)) S rfl rfl lay9 rfl) ?_
      obtain ⟨r20, hr20, h⟩ := bindE h
      refine W.call S rfl (message_format_ok S.holds (hG.post S.post) r4 p_r.fFields (p_r.fBody.length : Int) p_r.fBody Rp_r3 hr20) ?_
      rintro v21 w22 H23 hle24 S rfl
      have Rp_r3 := Sl.mono Rp_r3 hle24
      refine WL.valw (R.as (v := (str r20)) rfl) ?_
      refine WL.nil ?_
      obtain rfl := Option.some.inj h
      refine WP.ret (Out.one rfl S rfl ?_)
      exact rfl
set_option maxRecDepth 10000 in
set_option maxHeartbeats 4000000 in
theorem entry_Sendable_ok {w0 : World} {H0 : Hp} (hw : Holds w0 H0) (hG : Tryz.Gl w0) (p_e : GEntry) (p_name : Str) {vp_e0 : Value} {vp_e1 : Value} {vp_e2 : Value} {vp_e4 : Value} (Rp_e0 : Sl (α := (List Str)) H0 vp_e0 p_e.fKeys) (Rp_e1 : Sl (α := Str) H0 vp_e1 p_e.fVary) (Rp_e2 : Sl (α := Str) H0 vp_e2 p_e.fSnapshot) (Rp_e4 : Sl (α := GField) H0 vp_e4 p_e.fFields) {r : Bool} (h : entry_Sendable p_e p_name = some r) :
    Con Tryz.prog 12 [(agg [vp_e0, vp_e1, vp_e2, (str p_e.fReason), vp_e4, (str p_e.fBody), (int p_e.fRequested), (int p_e.fReceived)]), (str p_name)] w0 H0 (fun H' v => v = (boo r)) := by
  refine Con.mk (N := 10) Tryz.func12 rfl rfl (by kernel_rfl) rfl ?_
  have S := St.start hw
  refine WP.seq ?_
  refine WP.region ?_
  refine W.box [vp_e0, vp_e1, vp_e2, (str p_e.fReason), vp_e4, (str p_e.fBody), (int p_e.fRequested), (int p_e.fReceived)] S rfl rfl ?_
  intro b1 w2 S
  refine WL.valw (R.as (v := (boo false)) rfl) ?_
  refine WL.nil ?_
  refine WP.seq ?_
  refine WP.region ?_
  refine WL.valw (R.loadBN (i := 0) (vs := [vp_e0, vp_e1, vp_e2, (str p_e.fReason), vp_e4, (str p_e.fBody), (int p_e.fRequested), (int p_e.fReceived)]) S rfl rfl lay26 rfl rfl) ?_
  refine WL.valw (R.mv (v := (str p_name)) rfl) ?_
  obtain ⟨r3, hr3, h⟩ := bindE h
  refine W.call S rfl (entry_respond_ok S.holds (hG.post S.post) p_e 2147483647 p_name Rp_e0 Rp_e1 Rp_e2 Rp_e4 hr3) ?_
  rintro v4 w5 H6 hle7 S ⟨u8, rfl, R9⟩
  have Rp_e0 := Sl.mono Rp_e0 hle7
  have Rp_e1 := Sl.mono Rp_e1 hle7
  have Rp_e2 := Sl.mono Rp_e2 hle7
  have Rp_e4 := Sl.mono Rp_e4 hle7
  obtain ⟨r10, hr10, h⟩ := bindE h
  refine W.call S rfl (message_FormatResponse_ok S.holds (hG.post S.post) r3 [71, 69, 84] R9 hr10) ?_
  rintro v11 w12 H13 hle14 S rfl
  have Rp_e0 := Sl.mono Rp_e0 hle14
  have Rp_e1 := Sl.mono Rp_e1 hle14
  have Rp_e2 := Sl.mono Rp_e2 hle14
  have Rp_e4 := Sl.mono Rp_e4 hle14
  have R9 := Sl.mono R9 hle14
  refine WL.valw (R.neqS (a := r10) (b := []) rfl rfl) ?_
  refine WL.valw (R.as (v := (boo (r10 != []))) rfl) ?_
  refine WL.nil ?_
  obtain rfl := Option.some.inj h
  refine WP.ret (Out.one rfl S rfl ?_)
  exact rfl
set_option maxRecDepth 10000 in
set_option maxHeartbeats 4000000 in
theorem ref01_Bodiless_ok {w0 : World} {H0 : Hp} (hw : Holds w0 H0) (hG : Tryz.Gl w0) (p_status : Int) (p_method : Str) {r : Bool} (h : ref01_Bodiless p_status p_method = some r) :
    Con Tryz.prog 37 [(int p_status), (str p_method)] w0 H0 (fun H' v => v = (boo r)) := by
  refine Con.mk (N := 23) Tryz.func37 rfl rfl (by kernel_rfl) rfl ?_
  have S := St.start hw
  refine WP.seq ?_
  refine WP.region ?_
  refine WL.valw (R.as (v := (boo false)) rfl) ?_
  refine WL.nil ?_
  refine WP.seq ?_
  refine WP.region ?_
  refine WL.valw (R.mv (v := (int p_status)) rfl) ?_
  refine WL.valw (R.geq rfl rfl) ?_
  refine WL.valw (R.mv (v := (boo (decide (100 ≤ p_status)))) rfl) ?_
  refine WL.grp 3 [8, 9] 10 (boo ((decide (100 ≤ p_status)) && (decide (p_status ≤ 199)))) ?_ ?_
  · rcases boolE (decide (100 ≤ p_status)) with hb1 | hb1
    · refine WL.gyes rfl rfl hb1 ?_
      refine WL.valw (R.mv (v := (int p_status)) rfl) ?_
      refine WL.gyes rfl rfl hb1 ?_
      refine WL.valw (R.leq rfl rfl) ?_
      refine WL.valw (R.pickT rfl hb1 rfl) ?_
      exact WL.nil ⟨(andT hb1), (by repeat (first | refine agree_upd rfl ?_ | refine agree_upds' rfl ?_ | exact agree_refl)), rfl⟩
    · refine WL.gno rfl rfl hb1 ?_
      refine WL.gno rfl rfl hb1 ?_
      refine WL.valw (R.pickF rfl hb1 rfl) ?_
      exact WL.nil ⟨(andF hb1), (by repeat (first | refine agree_upd rfl ?_ | refine agree_upds' rfl ?_ | exact agree_refl)), rfl⟩
  · intro us
    refine WL.valw (R.mv (v := (boo ((decide (100 ≤ p_status)) && (decide (p_status ≤ 199))))) rfl) ?_
    refine WL.grp 3 [12, 13] 14 (boo (((decide (100 ≤ p_status)) && (decide (p_status ≤ 199))) || (p_status == 204))) ?_ ?_
    · rcases boolE ((decide (100 ≤ p_status)) && (decide (p_status ≤ 199))) with hb3 | hb3
      · refine WL.gno rfl rfl hb3 ?_
        refine WL.gno rfl rfl hb3 ?_
        refine WL.valw (R.pickT rfl hb3 rfl) ?_
        exact WL.nil ⟨(orT hb3), (by repeat (first | refine agree_upd rfl ?_ | refine agree_upds' rfl ?_ | exact agree_refl)), rfl⟩
      · refine WL.gyes rfl rfl hb3 ?_
        refine WL.valw (R.mv (v := (int p_status)) rfl) ?_
        refine WL.gyes rfl rfl hb3 ?_
        refine WL.valw (R.eql rfl rfl) ?_
        refine WL.valw (R.pickF rfl hb3 rfl) ?_
        exact WL.nil ⟨(orF hb3), (by repeat (first | refine agree_upd rfl ?_ | refine agree_upds' rfl ?_ | exact agree_refl)), rfl⟩
    · intro us
      refine WL.valw (R.mv (v := (boo (((decide (100 ≤ p_status)) && (decide (p_status ≤ 199))) || (p_status == 204)))) rfl) ?_
      refine WL.grp 3 [16, 17] 18 (boo ((((decide (100 ≤ p_status)) && (decide (p_status ≤ 199))) || (p_status == 204)) || (p_status == 304))) ?_ ?_
      · rcases boolE (((decide (100 ≤ p_status)) && (decide (p_status ≤ 199))) || (p_status == 204)) with hb5 | hb5
        · refine WL.gno rfl rfl hb5 ?_
          refine WL.gno rfl rfl hb5 ?_
          refine WL.valw (R.pickT rfl hb5 rfl) ?_
          exact WL.nil ⟨(orT hb5), (by repeat (first | refine agree_upd rfl ?_ | refine agree_upds' rfl ?_ | exact agree_refl)), rfl⟩
        · refine WL.gyes rfl rfl hb5 ?_
          refine WL.valw (R.mv (v := (int p_status)) rfl) ?_
          refine WL.gyes rfl rfl hb5 ?_
          refine WL.valw (R.eql rfl rfl) ?_
          refine WL.valw (R.pickF rfl hb5 rfl) ?_
          exact WL.nil ⟨(orF hb5), (by repeat (first | refine agree_upd rfl ?_ | refine agree_upds' rfl ?_ | exact agree_refl)), rfl⟩
      · intro us
        refine WL.valw (R.mv (v := (boo ((((decide (100 ≤ p_status)) && (decide (p_status ≤ 199))) || (p_status == 204)) || (p_status == 304)))) rfl) ?_
        refine WL.grp 3 [20, 21] 22 (boo (((((decide (100 ≤ p_status)) && (decide (p_status ≤ 199))) || (p_status == 204)) || (p_status == 304)) || (p_method == [72, 69, 65, 68]))) ?_ ?_
        · rcases boolE ((((decide (100 ≤ p_status)) && (decide (p_status ≤ 199))) || (p_status == 204)) || (p_status == 304)) with hb7 | hb7
          · refine WL.gno rfl rfl hb7 ?_
            refine WL.gno rfl rfl hb7 ?_
            refine WL.valw (R.pickT rfl hb7 rfl) ?_
            exact WL.nil ⟨(orT hb7), (by repeat (first | refine agree_upd rfl ?_ | refine agree_upds' rfl ?_ | exact agree_refl)), rfl⟩
          · refine WL.gyes rfl rfl hb7 ?_
            refine WL.valw (R.mv (v := (str p_method)) rfl) ?_
            refine WL.gyes rfl rfl hb7 ?_
            refine WL.valw (R.eqlS (a := p_method) (b := [72, 69, 65, 68]) rfl rfl) ?_
            refine WL.valw (R.pickF rfl hb7 rfl) ?_
            exact WL.nil ⟨(orF hb7), (by repeat (first | refine agree_upd rfl ?_ | refine agree_upds' rfl ?_ | exact agree_refl)), rfl⟩
        · intro us
          refine WL.valw (R.as (v := (boo (((((decide (100 ≤ p_status)) && (decide (p_status ≤ 199))) || (p_status == 204)) || (p_status == 304)) || (p_method == [72, 69, 65, 68])))) rfl) ?_
          refine WL.nil ?_
          obtain rfl := Option.some.inj h
          refine WP.ret (Out.one rfl S rfl ?_)
          exact rfl
set_option maxRecDepth 10000 in
set_option maxHeartbeats 4000000 in
theorem ref01_textByte_ok {w0 : World} {H0 : Hp} (hw : Holds w0 H0) (hG : Tryz.Gl w0) (p_c : UInt8) {r : Bool} (h : ref01_textByte p_c = some r) :
    Con Tryz.prog 124 [(byt p_c)] w0 H0 (fun H' v => v = (boo r)) := by
  refine Con.mk (N := 17) Tryz.func124 rfl rfl (by kernel_rfl) rfl ?_
  have S := St.start hw
  refine WP.seq ?_
  refine WP.region ?_
  refine WL.valw (R.as (v := (boo false)) rfl) ?_
  refine WL.nil ?_
  refine WP.seq ?_
  refine WP.region ?_
  refine WL.valw (R.mv (v := (byt p_c)) rfl) ?_
  refine WL.valw (R.eql8 (a := p_c) (b := 9) rfl rfl) ?_
  refine WL.valw (R.mv (v := (boo (p_c == 9))) rfl) ?_
  refine WL.grp 7 [6, 7, 8, 9, 10, 11] 12 (boo ((p_c == 9) || ((decide (32 ≤ p_c)) && (decide (p_c ≤ 126))))) ?_ ?_
  · rcases boolE (p_c == 9) with hb1 | hb1
    · refine WL.gno rfl rfl hb1 ?_
      refine WL.gno rfl rfl hb1 ?_
      refine WL.gno rfl rfl hb1 ?_
      refine WL.gund rfl rfl ?_
      refine WL.gund rfl rfl ?_
      refine WL.gno rfl rfl hb1 ?_
      refine WL.valw (R.pickT rfl hb1 rfl) ?_
      exact WL.nil ⟨(orT hb1), (by repeat (first | refine agree_upd rfl ?_ | refine agree_upds' rfl ?_ | exact agree_refl)), rfl⟩
    · refine WL.gyes rfl rfl hb1 ?_
      refine WL.valw (R.mv (v := (byt p_c)) rfl) ?_
      refine WL.gyes rfl rfl hb1 ?_
      refine WL.valw (R.geq8 (a := p_c) (b := 32) rfl rfl) ?_
      refine WL.gyes rfl rfl hb1 ?_
      refine WL.valw (R.mv (v := (boo (decide (32 ≤ p_c)))) rfl) ?_
      refine WL.grp 3 [9, 10] 11 (boo ((decide (32 ≤ p_c)) && (decide (p_c ≤ 126)))) ?_ ?_
      · rcases boolE (decide (32 ≤ p_c)) with hb3 | hb3
        · refine WL.gyes rfl rfl hb3 ?_
          refine WL.valw (R.mv (v := (byt p_c)) rfl) ?_
          refine WL.gyes rfl rfl hb3 ?_
          refine WL.valw (R.leq8 (a := p_c) (b := 126) rfl rfl) ?_
          refine WL.gyes rfl rfl hb1 ?_
          refine WL.valw (R.pickT rfl hb3 rfl) ?_
          exact WL.nil ⟨(andT hb3), (by repeat (first | refine agree_upd rfl ?_ | refine agree_upds' rfl ?_ | exact agree_refl)), rfl⟩
        · refine WL.gno rfl rfl hb3 ?_
          refine WL.gno rfl rfl hb3 ?_
          refine WL.gyes rfl rfl hb1 ?_
          refine WL.valw (R.pickF rfl hb3 rfl) ?_
          exact WL.nil ⟨(andF hb3), (by repeat (first | refine agree_upd rfl ?_ | refine agree_upds' rfl ?_ | exact agree_refl)), rfl⟩
      · intro us
        refine WL.valw (R.pickF rfl hb1 rfl) ?_
        exact WL.nil ⟨(orF hb1), (by repeat (first | refine agree_upd rfl ?_ | refine agree_upds' rfl ?_ | exact agree_refl)), rfl⟩
  · intro us
    refine WL.valw (R.mv (v := (boo ((p_c == 9) || ((decide (32 ≤ p_c)) && (decide (p_c ≤ 126)))))) rfl) ?_
    refine WL.grp 3 [14, 15] 16 (boo (((p_c == 9) || ((decide (32 ≤ p_c)) && (decide (p_c ≤ 126)))) || (decide (128 ≤ p_c)))) ?_ ?_
    · rcases boolE ((p_c == 9) || ((decide (32 ≤ p_c)) && (decide (p_c ≤ 126)))) with hb5 | hb5
      · refine WL.gno rfl rfl hb5 ?_
        refine WL.gno rfl rfl hb5 ?_
        refine WL.valw (R.pickT rfl hb5 rfl) ?_
        exact WL.nil ⟨(orT hb5), (by repeat (first | refine agree_upd rfl ?_ | refine agree_upds' rfl ?_ | exact agree_refl)), rfl⟩
      · refine WL.gyes rfl rfl hb5 ?_
        refine WL.valw (R.mv (v := (byt p_c)) rfl) ?_
        refine WL.gyes rfl rfl hb5 ?_
        refine WL.valw (R.geq8 (a := p_c) (b := 128) rfl rfl) ?_
        refine WL.valw (R.pickF rfl hb5 rfl) ?_
        exact WL.nil ⟨(orF hb5), (by repeat (first | refine agree_upd rfl ?_ | refine agree_upds' rfl ?_ | exact agree_refl)), rfl⟩
    · intro us
      refine WL.valw (R.as (v := (boo (((p_c == 9) || ((decide (32 ≤ p_c)) && (decide (p_c ≤ 126)))) || (decide (128 ≤ p_c))))) rfl) ?_
      refine WL.nil ?_
      obtain rfl := Option.some.inj h
      refine WP.ret (Out.one rfl S rfl ?_)
      exact rfl
set_option maxRecDepth 10000 in
set_option maxHeartbeats 4000000 in
theorem ref01_Text_ok {w0 : World} {H0 : Hp} (hw : Holds w0 H0) (hG : Tryz.Gl w0) (p_s : Str) {r : Bool} (h : ref01_Text p_s = some r) :
    Con Tryz.prog 77 [(str p_s)] w0 H0 (fun H' v => v = (boo r)) := by
  refine Con.mk (N := 15) Tryz.func77 rfl rfl (by kernel_rfl) rfl ?_
  have S := St.start hw
  refine WP.seq ?_
  refine WP.region ?_
  refine WL.valw (R.as (v := (boo false)) rfl) ?_
  refine WL.nil ?_
  refine WP.seq ?_
  refine WP.seq ?_
  refine WP.region ?_
  refine WL.valw (R.as (v := (int 0)) rfl) ?_
  refine WL.nil ?_
  obtain ⟨r9, hr10, h⟩ := bindE h
  refine WP.cut (fun f w => match r9 with | .inl _ => ∃ (H5 : Hp), St w0 H0 w H5 [] | .inr _ => False) ?_ ?_
  · refine WP.block ?_
    refine WP.loopM (ref01_Text_L0 p_s) (fun s f w => match s with | i_3 => ∃ (H1 : Hp), f 0 = (str p_s) ∧ f 3 = (int i_3) ∧ St w0 H0 w H1 []) 0 r9 hr10 ?_ ?_
    · exact ⟨H0, rfl, rfl, S⟩
    · intro i_3 f w hI y6 hy7 hy8
      obtain ⟨H1, h2, h4, S⟩ := hI
      refine WP.seq ?_
      refine WP.seq ?_
      refine WP.region ?_
      refine WL.valw (R.mv (v := (int i_3)) h4) ?_
      refine WL.valw (R.mv (v := (str p_s)) h2) ?_
      refine WL.valw (R.lenS (a := p_s) rfl Tryz.underlying9) ?_
      refine WL.valw (R.lss rfl rfl) ?_
      refine WL.nil ?_
      rcases condE hy7 with ⟨hc11, hy7⟩ | ⟨hc11, hy7⟩
      · refine WP.condT rfl hc11 ?_
        refine WP.skip ?_
        refine WP.seq ?_
        refine WP.block ?_
        refine WP.seq ?_
        refine WP.region ?_
        refine WL.valw (R.mv (v := (str p_s)) h2) ?_
        refine WL.valw (R.mv (v := (int i_3)) h4) ?_
        obtain ⟨c12, hc12, hy7⟩ := bindE hy7
        refine WL.valw (R.idxS rfl rfl Tryz.underlying9 hc12) ?_
        obtain ⟨r13, hr13, hy7⟩ := bindE hy7
        refine W.call S rfl (ref01_textByte_ok S.holds (hG.post S.post) c12 hr13) ?_
        rintro v14 w15 H16 hle17 S rfl
        refine WL.valw (R.not rfl) ?_
        refine WL.nil ?_
        rcases condE hy7 with ⟨hc18, hy7⟩ | ⟨hc18, hy7⟩
        · refine WP.condT rfl hc18 ?_
          refine WP.seq ?_
          refine WP.region ?_
          refine WL.valw (R.as (v := (boo false)) rfl) ?_
          refine WL.nil ?_
          obtain rfl := Option.some.inj hy7
          obtain rfl := hy8
          obtain rfl := Option.some.inj h
          refine WP.ret (Out.one rfl S rfl ?_)
          exact rfl
        · refine WP.condF rfl hc18 ?_
          refine WP.skip ?_
          refine WP.region ?_
          refine WL.valw (R.mv (v := (int i_3)) h4) ?_
          refine WL.valw (R.add rfl rfl) ?_
          refine WL.valw (R.as (v := (int (wr (i_3 + 1)))) rfl) ?_
          refine WL.nil ?_
          obtain rfl := Option.some.inj hy7
          exact ⟨rfl, ⟨H16, h2, rfl, S⟩⟩
      · refine WP.condF rfl hc11 ?_
        refine WP.exit ?_
        obtain rfl := Option.some.inj hy7
        obtain rfl := hy8
        exact ⟨H1, S⟩
  · intro f w hM
    rcases r9 with _ | e
    · obtain ⟨H5, S⟩ := hM
      refine WP.seq ?_
      refine WP.region ?_
      refine WL.valw (R.as (v := (boo true)) rfl) ?_
      refine WL.nil ?_
      obtain rfl := Option.some.inj h
      refine WP.ret (Out.one rfl S rfl ?_)
      exact rfl
    · exact hM.elim
set_option maxRecDepth 10000 in
set_option maxHeartbeats 4000000 in
theorem ref01_version_ok {w0 : World} {H0 : Hp} (hw : Holds w0 H0) (hG : Tryz.Gl w0) (p_s : Str) {r : (Int × Int)} (h : ref01_version p_s = some r) :
    Con Tryz.prog 78 [(str p_s)] w0 H0 (fun H' v => v = (.tuple ⟨[(int r.1), (int r.2)]⟩)) := by
  refine Con.mk (N := 41) Tryz.func78 rfl rfl (by kernel_rfl) rfl ?_
  have S := St.start hw
  refine WP.seq ?_
  refine WP.region ?_
  refine WL.valw (R.as (v := (int 0)) rfl) ?_
  refine WL.valw (R.as (v := (int 0)) rfl) ?_
  refine WL.nil ?_
  refine WP.seq ?_
  refine WP.seq ?_
  refine WP.region ?_
  refine WL.valw (R.mv (v := (str p_s)) rfl) ?_
  refine WL.valw (R.lenS (a := p_s) rfl Tryz.underlying9) ?_
  refine WL.valw (R.neq rfl rfl) ?_
  refine WL.valw (R.mv (v := (boo ((p_s.length : Int) != 8))) rfl) ?_
  obtain ⟨b4, hg2, h⟩ := bindE h
  refine WL.grp 4 [8, 9, 10] 11 (boo b4) ?_ ?_
  · rcases boolE ((p_s.length : Int) != 8) with hb1 | hb1
    · replace hg2 := condT hg2 hb1
      refine WL.gno rfl rfl hb1 ?_
      refine WL.gno rfl rfl hb1 ?_
      refine WL.gno rfl rfl hb1 ?_
      refine WL.valw (R.pickT rfl hb1 rfl) ?_
      exact WL.nil ⟨(congrArg boo (Option.some.inj hg2)), (by repeat (first | refine agree_upd rfl ?_ | refine agree_upds' rfl ?_ | exact agree_refl)), rfl⟩
    · replace hg2 := condF hg2 hb1
      refine WL.gyes rfl rfl hb1 ?_
      refine WL.valw (R.mv (v := (str p_s)) rfl) ?_
      refine WL.gyes rfl rfl hb1 ?_
      obtain ⟨s3, hs3, hg2⟩ := bindE hg2
      refine WL.valw (R.subShi rfl rfl Tryz.underlying9 hs3) ?_
      refine WL.gyes rfl rfl hb1 ?_
      refine WL.valw (R.neqS (a := s3) (b := [72, 84, 84, 80, 47]) rfl rfl) ?_
      refine WL.valw (R.pickF rfl hb1 rfl) ?_
      exact WL.nil ⟨(congrArg boo (Option.some.inj hg2)), (by repeat (first | refine agree_upd rfl ?_ | refine agree_upds' rfl ?_ | exact agree_refl)), rfl⟩
  · intro us
    refine WL.valw (R.mv (v := (boo b4)) rfl) ?_
    obtain ⟨b13, hg6, h⟩ := bindE h
    refine WL.grpw 5 [13, 14, 15, 16] 17 (boo b13) (fun w => ∃ H' : Hp, H0.le H' ∧ St w0 H0 w H' []) ?_ ?_
    · rcases boolE b4 with hb5 | hb5
      · replace hg6 := condT hg6 hb5
        refine WL.gno rfl rfl hb5 ?_
        refine WL.gno rfl rfl hb5 ?_
        refine WL.gno rfl rfl hb5 ?_
        refine WL.gno rfl rfl hb5 ?_
        refine WL.valw (R.pickT rfl hb5 rfl) ?_
        exact WL.nil ⟨(congrArg boo (Option.some.inj hg6)), (by repeat (first | refine agree_upd rfl ?_ | refine agree_upds' rfl ?_ | exact agree_refl)), ⟨H0, (Hp.le.refl _), S⟩⟩
      · replace hg6 := condF hg6 hb5
        refine WL.gyes rfl rfl hb5 ?_
        refine WL.valw (R.mv (v := (str p_s)) rfl) ?_
        refine WL.gyes rfl rfl hb5 ?_
        obtain ⟨c7, hc7, hg6⟩ := bindE hg6
        refine WL.valw (R.idxS rfl rfl Tryz.underlying9 hc7) ?_
        refine WL.gyes rfl rfl hb5 ?_
        obtain ⟨r8, hr8, hg6⟩ := bindE hg6
        refine W.call S rfl (ref01_Digit_ok S.holds (hG.post S.post) c7 hr8) ?_
        rintro v9 w10 H11 hle12 S rfl
        refine WL.gyes rfl rfl hb5 ?_
        refine WL.valw (R.not rfl) ?_
        refine WL.valw (R.pickF rfl hb5 rfl) ?_
        exact WL.nil ⟨(congrArg boo (Option.some.inj hg6)), (by repeat (first | refine agree_upd rfl ?_ | refine agree_upds' rfl ?_ | exact agree_refl)), ⟨H11, hle12, S⟩⟩
    · intro us w15 ⟨H14, hle16, S⟩
      refine WL.valw (R.mv (v := (boo b13)) rfl) ?_
      obtain ⟨b20, hg18, h⟩ := bindE h
      refine WL.grp 4 [19, 20, 21] 22 (boo b20) ?_ ?_
      · rcases boolE b13 with hb17 | hb17
        · replace hg18 := condT hg18 hb17
          refine WL.gno rfl rfl hb17 ?_
          refine WL.gno rfl rfl hb17 ?_
          refine WL.gno rfl rfl hb17 ?_
          refine WL.valw (R.pickT rfl hb17 rfl) ?_
          exact WL.nil ⟨(congrArg boo (Option.some.inj hg18)), (by repeat (first | refine agree_upd rfl ?_ | refine agree_upds' rfl ?_ | exact agree_refl)), rfl⟩
        · replace hg18 := condF hg18 hb17
          refine WL.gyes rfl rfl hb17 ?_
          refine WL.valw (R.mv (v := (str p_s)) rfl) ?_
          refine WL.gyes rfl rfl hb17 ?_
          obtain ⟨c19, hc19, hg18⟩ := bindE hg18
          refine WL.valw (R.idxS rfl rfl Tryz.underlying9 hc19) ?_
          refine WL.gyes rfl rfl hb17 ?_
          refine WL.valw (R.neq8 (a := c19) (b := 46) rfl rfl) ?_
          refine WL.valw (R.pickF rfl hb17 rfl) ?_
          exact WL.nil ⟨(congrArg boo (Option.some.inj hg18)), (by repeat (first | refine agree_upd rfl ?_ | refine agree_upds' rfl ?_ | exact agree_refl)), rfl⟩
      · intro us
        refine WL.valw (R.mv (v := (boo b20)) rfl) ?_
        obtain ⟨b29, hg22, h⟩ := bindE h
        refine WL.grpw 5 [24, 25, 26, 27] 28 (boo b29) (fun w => ∃ H' : Hp, H14.le H' ∧ St w0 H0 w H' []) ?_ ?_
        · rcases boolE b20 with hb21 | hb21
          · replace hg22 := condT hg22 hb21
            refine WL.gno rfl rfl hb21 ?_
            refine WL.gno rfl rfl hb21 ?_
            refine WL.gno rfl rfl hb21 ?_
            refine WL.gno rfl rfl hb21 ?_
            refine WL.valw (R.pickT rfl hb21 rfl) ?_
            exact WL.nil ⟨(congrArg boo (Option.some.inj hg22)), (by repeat (first | refine agree_upd rfl ?_ | refine agree_upds' rfl ?_ | exact agree_refl)), ⟨H14, (Hp.le.refl _), S⟩⟩
          · replace hg22 := condF hg22 hb21
            refine WL.gyes rfl rfl hb21 ?_
            refine WL.valw (R.mv (v := (str p_s)) rfl) ?_
            refine WL.gyes rfl rfl hb21 ?_
            obtain ⟨c23, hc23, hg22⟩ := bindE hg22
            refine WL.valw (R.idxS rfl rfl Tryz.underlying9 hc23) ?_
            refine WL.gyes rfl rfl hb21 ?_
            obtain ⟨r24, hr24, hg22⟩ := bindE hg22
            refine W.call S rfl (ref01_Digit_ok S.holds (hG.post S.post) c23 hr24) ?_
            rintro v25 w26 H27 hle28 S rfl
            refine WL.gyes rfl rfl hb21 ?_
            refine WL.valw (R.not rfl) ?_
            refine WL.valw (R.pickF rfl hb21 rfl) ?_
            exact WL.nil ⟨(congrArg boo (Option.some.inj hg22)), (by repeat (first | refine agree_upd rfl ?_ | refine agree_upds' rfl ?_ | exact agree_refl)), ⟨H27, hle28, S⟩⟩
        · intro us w31 ⟨H30, hle32, S⟩
          refine WL.nil ?_
          rcases condE h with ⟨hc33, h⟩ | ⟨hc33, h⟩
          · refine WP.condT rfl hc33 ?_
            refine WP.seq ?_
            refine WP.region ?_
            refine WL.valw (R.as (v := (int 0)) rfl) ?_
            refine WL.valw (R.as (v := (int 1)) rfl) ?_
            refine WL.nil ?_
            obtain rfl := Option.some.inj h
            refine WP.ret (Out.two rfl S rfl rfl ?_)
            exact rfl
          · refine WP.condF rfl hc33 ?_
            refine WP.skip ?_
            refine WP.seq ?_
            refine WP.seq ?_
            refine WP.region ?_
            refine WL.valw (R.mv (v := (str p_s)) rfl) ?_
            obtain ⟨c34, hc34, h⟩ := bindE h
            refine WL.valw (R.idxS rfl rfl Tryz.underlying9 hc34) ?_
            refine WL.valw (R.neq8 (a := c34) (b := 49) rfl rfl) ?_
            refine WL.valw (R.mv (v := (boo (c34 != 49))) rfl) ?_
            obtain ⟨b38, hg36, h⟩ := bindE h
            refine WL.grp 4 [33, 34, 35] 36 (boo b38) ?_ ?_
            · rcases boolE (c34 != 49) with hb35 | hb35
              · replace hg36 := condT hg36 hb35
                refine WL.gno rfl rfl hb35 ?_
                refine WL.gno rfl rfl hb35 ?_
                refine WL.gno rfl rfl hb35 ?_
                refine WL.valw (R.pickT rfl hb35 rfl) ?_
                exact WL.nil ⟨(congrArg boo (Option.some.inj hg36)), (by repeat (first | refine agree_upd rfl ?_ | refine agree_upds' rfl ?_ | exact agree_refl)), rfl⟩
              · replace hg36 := condF hg36 hb35
                refine WL.gyes rfl rfl hb35 ?_
                refine WL.valw (R.mv (v := (str p_s)) rfl) ?_
                refine WL.gyes rfl rfl hb35 ?_
                obtain ⟨c37, hc37, hg36⟩ := bindE hg36
                refine WL.valw (R.idxS rfl rfl Tryz.underlying9 hc37) ?_
                refine WL.gyes rfl rfl hb35 ?_
                refine WL.valw (R.gtr8 (a := c37) (b := 49) rfl rfl) ?_
                refine WL.valw (R.pickF rfl hb35 rfl) ?_
                exact WL.nil ⟨(congrArg boo (Option.some.inj hg36)), (by repeat (first | refine agree_upd rfl ?_ | refine agree_upds' rfl ?_ | exact agree_refl)), rfl⟩
            · intro us
              refine WL.nil ?_
              rcases condE h with ⟨hc39, h⟩ | ⟨hc39, h⟩
              · refine WP.condT rfl hc39 ?_
                refine WP.seq ?_
                refine WP.region ?_
                refine WL.valw (R.as (v := (int 0)) rfl) ?_
                refine WL.valw (R.as (v := (int 3)) rfl) ?_
                refine WL.nil ?_
                obtain rfl := Option.some.inj h
                refine WP.ret (Out.two rfl S rfl rfl ?_)
                exact rfl
              · refine WP.condF rfl hc39 ?_
                refine WP.skip ?_
                refine WP.seq ?_
                refine WP.region ?_
                refine WL.valw (R.mv (v := (str p_s)) rfl) ?_
                obtain ⟨c40, hc40, h⟩ := bindE h
                refine WL.valw (R.idxS rfl rfl Tryz.underlying9 hc40) ?_
                refine WL.valw (R.sub8 (a := c40) (b := 48) rfl rfl) ?_
                refine WL.valw (R.i64of8 (a := c40 - 48) rfl Tryz.underlying5 Tryz.underlying3) ?_
                refine WL.valw (R.as (v := (int ((c40 - 48).toNat : Int))) rfl) ?_
                refine WL.valw (R.as (v := (int 0)) rfl) ?_
                refine WL.nil ?_
                obtain rfl := Option.some.inj h
                refine WP.ret (Out.two rfl S rfl rfl ?_)
                exact rfl
set_option maxRecDepth 10000 in
set_option maxHeartbeats 4000000 in
theorem ref01_ParseStatusLine_ok {w0 : World} {H0 : Hp} (hw : Holds w0 H0) (hG : Tryz.Gl w0) (p_ppend : Str) {r : (Int × Int × Str × Int)} (h : ref01_ParseStatusLine p_ppend = some r) :
    Con Tryz.prog 41 [(str p_ppend)] w0 H0 (fun H' v => v = (.tuple ⟨[(int r.1), (int r.2.1), (str r.2.2.1), (int r.2.2.2)]⟩)) := by
  refine Con.mk (N := 73) Tryz.func41 rfl rfl (by kernel_rfl) rfl ?_
  have S := St.start hw
  refine WP.seq ?_
  refine WP.region ?_
  refine WL.valw (R.as (v := (int 0)) rfl) ?_
  refine WL.valw (R.as (v := (int 0)) rfl) ?_
  refine WL.valw (R.as (v := (str [])) rfl) ?_
  refine WL.valw (R.as (v := (int 0)) rfl) ?_
  refine WL.nil ?_
  refine WP.seq ?_
  refine WP.seq ?_
  refine WP.region ?_
  refine WL.valw (R.mv (v := (str p_ppend)) rfl) ?_
  refine WL.valw (R.lenS (a := p_ppend) rfl Tryz.underlying9) ?_
  refine WL.valw (R.gtr rfl rfl) ?_
  refine WL.nil ?_
  rcases condE h with ⟨hc1, h⟩ | ⟨hc1, h⟩
  · refine WP.condT rfl hc1 ?_
    refine WP.seq ?_
    refine WP.region ?_
    refine WL.valw (R.as (v := (int 0)) rfl) ?_
    refine WL.valw (R.as (v := (int 0)) rfl) ?_
    refine WL.valw (R.as (v := (str [])) rfl) ?_
    refine WL.valw (R.as (v := (int 4)) rfl) ?_
    refine WL.nil ?_
    obtain rfl := Option.some.inj h
    refine WP.ret (Out.four rfl S rfl rfl rfl rfl ?_)
    exact rfl
  · refine WP.condF rfl hc1 ?_
    refine WP.skip ?_
    refine WP.seq ?_
    refine WP.seq ?_
    refine WP.region ?_
    refine WL.valw (R.mv (v := (str p_ppend)) rfl) ?_
    refine WL.valw (R.lenS (a := p_ppend) rfl Tryz.underlying9) ?_
    refine WL.valw (R.lss rfl rfl) ?_
    refine WL.valw (R.mv (v := (boo (decide ((p_ppend.length : Int) < 13)))) rfl) ?_
    obtain ⟨b5, hg3, h⟩ := bindE h
    refine WL.grp 4 [17, 18, 19] 20 (boo b5) ?_ ?_
    · rcases boolE (decide ((p_ppend.length : Int) < 13)) with hb2 | hb2
      · replace hg3 := condT hg3 hb2
        refine WL.gno rfl rfl hb2 ?_
        refine WL.gno rfl rfl hb2 ?_
        refine WL.gno rfl rfl hb2 ?_
        refine WL.valw (R.pickT rfl hb2 rfl) ?_
        exact WL.nil ⟨(congrArg boo (Option.some.inj hg3)), (by repeat (first | refine agree_upd rfl ?_ | refine agree_upds' rfl ?_ | exact agree_refl)), rfl⟩
      · replace hg3 := condF hg3 hb2
        refine WL.gyes rfl rfl hb2 ?_
        refine WL.valw (R.mv (v := (str p_ppend)) rfl) ?_
        refine WL.gyes rfl rfl hb2 ?_
        obtain ⟨c4, hc4, hg3⟩ := bindE hg3
        refine WL.valw (R.idxS rfl rfl Tryz.underlying9 hc4) ?_
        refine WL.gyes rfl rfl hb2 ?_
        refine WL.valw (R.neq8 (a := c4) (b := 32) rfl rfl) ?_
        refine WL.valw (R.pickF rfl hb2 rfl) ?_
        exact WL.nil ⟨(congrArg boo (Option.some.inj hg3)), (by repeat (first | refine agree_upd rfl ?_ | refine agree_upds' rfl ?_ | exact agree_refl)), rfl⟩
    · intro us
      refine WL.valw (R.mv (v := (boo b5)) rfl) ?_
      obtain ⟨b9, hg7, h⟩ := bindE h
      refine WL.grp 4 [22, 23, 24] 25 (boo b9) ?_ ?_
      · rcases boolE b5 with hb6 | hb6
        · replace hg7 := condT hg7 hb6
          refine WL.gno rfl rfl hb6 ?_
          refine WL.gno rfl rfl hb6 ?_
          refine WL.gno rfl rfl hb6 ?_
          refine WL.valw (R.pickT rfl hb6 rfl) ?_
          exact WL.nil ⟨(congrArg boo (Option.some.inj hg7)), (by repeat (first | refine agree_upd rfl ?_ | refine agree_upds' rfl ?_ | exact agree_refl)), rfl⟩
        · replace hg7 := condF hg7 hb6
          refine WL.gyes rfl rfl hb6 ?_
          refine WL.valw (R.mv (v := (str p_ppend)) rfl) ?_
          refine WL.gyes rfl rfl hb6 ?_
          obtain ⟨c8, hc8, hg7⟩ := bindE hg7
          refine WL.valw (R.idxS rfl rfl Tryz.underlying9 hc8) ?_
          refine WL.gyes rfl rfl hb6 ?_
          refine WL.valw (R.lss8 (a := c8) (b := 49) rfl rfl) ?_
          refine WL.valw (R.pickF rfl hb6 rfl) ?_
          exact WL.nil ⟨(congrArg boo (Option.some.inj hg7)), (by repeat (first | refine agree_upd rfl ?_ | refine agree_upds' rfl ?_ | exact agree_refl)), rfl⟩
      · intro us
        refine WL.valw (R.mv (v := (boo b9)) rfl) ?_
        obtain ⟨b13, hg11, h⟩ := bindE h
        refine WL.grp 4 [27, 28, 29] 30 (boo b13) ?_ ?_
        · rcases boolE b9 with hb10 | hb10
          · replace hg11 := condT hg11 hb10
            refine WL.gno rfl rfl hb10 ?_
            refine WL.gno rfl rfl hb10 ?_
            refine WL.gno rfl rfl hb10 ?_
            refine WL.valw (R.pickT rfl hb10 rfl) ?_
            exact WL.nil ⟨(congrArg boo (Option.some.inj hg11)), (by repeat (first | refine agree_upd rfl ?_ | refine agree_upds' rfl ?_ | exact agree_refl)), rfl⟩
          · replace hg11 := condF hg11 hb10
            refine WL.gyes rfl rfl hb10 ?_
            refine WL.valw (R.mv (v := (str p_ppend)) rfl) ?_
            refine WL.gyes rfl rfl hb10 ?_
            obtain ⟨c12, hc12, hg11⟩ := bindE hg11
            refine WL.valw (R.idxS rfl rfl Tryz.underlying9 hc12) ?_
            refine WL.gyes rfl rfl hb10 ?_
            refine WL.valw (R.gtr8 (a := c12) (b := 53) rfl rfl) ?_
            refine WL.valw (R.pickF rfl hb10 rfl) ?_
            exact WL.nil ⟨(congrArg boo (Option.some.inj hg11)), (by repeat (first | refine agree_upd rfl ?_ | refine agree_upds' rfl ?_ | exact agree_refl)), rfl⟩
        · intro us
          refine WL.valw (R.mv (v := (boo b13)) rfl) ?_
          obtain ⟨b22, hg15, h⟩ := bindE h
          refine WL.grpw 5 [32, 33, 34, 35] 36 (boo b22) (fun w => ∃ H' : Hp, H0.le H' ∧ St w0 H0 w H' []) ?_ ?_
          · rcases boolE b13 with hb14 | hb14
            · replace hg15 := condT hg15 hb14
              refine WL.gno rfl rfl hb14 ?_
              refine WL.gno rfl rfl hb14 ?_
              refine WL.gno rfl rfl hb14 ?_
              refine WL.gno rfl rfl hb14 ?_
              refine WL.valw (R.pickT rfl hb14 rfl) ?_
              exact WL.nil ⟨(congrArg boo (Option.some.inj hg15)), (by repeat (first | refine agree_upd rfl ?_ | refine agree_upds' rfl ?_ | exact agree_refl)), ⟨H0, (Hp.le.refl _), S⟩⟩
            · replace hg15 := condF hg15 hb14
              refine WL.gyes rfl rfl hb14 ?_
              refine WL.valw (R.mv (v := (str p_ppend)) rfl) ?_
              refine WL.gyes rfl rfl hb14 ?_
              obtain ⟨c16, hc16, hg15⟩ := bindE hg15
              refine WL.valw (R.idxS rfl rfl Tryz.underlying9 hc16) ?_
              refine WL.gyes rfl rfl hb14 ?_
              obtain ⟨r17, hr17, hg15⟩ := bindE hg15
              refine W.call S rfl (ref01_Digit_ok S.holds (hG.post S.post) c16 hr17) ?_
              rintro v18 w19 H20 hle21 S rfl
              refine WL.gyes rfl rfl hb14 ?_
              refine WL.valw (R.not rfl) ?_
              refine WL.valw (R.pickF rfl hb14 rfl) ?_
              exact WL.nil ⟨(congrArg boo (Option.some.inj hg15)), (by repeat (first | refine agree_upd rfl ?_ | refine agree_upds' rfl ?_ | exact agree_refl)), ⟨H20, hle21, S⟩⟩
          · intro us w24 ⟨H23, hle25, S⟩
            refine WL.valw (R.mv (v := (boo b22)) rfl) ?_
            obtain ⟨b34, hg27, h⟩ := bindE h
            refine WL.grpw 5 [38, 39, 40, 41] 42 (boo b34) (fun w => ∃ H' : Hp, H23.le H' ∧ St w0 H0 w H' []) ?_ ?_
            · rcases boolE b22 with hb26 | hb26
              · replace hg27 := condT hg27 hb26
                refine WL.gno rfl rfl hb26 ?_
                refine WL.gno rfl rfl hb26 ?_
                refine WL.gno rfl rfl hb26 ?_
                refine WL.gno rfl rfl hb26 ?_
                refine WL.valw (R.pickT rfl hb26 rfl) ?_
                exact WL.nil ⟨(congrArg boo (Option.some.inj hg27)), (by repeat (first | refine agree_upd rfl ?_ | refine agree_upds' rfl ?_ | exact agree_refl)), ⟨H23, (Hp.le.refl _), S⟩⟩
              · replace hg27 := condF hg27 hb26
                refine WL.gyes rfl rfl hb26 ?_
                refine WL.valw (R.mv (v := (str p_ppend)) rfl) ?_
                refine WL.gyes rfl rfl hb26 ?_
                obtain ⟨c28, hc28, hg27⟩ := bindE hg27
                refine WL.valw (R.idxS rfl rfl Tryz.underlying9 hc28) ?_
                refine WL.gyes rfl rfl hb26 ?_
                obtain ⟨r29, hr29, hg27⟩ := bindE hg27
                refine W.call S rfl (ref01_Digit_ok S.holds (hG.post S.post) c28 hr29) ?_
                rintro v30 w31 H32 hle33 S rfl
                refine WL.gyes rfl rfl hb26 ?_
                refine WL.valw (R.not rfl) ?_
                refine WL.valw (R.pickF rfl hb26 rfl) ?_
                exact WL.nil ⟨(congrArg boo (Option.some.inj hg27)), (by repeat (first | refine agree_upd rfl ?_ | refine agree_upds' rfl ?_ | exact agree_refl)), ⟨H32, hle33, S⟩⟩
            · intro us w36 ⟨H35, hle37, S⟩
              refine WL.valw (R.mv (v := (boo b34)) rfl) ?_
              obtain ⟨b41, hg39, h⟩ := bindE h
              refine WL.grp 4 [44, 45, 46] 47 (boo b41) ?_ ?_
              · rcases boolE b34 with hb38 | hb38
                · replace hg39 := condT hg39 hb38
                  refine WL.gno rfl rfl hb38 ?_
                  refine WL.gno rfl rfl hb38 ?_
                  refine WL.gno rfl rfl hb38 ?_
                  refine WL.valw (R.pickT rfl hb38 rfl) ?_
                  exact WL.nil ⟨(congrArg boo (Option.some.inj hg39)), (by repeat (first | refine agree_upd rfl ?_ | refine agree_upds' rfl ?_ | exact agree_refl)), rfl⟩
                · replace hg39 := condF hg39 hb38
                  refine WL.gyes rfl rfl hb38 ?_
                  refine WL.valw (R.mv (v := (str p_ppend)) rfl) ?_
                  refine WL.gyes rfl rfl hb38 ?_
                  obtain ⟨c40, hc40, hg39⟩ := bindE hg39
                  refine WL.valw (R.idxS rfl rfl Tryz.underlying9 hc40) ?_
                  refine WL.gyes rfl rfl hb38 ?_
                  refine WL.valw (R.neq8 (a := c40) (b := 32) rfl rfl) ?_
                  refine WL.valw (R.pickF rfl hb38 rfl) ?_
                  exact WL.nil ⟨(congrArg boo (Option.some.inj hg39)), (by repeat (first | refine agree_upd rfl ?_ | refine agree_upds' rfl ?_ | exact agree_refl)), rfl⟩
              · intro us
                refine WL.valw (R.mv (v := (boo b41)) rfl) ?_
                obtain ⟨b50, hg43, h⟩ := bindE h
                refine WL.grpw 5 [49, 50, 51, 52] 53 (boo b50) (fun w => ∃ H' : Hp, H35.le H' ∧ St w0 H0 w H' []) ?_ ?_
                · rcases boolE b41 with hb42 | hb42
                  · replace hg43 := condT hg43 hb42
                    refine WL.gno rfl rfl hb42 ?_
                    refine WL.gno rfl rfl hb42 ?_
                    refine WL.gno rfl rfl hb42 ?_
                    refine WL.gno rfl rfl hb42 ?_
                    refine WL.valw (R.pickT rfl hb42 rfl) ?_
                    exact WL.nil ⟨(congrArg boo (Option.some.inj hg43)), (by repeat (first | refine agree_upd rfl ?_ | refine agree_upds' rfl ?_ | exact agree_refl)), ⟨H35, (Hp.le.refl _), S⟩⟩
                  · replace hg43 := condF hg43 hb42
                    refine WL.gyes rfl rfl hb42 ?_
                    refine WL.valw (R.mv (v := (str p_ppend)) rfl) ?_
                    refine WL.gyes rfl rfl hb42 ?_
                    obtain ⟨s44, hs44, hg43⟩ := bindE hg43
                    refine WL.valw (R.subSlo rfl rfl Tryz.underlying9 hs44) ?_
                    refine WL.gyes rfl rfl hb42 ?_
                    obtain ⟨r45, hr45, hg43⟩ := bindE hg43
                    refine W.call S rfl (ref01_Text_ok S.holds (hG.post S.post) s44 hr45) ?_
                    rintro v46 w47 H48 hle49 S rfl
                    refine WL.gyes rfl rfl hb42 ?_
                    refine WL.valw (R.not rfl) ?_
                    refine WL.valw (R.pickF rfl hb42 rfl) ?_
                    exact WL.nil ⟨(congrArg boo (Option.some.inj hg43)), (by repeat (first | refine agree_upd rfl ?_ | refine agree_upds' rfl ?_ | exact agree_refl)), ⟨H48, hle49, S⟩⟩
                · intro us w52 ⟨H51, hle53, S⟩
                  refine WL.nil ?_
                  rcases condE h with ⟨hc54, h⟩ | ⟨hc54, h⟩
                  · refine WP.condT rfl hc54 ?_
                    refine WP.seq ?_
                    refine WP.region ?_
                    refine WL.valw (R.as (v := (int 0)) rfl) ?_
                    refine WL.valw (R.as (v := (int 0)) rfl) ?_
                    refine WL.valw (R.as (v := (str [])) rfl) ?_
                    refine WL.valw (R.as (v := (int 1)) rfl) ?_
                    refine WL.nil ?_
                    obtain rfl := Option.some.inj h
                    refine WP.ret (Out.four rfl S rfl rfl rfl rfl ?_)
                    exact rfl
                  · refine WP.condF rfl hc54 ?_
                    refine WP.skip ?_
                    refine WP.seq ?_
                    refine WP.region ?_
                    refine WL.valw (R.mv (v := (str p_ppend)) rfl) ?_
                    obtain ⟨s55, hs55, h⟩ := bindE h
                    refine WL.valw (R.subShi rfl rfl Tryz.underlying9 hs55) ?_
                    obtain ⟨r56, hr56, h⟩ := bindE h
                    refine W.call S rfl (ref01_version_ok S.holds (hG.post S.post) s55 hr56) ?_
                    rintro v57 w58 H59 hle60 S rfl
                    refine WL.valw (R.mv (v := (.tuple ⟨[(int r56.1), (int r56.2)]⟩)) rfl) ?_
                    refine WL.valw (R.ext rfl rfl) ?_
                    refine WL.valw (R.ext rfl rfl) ?_
                    refine WL.valw (R.as (v := (int r56.1)) rfl) ?_
                    refine WL.valw (R.as (v := (int r56.2)) rfl) ?_
                    refine WL.nil ?_
                    refine WP.seq ?_
                    refine WP.seq ?_
                    refine WP.region ?_
                    refine WL.valw (R.mv (v := (int r56.2)) rfl) ?_
                    refine WL.valw (R.neq rfl rfl) ?_
                    refine WL.nil ?_
                    rcases condE h with ⟨hc61, h⟩ | ⟨hc61, h⟩
                    · refine WP.condT rfl hc61 ?_
                      refine WP.seq ?_
                      refine WP.region ?_
                      refine WL.valw (R.mv (v := (int r56.2)) rfl) ?_
                      refine WL.valw (R.as (v := (int 0)) rfl) ?_
                      refine WL.valw (R.as (v := (int 0)) rfl) ?_
                      refine WL.valw (R.as (v := (str [])) rfl) ?_
                      refine WL.valw (R.as (v := (int r56.2)) rfl) ?_
                      refine WL.nil ?_
                      obtain rfl := Option.some.inj h
                      refine WP.ret (Out.four rfl S rfl rfl rfl rfl ?_)
                      exact rfl
                    · refine WP.condF rfl hc61 ?_
                      refine WP.skip ?_
                      refine WP.seq ?_
                      refine WP.region ?_
                      refine WL.valw (R.mv (v := (str p_ppend)) rfl) ?_
                      obtain ⟨s62, hs62, h⟩ := bindE h
                      refine WL.valw (R.subS rfl rfl rfl Tryz.underlying9 hs62) ?_
                      obtain ⟨r63, hr63, h⟩ := bindE h
                      refine W.call S rfl (ref01_Number_ok S.holds (hG.post S.post) s62 hr63) ?_
                      rintro v64 w65 H66 hle67 S rfl
                      refine WL.valw (R.mv (v := (.tuple ⟨[(int r63.1), (boo r63.2)]⟩)) rfl) ?_
                      refine WL.valw (R.ext rfl rfl) ?_
                      refine WL.valw (R.ext rfl rfl) ?_
                      refine WL.valw (R.as (v := (int r63.1)) rfl) ?_
                      refine WL.valw (R.as (v := (boo r63.2)) rfl) ?_
                      refine WL.nil ?_
                      refine WP.seq ?_
                      refine WP.quiet S (by kernel_rfl) (by kernel_rfl) ?_
                      refine WQ.val (fun _ _ => (R.mv (v := (int r56.1)) rfl)) ?_
                      refine WQ.val (fun _ _ => (R.mv (v := (int r63.1)) rfl)) ?_
                      refine WQ.val (fun _ _ => (R.mv (v := (str p_ppend)) rfl)) ?_
                      obtain ⟨s71, hs71, h⟩ := bindE h
                      refine WQ.val (fun _ _ => (R.subSlo rfl rfl Tryz.underlying9 hs71)) ?_
                      refine WQ.val (fun _ _ => (R.as (v := (int r56.1)) rfl)) ?_
                      refine WQ.val (fun _ _ => (R.as (v := (int r63.1)) rfl)) ?_
                      refine WQ.val (fun _ _ => (R.as (v := (str s71)) rfl)) ?_
                      refine WQ.val (fun _ _ => (R.as (v := (int 0)) rfl)) ?_
                      refine WQ.nil ?_
                      intro w68 H69 hle70 S
                      obtain rfl := Option.some.inj h
                      refine WP.ret (Out.four rfl S rfl rfl rfl rfl ?_)
                      exact rfl
set_option maxRecDepth 10000 in
set_option maxHeartbeats 4000000 in
theorem ref01_FormatStatusLine_ok {w0 : World} {H0 : Hp} (hw : Holds w0 H0) (hG : Tryz.Gl w0) (p_minor : Int) (p_status : Int) (p_reason : Str) {r : Str} (h : ref01_FormatStatusLine p_minor p_status p_reason = some r) :
    Con Tryz.prog 39 [(int p_minor), (int p_status), (str p_reason)] w0 H0 (fun H' v => v = (str r)) := by
  refine Con.mk (N := 51) Tryz.func39 rfl rfl (by kernel_rfl) rfl ?_
  have S := St.start hw
  refine WP.seq ?_
  refine WP.region ?_
  refine WL.valw (R.as (v := (str [])) rfl) ?_
  refine WL.nil ?_
  refine WP.seq ?_
  refine WP.seq ?_
  refine WP.region ?_
  refine WL.valw (R.mv (v := (int p_minor)) rfl) ?_
  refine WL.valw (R.lss rfl rfl) ?_
  refine WL.valw (R.mv (v := (boo (decide (p_minor < 0)))) rfl) ?_
  refine WL.grp 3 [15, 16] 17 (boo ((decide (p_minor < 0)) || (decide (1 < p_minor)))) ?_ ?_
  · rcases boolE (decide (p_minor < 0)) with hb1 | hb1
    · refine WL.gno rfl rfl hb1 ?_
      refine WL.gno rfl rfl hb1 ?_
      refine WL.valw (R.pickT rfl hb1 rfl) ?_
      exact WL.nil ⟨(orT hb1), (by repeat (first | refine agree_upd rfl ?_ | refine agree_upds' rfl ?_ | exact agree_refl)), rfl⟩
    · refine WL.gyes rfl rfl hb1 ?_
      refine WL.valw (R.mv (v := (int p_minor)) rfl) ?_
      refine WL.gyes rfl rfl hb1 ?_
      refine WL.valw (R.gtr rfl rfl) ?_
      refine WL.valw (R.pickF rfl hb1 rfl) ?_
      exact WL.nil ⟨(orF hb1), (by repeat (first | refine agree_upd rfl ?_ | refine agree_upds' rfl ?_ | exact agree_refl)), rfl⟩
  · intro us
    refine WL.valw (R.mv (v := (boo ((decide (p_minor < 0)) || (decide (1 < p_minor))))) rfl) ?_
    refine WL.grp 3 [19, 20] 21 (boo (((decide (p_minor < 0)) || (decide (1 < p_minor))) || (decide (p_status < 100)))) ?_ ?_
    · rcases boolE ((decide (p_minor < 0)) || (decide (1 < p_minor))) with hb3 | hb3
      · refine WL.gno rfl rfl hb3 ?_
        refine WL.gno rfl rfl hb3 ?_
        refine WL.valw (R.pickT rfl hb3 rfl) ?_
        exact WL.nil ⟨(orT hb3), (by repeat (first | refine agree_upd rfl ?_ | refine agree_upds' rfl ?_ | exact agree_refl)), rfl⟩
      · refine WL.gyes rfl rfl hb3 ?_
        refine WL.valw (R.mv (v := (int p_status)) rfl) ?_
        refine WL.gyes rfl rfl hb3 ?_
        refine WL.valw (R.lss rfl rfl) ?_
        refine WL.valw (R.pickF rfl hb3 rfl) ?_
        exact WL.nil ⟨(orF hb3), (by repeat (first | refine agree_upd rfl ?_ | refine agree_upds' rfl ?_ | exact agree_refl)), rfl⟩
    · intro us
      refine WL.valw (R.mv (v := (boo (((decide (p_minor < 0)) || (decide (1 < p_minor))) || (decide (p_status < 100))))) rfl) ?_
      refine WL.grp 3 [23, 24] 25 (boo ((((decide (p_minor < 0)) || (decide (1 < p_minor))) || (decide (p_status < 100))) || (decide (599 < p_status)))) ?_ ?_
      · rcases boolE (((decide (p_minor < 0)) || (decide (1 < p_minor))) || (decide (p_status < 100))) with hb5 | hb5
        · refine WL.gno rfl rfl hb5 ?_
          refine WL.gno rfl rfl hb5 ?_
          refine WL.valw (R.pickT rfl hb5 rfl) ?_
          exact WL.nil ⟨(orT hb5), (by repeat (first | refine agree_upd rfl ?_ | refine agree_upds' rfl ?_ | exact agree_refl)), rfl⟩
        · refine WL.gyes rfl rfl hb5 ?_
          refine WL.valw (R.mv (v := (int p_status)) rfl) ?_
          refine WL.gyes rfl rfl hb5 ?_
          refine WL.valw (R.gtr rfl rfl) ?_
          refine WL.valw (R.pickF rfl hb5 rfl) ?_
          exact WL.nil ⟨(orF hb5), (by repeat (first | refine agree_upd rfl ?_ | refine agree_upds' rfl ?_ | exact agree_refl)), rfl⟩
      · intro us
        refine WL.valw (R.mv (v := (boo ((((decide (p_minor < 0)) || (decide (1 < p_minor))) || (decide (p_status < 100))) || (decide (599 < p_status))))) rfl) ?_
        refine WL.grp 4 [27, 28, 29] 30 (boo (((((decide (p_minor < 0)) || (decide (1 < p_minor))) || (decide (p_status < 100))) || (decide (599 < p_status))) || (decide (2000 < (p_reason.length : Int))))) ?_ ?_
        · rcases boolE ((((decide (p_minor < 0)) || (decide (1 < p_minor))) || (decide (p_status < 100))) || (decide (599 < p_status))) with hb7 | hb7
          · refine WL.gno rfl rfl hb7 ?_
            refine WL.gno rfl rfl hb7 ?_
            refine WL.gno rfl rfl hb7 ?_
            refine WL.valw (R.pickT rfl hb7 rfl) ?_
            exact WL.nil ⟨(orT hb7), (by repeat (first | refine agree_upd rfl ?_ | refine agree_upds' rfl ?_ | exact agree_refl)), rfl⟩
          · refine WL.gyes rfl rfl hb7 ?_
            refine WL.valw (R.mv (v := (str p_reason)) rfl) ?_
            refine WL.gyes rfl rfl hb7 ?_
            refine WL.valw (R.lenS (a := p_reason) rfl Tryz.underlying9) ?_
            refine WL.gyes rfl rfl hb7 ?_
            refine WL.valw (R.gtr rfl rfl) ?_
            refine WL.valw (R.pickF rfl hb7 rfl) ?_
            exact WL.nil ⟨(orF hb7), (by repeat (first | refine agree_upd rfl ?_ | refine agree_upds' rfl ?_ | exact agree_refl)), rfl⟩
        · intro us
          refine WL.nil ?_
          rcases condE h with ⟨hc9, h⟩ | ⟨hc9, h⟩
          · refine WP.condT rfl hc9 ?_
            refine WP.seq ?_
            refine WP.region ?_
            refine WL.valw (R.as (v := (str [])) rfl) ?_
            refine WL.nil ?_
            obtain rfl := Option.some.inj h
            refine WP.ret (Out.one rfl S rfl ?_)
            exact rfl
          · refine WP.condF rfl hc9 ?_
            refine WP.skip ?_
            refine WP.seq ?_
            refine WP.region ?_
            refine WL.valw (R.mv (v := (int p_minor)) rfl) ?_
            obtain ⟨r10, hr10, h⟩ := bindE h
            refine W.call S rfl (ref01_Decimal_ok S.holds (hG.post S.post) p_minor hr10) ?_
            rintro v11 w12 H13 hle14 S rfl
            obtain ⟨s15, hs15, h⟩ := bindE h
            refine WL.valw (R.cat (a := [72, 84, 84, 80, 47, 49, 46]) (b := r10) rfl rfl hs15) ?_
            obtain ⟨s16, hs16, h⟩ := bindE h
            refine WL.valw (R.cat (a := s15) (b := [32]) rfl rfl hs16) ?_
            refine WL.valw (R.mv (v := (int p_status)) rfl) ?_
            obtain ⟨r17, hr17, h⟩ := bindE h
            refine W.call S rfl (ref01_Decimal_ok S.holds (hG.post S.post) p_status hr17) ?_
            rintro v18 w19 H20 hle21 S rfl
            obtain ⟨s22, hs22, h⟩ := bindE h
            refine WL.valw (R.cat (a := s16) (b := r17) rfl rfl hs22) ?_
            obtain ⟨s23, hs23, h⟩ := bindE h
            refine WL.valw (R.cat (a := s22) (b := [32]) rfl rfl hs23) ?_
            refine WL.valw (R.mv (v := (str p_reason)) rfl) ?_
            obtain ⟨s24, hs24, h⟩ := bindE h
            refine WL.valw (R.cat (a := s23) (b := p_reason) rfl rfl hs24) ?_
            refine WL.valw (R.as (v := (str s24)) rfl) ?_
            refine WL.nil ?_
            refine WP.seq ?_
            refine WP.seq ?_
            refine WP.region ?_
            refine WL.valw (R.mv (v := (str s24)) rfl) ?_
            obtain ⟨r25, hr25, h⟩ := bindE h
            refine W.call S rfl (ref01_ParseStatusLine_ok S.holds (hG.post S.post) s24 hr25) ?_
            rintro v26 w27 H28 hle29 S rfl
            refine WL.valw (R.mv (v := (.tuple ⟨[(int r25.1), (int r25.2.1), (str r25.2.2.1), (int r25.2.2.2)]⟩)) rfl) ?_
            refine WL.valw (R.ext rfl rfl) ?_
            refine WL.valw (R.ext rfl rfl) ?_
            refine WL.valw (R.ext rfl rfl) ?_
            refine WL.valw (R.ext rfl rfl) ?_
            refine WL.valw (R.as (v := (int r25.1)) rfl) ?_
            refine WL.valw (R.as (v := (int r25.2.1)) rfl) ?_
            refine WL.valw (R.as (v := (str r25.2.2.1)) rfl) ?_
            refine WL.valw (R.as (v := (int r25.2.2.2)) rfl) ?_
            refine WL.nil ?_
            refine WP.seq ?_
            refine WP.region ?_
            refine WL.valw (R.mv (v := (int r25.2.2.2)) rfl) ?_
            refine WL.valw (R.neq rfl rfl) ?_
            refine WL.nil ?_
            rcases condE h with ⟨hc30, h⟩ | ⟨hc30, h⟩
            · refine WP.condT rfl hc30 ?_
              refine WP.seq ?_
              refine WP.region ?_
              refine WL.valw (R.as (v := (str [])) rfl) ?_
              refine WL.nil ?_
              obtain rfl := Option.some.inj h
              refine WP.ret (Out.one rfl S rfl ?_)
              exact rfl
            · refine WP.condF rfl hc30 ?_
              refine WP.skip ?_
              refine WP.seq ?_
              refine WP.region ?_
              refine WL.valw (R.mv (v := (str s24)) rfl) ?_
              refine WL.valw (R.as (v := (str s24)) rfl) ?_
              refine WL.nil ?_
              obtain rfl := Option.some.inj h
              refine WP.ret (Out.one rfl S rfl ?_)
              exact rfl
set_option maxRecDepth 10000 in
set_option maxHeartbeats 4000000 in
theorem ref01_Unframed_ok {w0 : World} {H0 : Hp} (hw : Holds w0 H0) (hG : Tryz.Gl w0) (p_l : (List GField)) {vp_l : Value} (Rp_l : Sl (α := GField) H0 vp_l p_l) {r : (List GField)} (h : ref01_Unframed p_l = some r) :
    Con Tryz.prog 43 [vp_l] w0 H0 (fun H' v => Sl (α := GField) H' v r) := by
  refine Con.mk (N := 6) Tryz.func43 rfl rfl (by kernel_rfl) rfl ?_
  have S := St.start hw
  refine WP.seq ?_
  refine WP.region ?_
  refine WL.valw (R.as (v := (.slice none 0 0)) rfl) ?_
  refine WL.nil ?_
  refine WP.seq ?_
  refine WP.region ?_
  refine WL.valw (R.mv (v := vp_l) rfl) ?_
  obtain ⟨r1, hr1, h⟩ := bindE h
  refine W.call S rfl (ref01_Remove_ok S.holds (hG.post S.post) p_l [67, 111, 110, 116, 101, 110, 116, 45, 76, 101, 110, 103, 116, 104] Rp_l hr1) ?_
  rintro v2 w3 H4 hle5 S R6
  have Rp_l := Sl.mono Rp_l hle5
  obtain ⟨r7, hr7, h⟩ := bindE h
  refine W.call S rfl (ref01_Remove_ok S.holds (hG.post S.post) r1 [84, 114, 97, 110, 115, 102, 101, 114, 45, 69, 110, 99, 111, 100, 105, 110, 103] R6 hr7) ?_
  rintro v8 w9 H10 hle11 S R12
  have Rp_l := Sl.mono Rp_l hle11
  have R6 := Sl.mono R6 hle11
  refine WL.valw (R.as (v := v8) rfl) ?_
  refine WL.nil ?_
  obtain rfl := Option.some.inj h
  refine WP.ret (Out.one rfl S rfl ?_)
  exact R12
set_option maxRecDepth 10000 in
set_option maxHeartbeats 4000000 in
theorem ref01_TokenByte_ok {w0 : World} {H0 : Hp} (hw : Holds w0 H0) (hG : Tryz.Gl w0) (p_c : UInt8) {r : Bool} (h : ref01_TokenByte p_c = some r) :
    Con Tryz.prog 145 [(byt p_c)] w0 H0 (fun H' v => v = (boo r)) := by
  refine Con.mk (N := 34) Tryz.func145 rfl rfl (by kernel_rfl) rfl ?_
  have S := St.start hw
  refine WP.seq ?_
  refine WP.region ?_
  refine WL.valw (R.as (v := (boo false)) rfl) ?_
  refine WL.nil ?_
  refine WP.seq ?_
  refine WP.seq ?_
  refine WP.region ?_
  refine WL.valw (R.mv (v := (byt p_c)) rfl) ?_
  refine WL.valw (R.geq8 (a := p_c) (b := 97) rfl rfl) ?_
  refine WL.valw (R.mv (v := (boo (decide (97 ≤ p_c)))) rfl) ?_
  refine WL.grp 3 [7, 8] 9 (boo ((decide (97 ≤ p_c)) && (decide (p_c ≤ 122)))) ?_ ?_
  · rcases boolE (decide (97 ≤ p_c)) with hb1 | hb1
    · refine WL.gyes rfl rfl hb1 ?_
      refine WL.valw (R.mv (v := (byt p_c)) rfl) ?_
      refine WL.gyes rfl rfl hb1 ?_
      refine WL.valw (R.leq8 (a := p_c) (b := 122) rfl rfl) ?_
      refine WL.valw (R.pickT rfl hb1 rfl) ?_
      exact WL.nil ⟨(andT hb1), (by repeat (first | refine agree_upd rfl ?_ | refine agree_upds' rfl ?_ | exact agree_refl)), rfl⟩
    · refine WL.gno rfl rfl hb1 ?_
      refine WL.gno rfl rfl hb1 ?_
      refine WL.valw (R.pickF rfl hb1 rfl) ?_
      exact WL.nil ⟨(andF hb1), (by repeat (first | refine agree_upd rfl ?_ | refine agree_upds' rfl ?_ | exact agree_refl)), rfl⟩
  · intro us
    refine WL.valw (R.mv (v := (boo ((decide (97 ≤ p_c)) && (decide (p_c ≤ 122))))) rfl) ?_
    refine WL.grp 7 [11, 12, 13, 14, 15, 16] 17 (boo (((decide (97 ≤ p_c)) && (decide (p_c ≤ 122))) || ((decide (65 ≤ p_c)) && (decide (p_c ≤ 90))))) ?_ ?_
    · rcases boolE ((decide (97 ≤ p_c)) && (decide (p_c ≤ 122))) with hb3 | hb3
      · refine WL.gno rfl rfl hb3 ?_
        refine WL.gno rfl rfl hb3 ?_
        refine WL.gno rfl rfl hb3 ?_
        refine WL.gund rfl rfl ?_
        refine WL.gund rfl rfl ?_
        refine WL.gno rfl rfl hb3 ?_
        refine WL.valw (R.pickT rfl hb3 rfl) ?_
        exact WL.nil ⟨(orT hb3), (by repeat (first | refine agree_upd rfl ?_ | refine agree_upds' rfl ?_ | exact agree_refl)), rfl⟩
      · refine WL.gyes rfl rfl hb3 ?_
        refine WL.valw (R.mv (v := (byt p_c)) rfl) ?_
        refine WL.gyes rfl rfl hb3 ?_
        refine WL.valw (R.geq8 (a := p_c) (b := 65) rfl rfl) ?_
        refine WL.gyes rfl rfl hb3 ?_
        refine WL.valw (R.mv (v := (boo (decide (65 ≤ p_c)))) rfl) ?_
        refine WL.grp 3 [14, 15] 16 (boo ((decide (65 ≤ p_c)) && (decide (p_c ≤ 90)))) ?_ ?_
        · rcases boolE (decide (65 ≤ p_c)) with hb5 | hb5
          · refine WL.gyes rfl rfl hb5 ?_
            refine WL.valw (R.mv (v := (byt p_c)) rfl) ?_
            refine WL.gyes rfl rfl hb5 ?_
            refine WL.valw (R.leq8 (a := p_c) (b := 90) rfl rfl) ?_
            refine WL.gyes rfl rfl hb3 ?_
            refine WL.valw (R.pickT rfl hb5 rfl) ?_
            exact WL.nil ⟨(andT hb5), (by repeat (first | refine agree_upd rfl ?_ | refine agree_upds' rfl ?_ | exact agree_refl)), rfl⟩
          · refine WL.gno rfl rfl hb5 ?_
            refine WL.gno rfl rfl hb5 ?_
            refine WL.gyes rfl rfl hb3 ?_
            refine WL.valw (R.pickF rfl hb5 rfl) ?_
            exact WL.nil ⟨(andF hb5), (by repeat (first | refine agree_upd rfl ?_ | refine agree_upds' rfl ?_ | exact agree_refl)), rfl⟩
        · intro us
          refine WL.valw (R.pickF rfl hb3 rfl) ?_
          exact WL.nil ⟨(orF hb3), (by repeat (first | refine agree_upd rfl ?_ | refine agree_upds' rfl ?_ | exact agree_refl)), rfl⟩
    · intro us
      refine WL.valw (R.mv (v := (boo (((decide (97 ≤ p_c)) && (decide (p_c ≤ 122))) || ((decide (65 ≤ p_c)) && (decide (p_c ≤ 90)))))) rfl) ?_
      refine WL.grp 7 [19, 20, 21, 22, 23, 24] 25 (boo ((((decide (97 ≤ p_c)) && (decide (p_c ≤ 122))) || ((decide (65 ≤ p_c)) && (decide (p_c ≤ 90)))) || ((decide (48 ≤ p_c)) && (decide (p_c ≤ 57))))) ?_ ?_
      · rcases boolE (((decide (97 ≤ p_c)) && (decide (p_c ≤ 122))) || ((decide (65 ≤ p_c)) && (decide (p_c ≤ 90)))) with hb7 | hb7
        · refine WL.gno rfl rfl hb7 ?_
          refine WL.gno rfl rfl hb7 ?_
          refine WL.gno rfl rfl hb7 ?_
          refine WL.gund rfl rfl ?_
          refine WL.gund rfl rfl ?_
          refine WL.gno rfl rfl hb7 ?_
          refine WL.valw (R.pickT rfl hb7 rfl) ?_
          exact WL.nil ⟨(orT hb7), (by repeat (first | refine agree_upd rfl ?_ | refine agree_upds' rfl ?_ | exact agree_refl)), rfl⟩
        · refine WL.gyes rfl rfl hb7 ?_
          refine WL.valw (R.mv (v := (byt p_c)) rfl) ?_
          refine WL.gyes rfl rfl hb7 ?_
          refine WL.valw (R.geq8 (a := p_c) (b := 48) rfl rfl) ?_
          refine WL.gyes rfl rfl hb7 ?_
          refine WL.valw (R.mv (v := (boo (decide (48 ≤ p_c)))) rfl) ?_
          refine WL.grp 3 [22, 23] 24 (boo ((decide (48 ≤ p_c)) && (decide (p_c ≤ 57)))) ?_ ?_
          · rcases boolE (decide (48 ≤ p_c)) with hb9 | hb9
            · refine WL.gyes rfl rfl hb9 ?_
              refine WL.valw (R.mv (v := (byt p_c)) rfl) ?_
              refine WL.gyes rfl rfl hb9 ?_
              refine WL.valw (R.leq8 (a := p_c) (b := 57) rfl rfl) ?_
              refine WL.gyes rfl rfl hb7 ?_
              refine WL.valw (R.pickT rfl hb9 rfl) ?_
              exact WL.nil ⟨(andT hb9), (by repeat (first | refine agree_upd rfl ?_ | refine agree_upds' rfl ?_ | exact agree_refl)), rfl⟩
            · refine WL.gno rfl rfl hb9 ?_
              refine WL.gno rfl rfl hb9 ?_
              refine WL.gyes rfl rfl hb7 ?_
              refine WL.valw (R.pickF rfl hb9 rfl) ?_
              exact WL.nil ⟨(andF hb9), (by repeat (first | refine agree_upd rfl ?_ | refine agree_upds' rfl ?_ | exact agree_refl)), rfl⟩
          · intro us
            refine WL.valw (R.pickF rfl hb7 rfl) ?_
            exact WL.nil ⟨(orF hb7), (by repeat (first | refine agree_upd rfl ?_ | refine agree_upds' rfl ?_ | exact agree_refl)), rfl⟩
      · intro us
        refine WL.nil ?_
        rcases condE h with ⟨hc11, h⟩ | ⟨hc11, h⟩
        · refine WP.condT rfl hc11 ?_
          refine WP.seq ?_
          refine WP.region ?_
          refine WL.valw (R.as (v := (boo true)) rfl) ?_
          refine WL.nil ?_
          obtain rfl := Option.some.inj h
          refine WP.ret (Out.one rfl S rfl ?_)
          exact rfl
        · refine WP.condF rfl hc11 ?_
          refine WP.skip ?_
          refine WP.seq ?_
          refine WP.seq ?_
          refine WP.region ?_
          refine WL.valw (R.as (v := (int 0)) rfl) ?_
          refine WL.nil ?_
          obtain ⟨r20, hr21, h⟩ := bindE h
          refine WP.cut (fun f w => match r20 with | .inl _ => ∃ (H16 : Hp), St w0 H0 w H16 [] | .inr _ => False) ?_ ?_
          · refine WP.block ?_
            refine WP.loopM (ref01_TokenByte_L0 p_c) (fun s f w => match s with | i_14 => ∃ (H12 : Hp), f 0 = (byt p_c) ∧ f 3 = (int i_14) ∧ St w0 H0 w H12 []) 0 r20 hr21 ?_ ?_
            · exact ⟨H0, rfl, rfl, S⟩
            · intro i_14 f w hI y17 hy18 hy19
              obtain ⟨H12, h13, h15, S⟩ := hI
              refine WP.seq ?_
              refine WP.seq ?_
              refine WP.region ?_
              refine WL.valw (R.mv (v := (int i_14)) h15) ?_
              refine WL.valw (R.lss rfl rfl) ?_
              refine WL.nil ?_
              rcases condE hy18 with ⟨hc22, hy18⟩ | ⟨hc22, hy18⟩
              · refine WP.condT rfl hc22 ?_
                refine WP.skip ?_
                refine WP.seq ?_
                refine WP.block ?_
                refine WP.seq ?_
                refine WP.region ?_
                refine WL.valw (R.mv (v := (int i_14)) h15) ?_
                obtain ⟨c23, hc23, hy18⟩ := bindE hy18
                refine WL.valw (R.idxS rfl rfl Tryz.underlying9 hc23) ?_
                refine WL.valw (R.mv (v := (byt p_c)) h13) ?_
                refine WL.valw (R.eql8 (a := c23) (b := p_c) rfl rfl) ?_
                refine WL.nil ?_
                rcases condE hy18 with ⟨hc24, hy18⟩ | ⟨hc24, hy18⟩
                · refine WP.condT rfl hc24 ?_
                  refine WP.seq ?_
                  refine WP.region ?_
                  refine WL.valw (R.as (v := (boo true)) rfl) ?_
                  refine WL.nil ?_
                  obtain rfl := Option.some.inj hy18
                  obtain rfl := hy19
                  obtain rfl := Option.some.inj h
                  refine WP.ret (Out.one rfl S rfl ?_)
                  exact rfl
                · refine WP.condF rfl hc24 ?_
                  refine WP.skip ?_
                  refine WP.region ?_
                  refine WL.valw (R.mv (v := (int i_14)) h15) ?_
                  refine WL.valw (R.add rfl rfl) ?_
                  refine WL.valw (R.as (v := (int (wr (i_14 + 1)))) rfl) ?_
                  refine WL.nil ?_
                  obtain rfl := Option.some.inj hy18
                  exact ⟨rfl, ⟨H12, h13, rfl, S⟩⟩
              · refine WP.condF rfl hc22 ?_
                refine WP.exit ?_
                obtain rfl := Option.some.inj hy18
                obtain rfl := hy19
                exact ⟨H12, S⟩
          · intro f w hM
            rcases r20 with _ | e
            · obtain ⟨H16, S⟩ := hM
              refine WP.seq ?_
              refine WP.region ?_
              refine WL.valw (R.as (v := (boo false)) rfl) ?_
              refine WL.nil ?_
              obtain rfl := Option.some.inj h
              refine WP.ret (Out.one rfl S rfl ?_)
              exact rfl
            · exact hM.elim
set_option maxRecDepth 10000 in
set_option maxHeartbeats 4000000 in
theorem ref01_Token_ok {w0 : World} {H0 : Hp} (hw : Holds w0 H0) (hG : Tryz.Gl w0) (p_s : Str) {r : Bool} (h : ref01_Token p_s = some r) :
    Con Tryz.prog 99 [(str p_s)] w0 H0 (fun H' v => v = (boo r)) := by
  refine Con.mk (N := 17) Tryz.func99 rfl rfl (by kernel_rfl) rfl ?_
  have S := St.start hw
  refine WP.seq ?_
  refine WP.region ?_
  refine WL.valw (R.as (v := (boo false)) rfl) ?_
  refine WL.nil ?_
  refine WP.seq ?_
  refine WP.seq ?_
  refine WP.region ?_
  refine WL.valw (R.as (v := (int 0)) rfl) ?_
  refine WL.nil ?_
  obtain ⟨r10, hr11, h⟩ := bindE h
  refine WP.cut (fun f w => match r10 with | .inl _ => ∃ (H5 : Hp), f 0 = (str p_s) ∧ St w0 H0 w H5 [] | .inr _ => False) ?_ ?_
  · refine WP.block ?_
    refine WP.loopM (ref01_Token_L0 p_s) (fun s f w => match s with | i_3 => ∃ (H1 : Hp), f 0 = (str p_s) ∧ f 3 = (int i_3) ∧ St w0 H0 w H1 []) 0 r10 hr11 ?_ ?_
    · exact ⟨H0, rfl, rfl, S⟩
    · intro i_3 f w hI y7 hy8 hy9
      obtain ⟨H1, h2, h4, S⟩ := hI
      refine WP.seq ?_
      refine WP.seq ?_
      refine WP.region ?_
      refine WL.valw (R.mv (v := (int i_3)) h4) ?_
      refine WL.valw (R.mv (v := (str p_s)) h2) ?_
      refine WL.valw (R.lenS (a := p_s) rfl Tryz.underlying9) ?_
      refine WL.valw (R.lss rfl rfl) ?_
      refine WL.nil ?_
      rcases condE hy8 with ⟨hc12, hy8⟩ | ⟨hc12, hy8⟩
      · refine WP.condT rfl hc12 ?_
        refine WP.skip ?_
        refine WP.seq ?_
        refine WP.block ?_
        refine WP.seq ?_
        refine WP.region ?_
        refine WL.valw (R.mv (v := (str p_s)) h2) ?_
        refine WL.valw (R.mv (v := (int i_3)) h4) ?_
        obtain ⟨c13, hc13, hy8⟩ := bindE hy8
        refine WL.valw (R.idxS rfl rfl Tryz.underlying9 hc13) ?_
        obtain ⟨r14, hr14, hy8⟩ := bindE hy8
        refine W.call S rfl (ref01_TokenByte_ok S.holds (hG.post S.post) c13 hr14) ?_
        rintro v15 w16 H17 hle18 S rfl
        refine WL.valw (R.not rfl) ?_
        refine WL.nil ?_
        rcases condE hy8 with ⟨hc19, hy8⟩ | ⟨hc19, hy8⟩
        · refine WP.condT rfl hc19 ?_
          refine WP.seq ?_
          refine WP.region ?_
          refine WL.valw (R.as (v := (boo false)) rfl) ?_
          refine WL.nil ?_
          obtain rfl := Option.some.inj hy8
          obtain rfl := hy9
          obtain rfl := Option.some.inj h
          refine WP.ret (Out.one rfl S rfl ?_)
          exact rfl
        · refine WP.condF rfl hc19 ?_
          refine WP.skip ?_
          refine WP.region ?_
          refine WL.valw (R.mv (v := (int i_3)) h4) ?_
          refine WL.valw (R.add rfl rfl) ?_
          refine WL.valw (R.as (v := (int (wr (i_3 + 1)))) rfl) ?_
          refine WL.nil ?_
          obtain rfl := Option.some.inj hy8
          exact ⟨rfl, ⟨H17, h2, rfl, S⟩⟩
      · refine WP.condF rfl hc12 ?_
        refine WP.exit ?_
        obtain rfl := Option.some.inj hy8
        obtain rfl := hy9
        exact ⟨H1, h2, S⟩
  · intro f w hM
    rcases r10 with _ | e
    · obtain ⟨H5, h6, S⟩ := hM
      refine WP.seq ?_
      refine WP.region ?_
      refine WL.valw (R.mv (v := (str p_s)) h6) ?_
      refine WL.valw (R.neqS (a := p_s) (b := []) rfl rfl) ?_
      refine WL.valw (R.as (v := (boo (p_s != []))) rfl) ?_
      refine WL.nil ?_
      obtain rfl := Option.some.inj h
      refine WP.ret (Out.one rfl S rfl ?_)
      exact rfl
    · exact hM.elim
set_option maxRecDepth 10000 in
set_option maxHeartbeats 4000000 in
theorem ref01_blank_ok {w0 : World} {H0 : Hp} (hw : Holds w0 H0) (hG : Tryz.Gl w0) (p_c : UInt8) {r : Bool} (h : ref01_blank p_c = some r) :
    Con Tryz.prog 165 [(byt p_c)] w0 H0 (fun H' v => v = (boo r)) := by
  refine Con.mk (N := 9) Tryz.func165 rfl rfl (by kernel_rfl) rfl ?_
  have S := St.start hw
  refine WP.seq ?_
  refine WP.region ?_
  refine WL.valw (R.as (v := (boo false)) rfl) ?_
  refine WL.nil ?_
  refine WP.seq ?_
  refine WP.region ?_
  refine WL.valw (R.mv (v := (byt p_c)) rfl) ?_
  refine WL.valw (R.eql8 (a := p_c) (b := 32) rfl rfl) ?_
  refine WL.valw (R.mv (v := (boo (p_c == 32))) rfl) ?_
  refine WL.grp 3 [6, 7] 8 (boo ((p_c == 32) || (p_c == 9))) ?_ ?_
  · rcases boolE (p_c == 32) with hb1 | hb1
    · refine WL.gno rfl rfl hb1 ?_
      refine WL.gno rfl rfl hb1 ?_
      refine WL.valw (R.pickT rfl hb1 rfl) ?_
      exact WL.nil ⟨(orT hb1), (by repeat (first | refine agree_upd rfl ?_ | refine agree_upds' rfl ?_ | exact agree_refl)), rfl⟩
    · refine WL.gyes rfl rfl hb1 ?_
      refine WL.valw (R.mv (v := (byt p_c)) rfl) ?_
      refine WL.gyes rfl rfl hb1 ?_
      refine WL.valw (R.eql8 (a := p_c) (b := 9) rfl rfl) ?_
      refine WL.valw (R.pickF rfl hb1 rfl) ?_
      exact WL.nil ⟨(orF hb1), (by repeat (first | refine agree_upd rfl ?_ | refine agree_upds' rfl ?_ | exact agree_refl)), rfl⟩
  · intro us
    refine WL.valw (R.as (v := (boo ((p_c == 32) || (p_c == 9)))) rfl) ?_
    refine WL.nil ?_
    obtain rfl := Option.some.inj h
    refine WP.ret (Out.one rfl S rfl ?_)
    exact rfl
set_option maxRecDepth 10000 in
set_option maxHeartbeats 4000000 in
theorem ref01_Trim_ok {w0 : World} {H0 : Hp} (hw : Holds w0 H0) (hG : Tryz.Gl w0) (p_s : Str) {r : Str} (h : ref01_Trim p_s = some r) :
    Con Tryz.prog 122 [(str p_s)] w0 H0 (fun H' v => v = (str r)) := by
  refine Con.mk (N := 30) Tryz.func122 rfl rfl (by kernel_rfl) rfl ?_
  have S := St.start hw
  refine WP.seq ?_
  refine WP.region ?_
  refine WL.valw (R.as (v := (str [])) rfl) ?_
  refine WL.nil ?_
  refine WP.seq ?_
  obtain ⟨s_5, hr11, h⟩ := bindE h
  refine WP.cut (fun f w => ∃ (H4 : Hp), f 0 = (str s_5) ∧ St w0 H0 w H4 []) ?_ ?_
  · refine WP.block ?_
    refine WP.loopM (ref01_Trim_L0) (fun s f w => match s with | s_2 => ∃ (H1 : Hp), f 0 = (str s_2) ∧ St w0 H0 w H1 []) p_s s_5 hr11 ?_ ?_
    · exact ⟨H0, rfl, S⟩
    · intro s_2 f w hI y7 hy8 hy9
      obtain ⟨H1, h3, S⟩ := hI
      refine WP.seq ?_
      refine WP.seq ?_
      refine WP.region ?_
      refine WL.valw (R.mv (v := (str s_2)) h3) ?_
      refine WL.valw (R.lenS (a := s_2) rfl Tryz.underlying9) ?_
      refine WL.valw (R.gtr rfl rfl) ?_
      refine WL.valw (R.mv (v := (boo (decide (0 < (s_2.length : Int))))) rfl) ?_
      obtain ⟨b20, hg13, hy8⟩ := bindE hy8
      refine WL.grpw 4 [7, 8, 9] 10 (boo b20) (fun w => ∃ H' : Hp, H1.le H' ∧ St w0 H0 w H' []) ?_ ?_
      · rcases boolE (decide (0 < (s_2.length : Int))) with hb12 | hb12
        · replace hg13 := condT hg13 hb12
          refine WL.gyes rfl rfl hb12 ?_
          refine WL.valw (R.mv (v := (str s_2)) h3) ?_
          refine WL.gyes rfl rfl hb12 ?_
          obtain ⟨c14, hc14, hg13⟩ := bindE hg13
          refine WL.valw (R.idxS rfl rfl Tryz.underlying9 hc14) ?_
          refine WL.gyes rfl rfl hb12 ?_
          obtain ⟨r15, hr15, hg13⟩ := bindE hg13
          refine W.call S rfl (ref01_blank_ok S.holds (hG.post S.post) c14 hr15) ?_
          rintro v16 w17 H18 hle19 S rfl
          refine WL.valw (R.pickT rfl hb12 rfl) ?_
          exact WL.nil ⟨(congrArg boo (Option.some.inj hg13)), (by repeat (first | refine agree_upd rfl ?_ | refine agree_upds' rfl ?_ | exact agree_refl)), ⟨H18, hle19, S⟩⟩
        · replace hg13 := condF hg13 hb12
          refine WL.gno rfl rfl hb12 ?_
          refine WL.gno rfl rfl hb12 ?_
          refine WL.gno rfl rfl hb12 ?_
          refine WL.valw (R.pickF rfl hb12 rfl) ?_
          exact WL.nil ⟨(congrArg boo (Option.some.inj hg13)), (by repeat (first | refine agree_upd rfl ?_ | refine agree_upds' rfl ?_ | exact agree_refl)), ⟨H1, (Hp.le.refl _), S⟩⟩
      · intro us w22 ⟨H21, hle23, S⟩
        refine WL.nil ?_
        rcases condE hy8 with ⟨hc24, hy8⟩ | ⟨hc24, hy8⟩
        · refine WP.condT rfl hc24 ?_
          refine WP.skip ?_
          refine WP.block ?_
          refine WP.region ?_
          refine WL.valw (R.mv (v := (str s_2)) h3) ?_
          obtain ⟨s25, hs25, hy8⟩ := bindE hy8
          refine WL.valw (R.subSlo rfl rfl Tryz.underlying9 hs25) ?_
          refine WL.valw (R.as (v := (str s25)) rfl) ?_
          refine WL.nil ?_
          obtain rfl := Option.some.inj hy8
          exact ⟨rfl, ⟨H21, rfl, S⟩⟩
        · refine WP.condF rfl hc24 ?_
          refine WP.exit ?_
          obtain rfl := Option.some.inj hy8
          obtain rfl := hy9
          exact ⟨H21, h3, S⟩
  · rintro f w ⟨H4, h6, S⟩
    refine WP.seq ?_
    obtain ⟨s_30, hr36, h⟩ := bindE h
    refine WP.cut (fun f w => ∃ (H29 : Hp), f 0 = (str s_30) ∧ St w0 H0 w H29 []) ?_ ?_
    · refine WP.block ?_
      refine WP.loopM (ref01_Trim_L1) (fun s f w => match s with | s_27 => ∃ (H26 : Hp), f 0 = (str s_27) ∧ St w0 H0 w H26 []) s_5 s_30 hr36 ?_ ?_
      · exact ⟨H4, h6, S⟩
      · intro s_27 f w hI y32 hy33 hy34
        obtain ⟨H26, h28, S⟩ := hI
        refine WP.seq ?_
        refine WP.seq ?_
        refine WP.region ?_
        refine WL.valw (R.mv (v := (str s_27)) h28) ?_
        refine WL.valw (R.lenS (a := s_27) rfl Tryz.underlying9) ?_
        refine WL.valw (R.gtr rfl rfl) ?_
        refine WL.valw (R.mv (v := (boo (decide (0 < (s_27.length : Int))))) rfl) ?_
        obtain ⟨b45, hg38, hy33⟩ := bindE hy33
        refine WL.grpw 7 [17, 18, 19, 20, 21, 22] 23 (boo b45) (fun w => ∃ H' : Hp, H26.le H' ∧ St w0 H0 w H' []) ?_ ?_
        · rcases boolE (decide (0 < (s_27.length : Int))) with hb37 | hb37
          · replace hg38 := condT hg38 hb37
            refine WL.gyes rfl rfl hb37 ?_
            refine WL.valw (R.mv (v := (str s_27)) h28) ?_
            refine WL.gyes rfl rfl hb37 ?_
            refine WL.valw (R.mv (v := (str s_27)) h28) ?_
            refine WL.gyes rfl rfl hb37 ?_
            refine WL.valw (R.lenS (a := s_27) rfl Tryz.underlying9) ?_
            refine WL.gyes rfl rfl hb37 ?_
            refine WL.valw (R.sub rfl rfl) ?_
            refine WL.gyes rfl rfl hb37 ?_
            obtain ⟨c39, hc39, hg38⟩ := bindE hg38
            refine WL.valw (R.idxS rfl rfl Tryz.underlying9 hc39) ?_
            refine WL.gyes rfl rfl hb37 ?_
            obtain ⟨r40, hr40, hg38⟩ := bindE hg38
            refine W.call S rfl (ref01_blank_ok S.holds (hG.post S.post) c39 hr40) ?_
            rintro v41 w42 H43 hle44 S rfl
            refine WL.valw (R.pickT rfl hb37 rfl) ?_
            exact WL.nil ⟨(congrArg boo (Option.some.inj hg38)), (by repeat (first | refine agree_upd rfl ?_ | refine agree_upds' rfl ?_ | exact agree_refl)), ⟨H43, hle44, S⟩⟩
          · replace hg38 := condF hg38 hb37
            refine WL.gno rfl rfl hb37 ?_
            refine WL.gno rfl rfl hb37 ?_
            refine WL.gno rfl rfl hb37 ?_
            refine WL.gno rfl rfl hb37 ?_
            refine WL.gno rfl rfl hb37 ?_
            refine WL.gno rfl rfl hb37 ?_
            refine WL.valw (R.pickF rfl hb37 rfl) ?_
            exact WL.nil ⟨(congrArg boo (Option.some.inj hg38)), (by repeat (first | refine agree_upd rfl ?_ | refine agree_upds' rfl ?_ | exact agree_refl)), ⟨H26, (Hp.le.refl _), S⟩⟩
        · intro us w47 ⟨H46, hle48, S⟩
          refine WL.nil ?_
          rcases condE hy33 with ⟨hc49, hy33⟩ | ⟨hc49, hy33⟩
          · refine WP.condT rfl hc49 ?_
            refine WP.skip ?_
            refine WP.block ?_
            refine WP.region ?_
            refine WL.valw (R.mv (v := (str s_27)) h28) ?_
            refine WL.valw (R.mv (v := (str s_27)) h28) ?_
            refine WL.valw (R.lenS (a := s_27) rfl Tryz.underlying9) ?_
            refine WL.valw (R.sub rfl rfl) ?_
            obtain ⟨s50, hs50, hy33⟩ := bindE hy33
            refine WL.valw (R.subShi rfl rfl Tryz.underlying9 hs50) ?_
            refine WL.valw (R.as (v := (str s50)) rfl) ?_
            refine WL.nil ?_
            obtain rfl := Option.some.inj hy33
            exact ⟨rfl, ⟨H46, rfl, S⟩⟩
          · refine WP.condF rfl hc49 ?_
            refine WP.exit ?_
            obtain rfl := Option.some.inj hy33
            obtain rfl := hy34
            exact ⟨H46, h28, S⟩
    · rintro f w ⟨H29, h31, S⟩
      refine WP.seq ?_
      refine WP.region ?_
      refine WL.valw (R.mv (v := (str s_30)) h31) ?_
      refine WL.valw (R.as (v := (str s_30)) rfl) ?_
      refine WL.nil ?_
      obtain rfl := Option.some.inj h
      refine WP.ret (Out.one rfl S rfl ?_)
      exact rfl
set_option maxRecDepth 10000 in
set_option maxHeartbeats 4000000 in
theorem ref01_form_ok {w0 : World} {H0 : Hp} (hw : Holds w0 H0) (hG : Tryz.Gl w0) (p_f : GField) {r : Str} (h : ref01_form p_f = some r) :
    Con Tryz.prog 72 [(agg [(str p_f.fName), (str p_f.fValue)])] w0 H0 (fun H' v => v = (str r)) := by
  refine Con.mk (N := 15) Tryz.func72 rfl rfl (by kernel_rfl) rfl ?_
  have S := St.start hw
  refine WP.seq ?_
  refine WP.region ?_
  refine W.box [(str p_f.fName), (str p_f.fValue)] S rfl rfl ?_
  intro b1 w2 S
  refine WL.valw (R.as (v := (str [])) rfl) ?_
  refine WL.nil ?_
  refine WP.seq ?_
  refine WP.seq ?_
  refine WP.region ?_
  refine WL.valw (R.fieldB rfl fld53_1) ?_
  refine WL.valw (R.loadB (i := 0) (v := (str p_f.fValue)) S rfl rfl lay9 rfl) ?_
  refine WL.valw (R.eqlS (a := p_f.fValue) (b := []) rfl rfl) ?_
  refine WL.nil ?_
  rcases condE h with ⟨hc3, h⟩ | ⟨hc3, h⟩
  · refine WP.condT rfl hc3 ?_
    refine WP.seq ?_
    refine WP.region ?_
    refine WL.valw (R.fieldB rfl fld53_0) ?_
    refine WL.valw (R.loadB (i := 0) (v := (str p_f.fName)) S rfl rfl lay9 rfl) ?_
    obtain ⟨s4, hs4, h⟩ := bindE h
    refine WL.valw (R.cat (a := p_f.fName) (b := [58]) rfl rfl hs4) ?_
    refine WL.valw (R.as (v := (str s4)) rfl) ?_
    refine WL.nil ?_
    obtain rfl := Option.some.inj h
    refine WP.ret (Out.one rfl S rfl ?_)
    exact rfl
  · refine WP.condF rfl hc3 ?_
    refine WP.skip ?_
    refine WP.seq ?_
    refine WP.region ?_
    refine WL.valw (R.fieldB rfl fld53_0) ?_
    refine WL.valw (R.loadB (i := 0) (v := (str p_f.fName)) S rfl rfl lay9 rfl) ?_
    obtain ⟨s5, hs5, h⟩ := bindE h
    refine WL.valw (R.cat (a := p_f.fName) (b := [58, 32]) rfl rfl hs5) ?_
    refine WL.valw (R.fieldB rfl fld53_1) ?_
    refine WL.valw (R.loadB (i := 0) (v := (str p_f.fValue)) S rfl rfl lay9 rfl) ?_
    obtain ⟨s6, hs6, h⟩ := bindE h
    refine WL.valw (R.cat (a := s5) (b := p_f.fValue) rfl rfl hs6) ?_
    refine WL.valw (R.as (v := (str s6)) rfl) ?_
    refine WL.nil ?_
    obtain rfl := Option.some.inj h
    refine WP.ret (Out.one rfl S rfl ?_)
    exact rfl
set_option maxRecDepth 10000 in
set_option maxHeartbeats 4000000 in
theorem ref01_ValidField_ok {w0 : World} {H0 : Hp} (hw : Holds w0 H0) (hG : Tryz.Gl w0) (p_f : GField) {r : Bool} (h : ref01_ValidField p_f = some r) :
    Con Tryz.prog 71 [(agg [(str p_f.fName), (str p_f.fValue)])] w0 H0 (fun H' v => v = (boo r)) := by
  refine Con.mk (N := 25) Tryz.func71 rfl rfl (by kernel_rfl) rfl ?_
  have S := St.start hw
  refine WP.seq ?_
  refine WP.region ?_
  refine W.box [(str p_f.fName), (str p_f.fValue)] S rfl rfl ?_
  intro b1 w2 S
  refine WL.valw (R.as (v := (boo false)) rfl) ?_
  refine WL.nil ?_
  refine WP.seq ?_
  refine WP.quiet S (by kernel_rfl) (by kernel_rfl) ?_
  refine WQ.val (fun _ _ => (R.fieldB rfl fld53_0)) ?_
  refine WQ.val (fun w hw => by obtain ⟨_, hq, S⟩ := hw; exact (R.loadB (i := 0) (v := (str p_f.fName)) S rfl rfl lay9 rfl)) ?_
  obtain ⟨r6, hr6, h⟩ := bindE h
  refine WQ.call (v := (boo r6)) rfl (fun w H' hq S => ref01_Token_ok S.holds (hG.post S.post) p_f.fName hr6) ?_
  refine WQ.val (fun _ _ => (R.mv (v := (boo r6)) rfl)) ?_
  obtain ⟨b18, hg12, h⟩ := bindE h
  refine WQ.grp 4 [7, 8, 9] 10 (boo b18) ?_ ?_
  · rcases boolE r6 with hb11 | hb11
    · replace hg12 := condT hg12 hb11
      refine WQ.gyes rfl rfl hb11 ?_
      refine WQ.val (fun _ _ => (R.fieldB rfl fld53_1)) ?_
      refine WQ.gyes rfl rfl hb11 ?_
      refine WQ.val (fun w hw => by obtain ⟨_, hq, S⟩ := hw; exact (R.loadB (i := 0) (v := (str p_f.fValue)) S rfl rfl lay9 rfl)) ?_
      refine WQ.gyes rfl rfl hb11 ?_
      obtain ⟨r13, hr13, hg12⟩ := bindE hg12
      refine WQ.call (v := (boo r13)) rfl (fun w H' hq S => ref01_Text_ok S.holds (hG.post S.post) p_f.fValue hr13) ?_
      refine WQ.val (fun _ _ => (R.pickT rfl hb11 rfl)) ?_
      exact WQ.nil ⟨(congrArg boo (Option.some.inj hg12)), (by repeat (first | refine agree_upd rfl ?_ | refine agree_upds' rfl ?_ | exact agree_refl))⟩
    · replace hg12 := condF hg12 hb11
      refine WQ.gno rfl rfl hb11 ?_
      refine WQ.gno rfl rfl hb11 ?_
      refine WQ.gno rfl rfl hb11 ?_
      refine WQ.val (fun _ _ => (R.pickF rfl hb11 rfl)) ?_
      exact WQ.nil ⟨(congrArg boo (Option.some.inj hg12)), (by repeat (first | refine agree_upd rfl ?_ | refine agree_upds' rfl ?_ | exact agree_refl))⟩
  · intro us
    refine WQ.val (fun _ _ => (R.mv (v := (boo b18)) rfl)) ?_
    obtain ⟨b26, hg20, h⟩ := bindE h
    refine WQ.grp 7 [12, 13, 14, 15, 16, 17] 18 (boo b26) ?_ ?_
    · rcases boolE b18 with hb19 | hb19
      · replace hg20 := condT hg20 hb19
        refine WQ.gyes rfl rfl hb19 ?_
        refine WQ.val (fun _ _ => (R.fieldB rfl fld53_1)) ?_
        refine WQ.gyes rfl rfl hb19 ?_
        refine WQ.val (fun w hw => by obtain ⟨_, hq, S⟩ := hw; exact (R.loadB (i := 0) (v := (str p_f.fValue)) S rfl rfl lay9 rfl)) ?_
        refine WQ.gyes rfl rfl hb19 ?_
        obtain ⟨r21, hr21, hg20⟩ := bindE hg20
        refine WQ.call (v := (str r21)) rfl (fun w H' hq S => ref01_Trim_ok S.holds (hG.post S.post) p_f.fValue hr21) ?_
        refine WQ.gyes rfl rfl hb19 ?_
        refine WQ.val (fun _ _ => (R.fieldB rfl fld53_1)) ?_
        refine WQ.gyes rfl rfl hb19 ?_
        refine WQ.val (fun w hw => by obtain ⟨_, hq, S⟩ := hw; exact (R.loadB (i := 0) (v := (str p_f.fValue)) S rfl rfl lay9 rfl)) ?_
        refine WQ.gyes rfl rfl hb19 ?_
        refine WQ.val (fun _ _ => (R.eqlS (a := r21) (b := p_f.fValue) rfl rfl)) ?_
        refine WQ.val (fun _ _ => (R.pickT rfl hb19 rfl)) ?_
        exact WQ.nil ⟨(congrArg boo (Option.some.inj hg20)), (by repeat (first | refine agree_upd rfl ?_ | refine agree_upds' rfl ?_ | exact agree_refl))⟩
      · replace hg20 := condF hg20 hb19
        refine WQ.gno rfl rfl hb19 ?_
        refine WQ.gno rfl rfl hb19 ?_
        refine WQ.gno rfl rfl hb19 ?_
        refine WQ.gno rfl rfl hb19 ?_
        refine WQ.gno rfl rfl hb19 ?_
        refine WQ.gno rfl rfl hb19 ?_
        refine WQ.val (fun _ _ => (R.pickF rfl hb19 rfl)) ?_
        exact WQ.nil ⟨(congrArg boo (Option.some.inj hg20)), (by repeat (first | refine agree_upd rfl ?_ | refine agree_upds' rfl ?_ | exact agree_refl))⟩
    · intro us
      refine WQ.val (fun _ _ => (R.mv (v := (boo b26)) rfl)) ?_
      obtain ⟨b34, hg28, h⟩ := bindE h
      refine WQ.grp 5 [20, 21, 22, 23] 24 (boo b34) ?_ ?_
      · rcases boolE b26 with hb27 | hb27
        · replace hg28 := condT hg28 hb27
          refine WQ.gyes rfl rfl hb27 ?_
          refine WQ.val (fun w hw => by obtain ⟨_, hq, S⟩ := hw; exact (R.loadBN (i := 0) (vs := [(str p_f.fName), (str p_f.fValue)]) S rfl rfl lay53 rfl rfl)) ?_
          refine WQ.gyes rfl rfl hb27 ?_
          obtain ⟨r29, hr29, hg28⟩ := bindE hg28
          refine WQ.call (v := (str r29)) rfl (fun w H' hq S => ref01_form_ok S.holds (hG.post S.post) p_f hr29) ?_
          refine WQ.gyes rfl rfl hb27 ?_
          refine WQ.val (fun _ _ => (R.lenS (a := r29) rfl Tryz.underlying9)) ?_
          refine WQ.gyes rfl rfl hb27 ?_
          refine WQ.val (fun _ _ => (R.leq rfl rfl)) ?_
          refine WQ.val (fun _ _ => (R.pickT rfl hb27 rfl)) ?_
          exact WQ.nil ⟨(congrArg boo (Option.some.inj hg28)), (by repeat (first | refine agree_upd rfl ?_ | refine agree_upds' rfl ?_ | exact agree_refl))⟩
        · replace hg28 := condF hg28 hb27
          refine WQ.gno rfl rfl hb27 ?_
          refine WQ.gno rfl rfl hb27 ?_
          refine WQ.gno rfl rfl hb27 ?_
          refine WQ.gno rfl rfl hb27 ?_
          refine WQ.val (fun _ _ => (R.pickF rfl hb27 rfl)) ?_
          exact WQ.nil ⟨(congrArg boo (Option.some.inj hg28)), (by repeat (first | refine agree_upd rfl ?_ | refine agree_upds' rfl ?_ | exact agree_refl))⟩
      · intro us
        refine WQ.val (fun _ _ => (R.as (v := (boo b34)) rfl)) ?_
        refine WQ.nil ?_
        intro w3 H4 hle5 S
        obtain rfl := Option.some.inj h
        refine WP.ret (Out.one rfl S rfl ?_)
        exact rfl
end Go.Proofs
