/- A part of the proof of laws of the seat: written by program over the translation. -/
import Derived.Test.YtmeemcjmhbgbdaaGreatDoorGenF2
namespace Go.Proofs
open Go.Eng Go.Eng.Pure
set_option linter.unusedVariables false
set_option maxRecDepth 10000 in
set_option maxHeartbeats 4000000 in
theorem cachecontrol_Response_ok {w0 : World} {H0 : Hp} (hw : Holds w0 H0) (p_ppend : (List GField)) {vp_ppend : Value} (Rp_ppend : Sl (α := GField) H0 vp_ppend p_ppend) {r : GControl} (h : cachecontrol_Response p_ppend = some r) :
    Con Tryz.prog 17 [vp_ppend] w0 H0 (fun H' v => v = (agg [(boo r.fNoStore), (boo r.fNoCache), (boo r.fMustRevalidate), (boo r.fProxyRevalidate), (boo r.fPrivate), (boo r.fPublic), (boo r.fOnlyIfCached), (int r.fMaxAge), (int r.fSMaxAge), (int r.fMinFresh), (int r.fMaxStale)])) := by
  refine Con.mk (N := 141) Tryz.func17 rfl rfl (by kernel_rfl) rfl ?_
  have S := St.start hw
  refine WP.seq ?_
  refine WP.region ?_
  refine W.alloc [(boo false), (boo false), (boo false), (boo false), (boo false), (boo false), (boo false), (int 0), (int 0), (int 0), (int 0)] S zer36 ?_
  intro b1 w2 S
  refine WL.nil ?_
  refine WP.seq ?_
  refine WP.region ?_
  refine WL.valw (R.mv (v := vp_ppend) rfl) ?_
  obtain ⟨r3, hr3, h⟩ := bindE h
  refine W.call S rfl (list_All_ok S.holds p_ppend [67, 97, 99, 104, 101, 45, 67, 111, 110, 116, 114, 111, 108] Rp_ppend hr3) ?_
  rintro v4 w5 H6 hle7 S R8
  have Rp_ppend := Sl.mono Rp_ppend hle7
  refine WL.valw (R.as (v := v4) rfl) ?_
  refine WL.nil ?_
  refine WP.seq ?_
  refine WP.region ?_
  refine W.makeMap S ?_
  intro b9 w10 S
  refine WL.valw (R.as (v := (mapv b9)) rfl) ?_
  refine WL.nil ?_
  refine WP.seq ?_
  refine WP.seq ?_
  refine WP.region ?_
  refine WL.valw (R.mv (v := v4) rfl) ?_
  refine WL.valw (R.lenL (α := Str) (xs := r3) (H := H6) R8 rfl Tryz.underlying38) ?_
  refine WL.valw (R.mv (v := (int 0)) rfl) ?_
  refine WL.nil ?_
  obtain ⟨m24, hr29, h⟩ := bindE h
  refine WP.cut (fun f w => ∃ (H20 : Hp), f 2 = (ptr b1 0) ∧ f 3 = v4 ∧ f 4 = (mapv b9) ∧ Sl (α := Str) H20 v4 r3 ∧ St w0 H0 w H20 [.mp b9 (encm (fun x : Gcachecontrol_directive => (agg [(int x.fform), (str x.fvalue)])) m24), .box b1 36 [(boo false), (boo false), (boo false), (boo false), (boo false), (boo false), (boo false), (int 0), (int 0), (int 0), (int 0)]]) ?_ ?_
  · refine WP.block ?_
    refine WP.loopM (cachecontrol_Response_L0 r3) (fun s f w => match s with | (y_17, m19) => ∃ (H11 : Hp), f 2 = (ptr b1 0) ∧ f 3 = v4 ∧ f 4 = (mapv b9) ∧ f 33 = v4 ∧ f 34 = (int (r3.length : Int)) ∧ f 35 = (int y_17) ∧ Sl (α := Str) H11 v4 r3 ∧ St w0 H0 w H11 [.mp b9 (encm (fun x : Gcachecontrol_directive => (agg [(int x.fform), (str x.fvalue)])) m19), .box b1 36 [(boo false), (boo false), (boo false), (boo false), (boo false), (boo false), (boo false), (int 0), (int 0), (int 0), (int 0)]]) (0, ([] : List (Str × Gcachecontrol_directive))) m24 hr29 ?_ ?_
    · exact ⟨H6, rfl, rfl, rfl, rfl, rfl, rfl, R8, S⟩
    · intro s f w hI y25 hy26 hy27
      obtain ⟨y_17, m19⟩ := s
      obtain ⟨H11, h12, h13, h14, h15, h16, h18, R8, S⟩ := hI
      refine WP.seq ?_
      refine WP.region ?_
      refine WL.valw (R.lss h18 h16) ?_
      refine WL.nil ?_
      refine WP.seq ?_
      rcases condE hy26 with ⟨hc30, hy26⟩ | ⟨hc30, hy26⟩
      · refine WP.condT rfl hc30 ?_
        refine WP.skip ?_
        refine WP.seq ?_
        refine WP.block ?_
        refine WP.seq ?_
        refine WP.region ?_
        obtain ⟨x31, hx31, hy26⟩ := bindE hy26
        refine W.idx (α := Str) R8 h15 h18 el38 hx31 ?_
        rintro a32 _ hA33 rfl
        refine WL.valw (R.loadH (v := (str x31)) S rfl hA33 lay9 rfl) ?_
        refine WL.valw (R.as (v := (str x31)) rfl) ?_
        refine WL.nil ?_
        refine WP.seq ?_
        refine WP.region ?_
        refine WL.valw (R.mv (v := (str x31)) rfl) ?_
        obtain ⟨r34, hr34, hy26⟩ := bindE hy26
        refine W.call S rfl (cachecontrol_read_ok S.holds x31 hr34) ?_
        rintro v35 w36 H37 hle38 S rfl
        have R8 := Sl.mono R8 hle38
        have hA33 := At.mono hA33 hle38 (by simp)
        refine WL.valw (R.mv (v := (.tuple ⟨[(str r34.1), (agg [(int r34.2.fform), (str r34.2.fvalue)])]⟩)) rfl) ?_
        refine WL.valw (R.ext rfl rfl) ?_
        refine WL.valw (R.ext rfl rfl) ?_
        refine W.alloc [(int 0), (str [])] S zer55 ?_
        intro b39 w40 S
        refine WL.valw (R.as (v := (str r34.1)) rfl) ?_
        refine W.store (i := 0) [(int r34.2.fform), (str r34.2.fvalue)] S rfl rfl rfl lay55 rfl rfl (Nat.le_of_ble_eq_true rfl) rfl ?_
        intro w41 S
        refine WL.nil ?_
        refine WP.seq ?_
        refine WP.region ?_
        refine WL.valw (R.mv (v := (mapv b9)) h14) ?_
        refine WL.valw (R.mv (v := (str r34.1)) rfl) ?_
        obtain ⟨g42, hg42, hy26⟩ := bindE hy26
        refine WL.valw (v := (.tuple ⟨[(agg [(int g42.1.fform), (str g42.1.fvalue)]), (boo g42.2)]⟩)) (R.ofEq (R.lookup (fun x : Gcachecontrol_directive => (agg [(int x.fform), (str x.fvalue)])) (i := 1) (m := m19) (z := (⟨0, []⟩ : Gcachecontrol_directive)) S rfl rfl rfl Tryz.underlying53 Tryz.underlying9 mz55 rfl) (by rw [Option.some.inj hg42])) ?_
        refine WL.valw (R.mv (v := (.tuple ⟨[(agg [(int g42.1.fform), (str g42.1.fvalue)]), (boo g42.2)]⟩)) rfl) ?_
        refine WL.valw (R.ext rfl rfl) ?_
        refine WL.valw (R.ext rfl rfl) ?_
        refine W.alloc [(int 0), (str [])] S zer55 ?_
        intro b43 w44 S
        refine W.store (i := 0) [(int g42.1.fform), (str g42.1.fvalue)] S rfl rfl rfl lay55 rfl rfl (Nat.le_of_ble_eq_true rfl) rfl ?_
        intro w45 S
        refine WL.valw (R.as (v := (boo g42.2)) rfl) ?_
        refine WL.nil ?_
        refine WP.seq ?_
        refine WP.region ?_
        refine WL.valw (R.mv (v := (boo g42.2)) rfl) ?_
        refine WL.valw (R.not rfl) ?_
        refine WL.valw (R.mv (v := (boo (!g42.2))) rfl) ?_
        refine WL.grp 3 [53, 54] 55 (boo ((!g42.2) && (r34.1 != []))) ?_ ?_
        · rcases boolE (!g42.2) with hb46 | hb46
          · refine WL.gyes rfl rfl hb46 ?_
            refine WL.valw (R.mv (v := (str r34.1)) rfl) ?_
            refine WL.gyes rfl rfl hb46 ?_
            refine WL.valw (R.neqS (a := r34.1) (b := []) rfl rfl) ?_
            refine WL.valw (R.pickT rfl hb46 rfl) ?_
            exact WL.nil ⟨(andT hb46), (by repeat (first | refine agree_upd rfl ?_ | refine agree_upds' rfl ?_ | exact agree_refl)), rfl⟩
          · refine WL.gno rfl rfl hb46 ?_
            refine WL.gno rfl rfl hb46 ?_
            refine WL.valw (R.pickF rfl hb46 rfl) ?_
            exact WL.nil ⟨(andF hb46), (by repeat (first | refine agree_upd rfl ?_ | refine agree_upds' rfl ?_ | exact agree_refl)), rfl⟩
        · intro us
          refine WL.nil ?_
          rcases condE hy26 with ⟨hc48, hy26⟩ | ⟨hc48, hy26⟩
          · refine WP.condT rfl hc48 ?_
            refine WP.region ?_
            refine WL.valw (R.mv (v := (mapv b9)) h14) ?_
            refine WL.valw (R.mv (v := (str r34.1)) rfl) ?_
            refine WL.valw (R.loadBN (i := 1) (vs := [(int r34.2.fform), (str r34.2.fvalue)]) S rfl rfl lay55 rfl rfl) ?_
            refine W.mapUpdate (fun x : Gcachecontrol_directive => (agg [(int x.fform), (str x.fvalue)])) (i := 2) (m := m19) r34.2 S rfl rfl rfl rfl rfl Tryz.underlying53 Tryz.underlying9 ?_
            intro w49 S
            refine WL.nil ?_
            refine WP.region ?_
            refine WL.valw (R.add h18 rfl) ?_
            refine WL.valw (R.mv (v := (int (wr (y_17 + 1)))) rfl) ?_
            refine WL.nil ?_
            obtain rfl := Option.some.inj hy26
            exact ⟨rfl, ⟨H37, h12, h13, h14, h15, h16, rfl, R8, (S.drop _ (.cons _ (.cons _ (.cons_cons _ (.cons_cons _ .slnil)))))⟩⟩
          · refine WP.condF rfl hc48 ?_
            refine WP.skip ?_
            refine WP.region ?_
            refine WL.valw (R.add h18 rfl) ?_
            refine WL.valw (R.mv (v := (int (wr (y_17 + 1)))) rfl) ?_
            refine WL.nil ?_
            obtain rfl := Option.some.inj hy26
            exact ⟨rfl, ⟨H37, h12, h13, h14, h15, h16, rfl, R8, (S.drop _ (.cons _ (.cons _ (.cons_cons _ (.cons_cons _ .slnil)))))⟩⟩
      · refine WP.condF rfl hc30 ?_
        refine WP.exit ?_
        obtain rfl := Option.some.inj hy26
        obtain rfl := hy27
        exact ⟨H11, h12, h13, h14, R8, S⟩
  · rintro f w ⟨H20, h21, h22, h23, R8, S⟩
    refine WP.seq ?_
    refine WP.region ?_
    refine WL.valw (R.mv (v := (mapv b9)) h23) ?_
    obtain ⟨g50, hg50, h⟩ := bindE h
    refine WL.valw (v := (.tuple ⟨[(agg [(int g50.1.fform), (str g50.1.fvalue)]), (boo g50.2)]⟩)) (R.ofEq (R.lookup (fun x : Gcachecontrol_directive => (agg [(int x.fform), (str x.fvalue)])) (i := 0) (m := m24) (z := (⟨0, []⟩ : Gcachecontrol_directive)) S rfl rfl rfl Tryz.underlying53 Tryz.underlying9 mz55 rfl) (by rw [Option.some.inj hg50])) ?_
    refine WL.valw (R.mv (v := (.tuple ⟨[(agg [(int g50.1.fform), (str g50.1.fvalue)]), (boo g50.2)]⟩)) rfl) ?_
    refine WL.valw (R.ext rfl rfl) ?_
    refine WL.valw (R.ext rfl rfl) ?_
    refine W.alloc [(int 0), (str [])] S zer55 ?_
    intro b51 w52 S
    refine W.store (i := 0) [(int g50.1.fform), (str g50.1.fvalue)] S rfl rfl rfl lay55 rfl rfl (Nat.le_of_ble_eq_true rfl) rfl ?_
    intro w53 S
    refine WL.valw (R.as (v := (boo g50.2)) rfl) ?_
    refine WL.nil ?_
    refine WP.seq ?_
    refine WP.region ?_
    refine WL.valw (R.mv (v := (mapv b9)) h23) ?_
    obtain ⟨g54, hg54, h⟩ := bindE h
    refine WL.valw (v := (.tuple ⟨[(agg [(int g54.1.fform), (str g54.1.fvalue)]), (boo g54.2)]⟩)) (R.ofEq (R.lookup (fun x : Gcachecontrol_directive => (agg [(int x.fform), (str x.fvalue)])) (i := 1) (m := m24) (z := (⟨0, []⟩ : Gcachecontrol_directive)) S rfl rfl rfl Tryz.underlying53 Tryz.underlying9 mz55 rfl) (by rw [Option.some.inj hg54])) ?_
    refine WL.valw (R.mv (v := (.tuple ⟨[(agg [(int g54.1.fform), (str g54.1.fvalue)]), (boo g54.2)]⟩)) rfl) ?_
    refine WL.valw (R.ext rfl rfl) ?_
    refine WL.valw (R.ext rfl rfl) ?_
    refine W.alloc [(int 0), (str [])] S zer55 ?_
    intro b55 w56 S
    refine W.store (i := 0) [(int g54.1.fform), (str g54.1.fvalue)] S rfl rfl rfl lay55 rfl rfl (Nat.le_of_ble_eq_true rfl) rfl ?_
    intro w57 S
    refine WL.valw (R.as (v := (boo g54.2)) rfl) ?_
    refine WL.nil ?_
    refine WP.seq ?_
    refine WP.region ?_
    refine WL.valw (R.mv (v := (mapv b9)) h23) ?_
    obtain ⟨g58, hg58, h⟩ := bindE h
    refine WL.valw (v := (.tuple ⟨[(agg [(int g58.1.fform), (str g58.1.fvalue)]), (boo g58.2)]⟩)) (R.ofEq (R.lookup (fun x : Gcachecontrol_directive => (agg [(int x.fform), (str x.fvalue)])) (i := 2) (m := m24) (z := (⟨0, []⟩ : Gcachecontrol_directive)) S rfl rfl rfl Tryz.underlying53 Tryz.underlying9 mz55 rfl) (by rw [Option.some.inj hg58])) ?_
    refine WL.valw (R.mv (v := (.tuple ⟨[(agg [(int g58.1.fform), (str g58.1.fvalue)]), (boo g58.2)]⟩)) rfl) ?_
    refine WL.valw (R.ext rfl rfl) ?_
    refine WL.valw (R.ext rfl rfl) ?_
    refine W.alloc [(int 0), (str [])] S zer55 ?_
    intro b59 w60 S
    refine W.store (i := 0) [(int g58.1.fform), (str g58.1.fvalue)] S rfl rfl rfl lay55 rfl rfl (Nat.le_of_ble_eq_true rfl) rfl ?_
    intro w61 S
    refine WL.valw (R.as (v := (boo g58.2)) rfl) ?_
    refine WL.nil ?_
    refine WP.seq ?_
    refine WP.region ?_
    refine WL.valw (R.mv (v := (mapv b9)) h23) ?_
    obtain ⟨g62, hg62, h⟩ := bindE h
    refine WL.valw (v := (.tuple ⟨[(agg [(int g62.1.fform), (str g62.1.fvalue)]), (boo g62.2)]⟩)) (R.ofEq (R.lookup (fun x : Gcachecontrol_directive => (agg [(int x.fform), (str x.fvalue)])) (i := 3) (m := m24) (z := (⟨0, []⟩ : Gcachecontrol_directive)) S rfl rfl rfl Tryz.underlying53 Tryz.underlying9 mz55 rfl) (by rw [Option.some.inj hg62])) ?_
    refine WL.valw (R.mv (v := (.tuple ⟨[(agg [(int g62.1.fform), (str g62.1.fvalue)]), (boo g62.2)]⟩)) rfl) ?_
    refine WL.valw (R.ext rfl rfl) ?_
    refine WL.valw (R.ext rfl rfl) ?_
    refine W.alloc [(int 0), (str [])] S zer55 ?_
    intro b63 w64 S
    refine W.store (i := 0) [(int g62.1.fform), (str g62.1.fvalue)] S rfl rfl rfl lay55 rfl rfl (Nat.le_of_ble_eq_true rfl) rfl ?_
    intro w65 S
    refine WL.valw (R.as (v := (boo g62.2)) rfl) ?_
    refine WL.nil ?_
    refine WP.seq ?_
    refine WP.region ?_
    refine WL.valw (R.mv (v := (mapv b9)) h23) ?_
    obtain ⟨g66, hg66, h⟩ := bindE h
    refine WL.valw (v := (.tuple ⟨[(agg [(int g66.1.fform), (str g66.1.fvalue)]), (boo g66.2)]⟩)) (R.ofEq (R.lookup (fun x : Gcachecontrol_directive => (agg [(int x.fform), (str x.fvalue)])) (i := 4) (m := m24) (z := (⟨0, []⟩ : Gcachecontrol_directive)) S rfl rfl rfl Tryz.underlying53 Tryz.underlying9 mz55 rfl) (by rw [Option.some.inj hg66])) ?_
    refine WL.valw (R.mv (v := (.tuple ⟨[(agg [(int g66.1.fform), (str g66.1.fvalue)]), (boo g66.2)]⟩)) rfl) ?_
    refine WL.valw (R.ext rfl rfl) ?_
    refine WL.valw (R.ext rfl rfl) ?_
    refine W.alloc [(int 0), (str [])] S zer55 ?_
    intro b67 w68 S
    refine W.store (i := 0) [(int g66.1.fform), (str g66.1.fvalue)] S rfl rfl rfl lay55 rfl rfl (Nat.le_of_ble_eq_true rfl) rfl ?_
    intro w69 S
    refine WL.valw (R.as (v := (boo g66.2)) rfl) ?_
    refine WL.nil ?_
    refine WP.seq ?_
    refine WP.region ?_
    refine WL.valw (R.mv (v := (mapv b9)) h23) ?_
    obtain ⟨g70, hg70, h⟩ := bindE h
    refine WL.valw (v := (.tuple ⟨[(agg [(int g70.1.fform), (str g70.1.fvalue)]), (boo g70.2)]⟩)) (R.ofEq (R.lookup (fun x : Gcachecontrol_directive => (agg [(int x.fform), (str x.fvalue)])) (i := 5) (m := m24) (z := (⟨0, []⟩ : Gcachecontrol_directive)) S rfl rfl rfl Tryz.underlying53 Tryz.underlying9 mz55 rfl) (by rw [Option.some.inj hg70])) ?_
    refine WL.valw (R.mv (v := (.tuple ⟨[(agg [(int g70.1.fform), (str g70.1.fvalue)]), (boo g70.2)]⟩)) rfl) ?_
    refine WL.valw (R.ext rfl rfl) ?_
    refine WL.valw (R.ext rfl rfl) ?_
    refine W.alloc [(int 0), (str [])] S zer55 ?_
    intro b71 w72 S
    refine W.store (i := 0) [(int g70.1.fform), (str g70.1.fvalue)] S rfl rfl rfl lay55 rfl rfl (Nat.le_of_ble_eq_true rfl) rfl ?_
    intro w73 S
    refine WL.valw (R.as (v := (boo g70.2)) rfl) ?_
    refine WL.nil ?_
    refine WP.seq ?_
    refine WP.region ?_
    refine WL.valw (R.mv (v := (mapv b9)) h23) ?_
    obtain ⟨g74, hg74, h⟩ := bindE h
    refine WL.valw (v := (.tuple ⟨[(agg [(int g74.1.fform), (str g74.1.fvalue)]), (boo g74.2)]⟩)) (R.ofEq (R.lookup (fun x : Gcachecontrol_directive => (agg [(int x.fform), (str x.fvalue)])) (i := 6) (m := m24) (z := (⟨0, []⟩ : Gcachecontrol_directive)) S rfl rfl rfl Tryz.underlying53 Tryz.underlying9 mz55 rfl) (by rw [Option.some.inj hg74])) ?_
    refine WL.valw (R.mv (v := (.tuple ⟨[(agg [(int g74.1.fform), (str g74.1.fvalue)]), (boo g74.2)]⟩)) rfl) ?_
    refine WL.valw (R.ext rfl rfl) ?_
    refine WL.valw (R.ext rfl rfl) ?_
    refine W.alloc [(int 0), (str [])] S zer55 ?_
    intro b75 w76 S
    refine W.store (i := 0) [(int g74.1.fform), (str g74.1.fvalue)] S rfl rfl rfl lay55 rfl rfl (Nat.le_of_ble_eq_true rfl) rfl ?_
    intro w77 S
    refine WL.valw (R.as (v := (boo g74.2)) rfl) ?_
    refine WL.nil ?_
    refine WP.seq ?_
    refine WP.region ?_
    refine WL.valw (R.mv (v := (boo g50.2)) rfl) ?_
    refine WL.valw (R.mv (v := (boo g50.2)) rfl) ?_
    refine WL.grp 4 [97, 98, 99] 100 (boo (g50.2 || (decide (64 ≤ (r3.length : Int))))) ?_ ?_
    · rcases boolE g50.2 with hb78 | hb78
      · refine WL.gno rfl rfl hb78 ?_
        refine WL.gno rfl rfl hb78 ?_
        refine WL.gno rfl rfl hb78 ?_
        refine WL.valw (R.pickT rfl hb78 rfl) ?_
        exact WL.nil ⟨(orT hb78), (by repeat (first | refine agree_upd rfl ?_ | refine agree_upds' rfl ?_ | exact agree_refl)), rfl⟩
      · refine WL.gyes rfl rfl hb78 ?_
        refine WL.valw (R.mv (v := v4) h22) ?_
        refine WL.gyes rfl rfl hb78 ?_
        refine WL.valw (R.lenL (α := Str) (xs := r3) (H := H20) R8 rfl Tryz.underlying38) ?_
        refine WL.gyes rfl rfl hb78 ?_
        refine WL.valw (R.geq rfl rfl) ?_
        refine WL.valw (R.pickF rfl hb78 rfl) ?_
        exact WL.nil ⟨(orF hb78), (by repeat (first | refine agree_upd rfl ?_ | refine agree_upds' rfl ?_ | exact agree_refl)), rfl⟩
    · intro us
      refine WL.valw (R.mv (v := (boo g54.2)) rfl) ?_
      refine WL.valw (R.mv (v := (boo g58.2)) rfl) ?_
      refine WL.valw (R.mv (v := (boo g62.2)) rfl) ?_
      refine WL.valw (R.mv (v := (boo g66.2)) rfl) ?_
      refine WL.valw (R.mv (v := (boo g70.2)) rfl) ?_
      refine WL.valw (R.mv (v := (boo g74.2)) rfl) ?_
      refine WL.valw (R.build [(0, (boo (g50.2 || (decide (64 ≤ (r3.length : Int)))))), (1, (boo g54.2)), (2, (boo g58.2)), (3, (boo g62.2)), (4, (boo g66.2)), (5, (boo g70.2)), (6, (boo g74.2)), (7, (int (-1))), (8, (int (-1))), (9, (int (-1))), (10, (int (-1)))] [(boo (g50.2 || (decide (64 ≤ (r3.length : Int))))), (boo g54.2), (boo g58.2), (boo g62.2), (boo g66.2), (boo g70.2), (boo g74.2), (int (-1)), (int (-1)), (int (-1)), (int (-1))] bp36 zer36 (by kernel_rfl) (by kernel_rfl)) ?_
      refine W.alloc [(boo false), (boo false), (boo false), (boo false), (boo false), (boo false), (boo false), (int 0), (int 0), (int 0), (int 0)] S zer36 ?_
      intro b80 w81 S
      refine W.store (i := 0) [(boo (g50.2 || (decide (64 ≤ (r3.length : Int))))), (boo g54.2), (boo g58.2), (boo g62.2), (boo g66.2), (boo g70.2), (boo g74.2), (int (-1)), (int (-1)), (int (-1)), (int (-1))] S rfl rfl rfl lay36 rfl rfl (Nat.le_of_ble_eq_true rfl) rfl ?_
      intro w82 S
      refine WL.nil ?_
      refine WP.seq ?_
      refine WP.seq ?_
      refine WP.region ?_
      refine WL.valw (R.fieldB rfl fld36_7) ?_
      refine WL.valw (R.build [(0, (str [109, 97, 120, 45, 97, 103, 101])), (1, (ptr b80 7)), (2, (int 0)), (3, (int 0))] [(str [109, 97, 120, 45, 97, 103, 101]), (ptr b80 7), (int 0), (int 0)] bp60 zer60 rfl rfl) ?_
      refine WL.valw (R.fieldB rfl fld36_8) ?_
      refine WL.valw (R.build [(0, (str [115, 45, 109, 97, 120, 97, 103, 101])), (1, (ptr b80 8)), (2, (int 0)), (3, (int 0))] [(str [115, 45, 109, 97, 120, 97, 103, 101]), (ptr b80 8), (int 0), (int 0)] bp60 zer60 rfl rfl) ?_
      refine WL.valw (R.fieldB rfl fld36_9) ?_
      refine WL.valw (R.build [(0, (str [109, 105, 110, 45, 102, 114, 101, 115, 104])), (1, (ptr b80 9)), (2, (int 2147483647)), (3, (int 2147483647))] [(str [109, 105, 110, 45, 102, 114, 101, 115, 104]), (ptr b80 9), (int 2147483647), (int 2147483647)] bp60 zer60 rfl rfl) ?_
      refine WL.valw (R.fieldB rfl fld36_10) ?_
      refine WL.valw (R.build [(0, (str [109, 97, 120, 45, 115, 116, 97, 108, 101])), (1, (ptr b80 10)), (2, (int 2147483647)), (3, (int 0))] [(str [109, 97, 120, 45, 115, 116, 97, 108, 101]), (ptr b80 10), (int 2147483647), (int 0)] bp60 zer60 rfl rfl) ?_
      refine W.bslice (α := Raw 4) [(agg [(str [109, 97, 120, 45, 97, 103, 101]), (ptr b80 7), (int 0), (int 0)]), (agg [(str [115, 45, 109, 97, 120, 97, 103, 101]), (ptr b80 8), (int 0), (int 0)]), (agg [(str [109, 105, 110, 45, 102, 114, 101, 115, 104]), (ptr b80 9), (int 2147483647), (int 2147483647)]), (agg [(str [109, 97, 120, 45, 115, 116, 97, 108, 101]), (ptr b80 10), (int 2147483647), (int 0)])] ([⟨[(str [109, 97, 120, 45, 97, 103, 101]), (ptr b80 7), (int 0), (int 0)], rfl, rfl⟩, ⟨[(str [115, 45, 109, 97, 120, 97, 103, 101]), (ptr b80 8), (int 0), (int 0)], rfl, rfl⟩, ⟨[(str [109, 105, 110, 45, 102, 114, 101, 115, 104]), (ptr b80 9), (int 2147483647), (int 2147483647)], rfl, rfl⟩, ⟨[(str [109, 97, 120, 45, 115, 116, 97, 108, 101]), (ptr b80 10), (int 2147483647), (int 0)], rfl, rfl⟩] : List (Raw 4)) S el61 rfl rfl rfl (by decide) (Go.Eng.encS ⟨rfl, rfl⟩ (Go.Eng.encS ⟨rfl, rfl⟩ (Go.Eng.encS ⟨rfl, rfl⟩ (Go.Eng.encS ⟨rfl, rfl⟩ enc0)))) ?_
      intro u83 w84 H85 hle86 R87 S
      have R8 := Sl.mono R8 hle86
      refine WL.valw (v := (int 4)) (R.ofEq (R.lenL (α := Raw 4) (xs := ([⟨[(str [109, 97, 120, 45, 97, 103, 101]), (ptr b80 7), (int 0), (int 0)], rfl, rfl⟩, ⟨[(str [115, 45, 109, 97, 120, 97, 103, 101]), (ptr b80 8), (int 0), (int 0)], rfl, rfl⟩, ⟨[(str [109, 105, 110, 45, 102, 114, 101, 115, 104]), (ptr b80 9), (int 2147483647), (int 2147483647)], rfl, rfl⟩, ⟨[(str [109, 97, 120, 45, 115, 116, 97, 108, 101]), (ptr b80 10), (int 2147483647), (int 0)], rfl, rfl⟩] : List (Raw 4))) (H := H85) R87 rfl Tryz.underlying61) rfl) ?_
      refine WL.valw (R.mv (v := (int 0)) rfl) ?_
      refine WL.nil ?_
      refine WP.block ?_
      refine WP.loopRd 5 ?_
      refine RD.succ ?_
      refine WP.seq ?_
      refine WP.region ?_
      refine WL.valw (v := (boo true)) (R.ofEq (R.lss rfl rfl) rfl) ?_
      refine WL.nil ?_
      refine WP.seq ?_
      refine WP.condT (b := true) rfl rfl ?_
      refine WP.skip ?_
      refine WP.seq ?_
      obtain ⟨m95, hj96, h⟩ := bindE h
      refine WP.cut (fun f w => ∃ (H88 : Hp), f 2 = (ptr b1 0) ∧ f 4 = (mapv b9) ∧ f 25 = (ptr b80 0) ∧ f 116 = u83 ∧ f 117 = (int 4) ∧ f 118 = (int 0) ∧ Sl (α := Raw 4) H88 u83 ([⟨[(str [109, 97, 120, 45, 97, 103, 101]), (ptr b80 7), (int 0), (int 0)], rfl, rfl⟩, ⟨[(str [115, 45, 109, 97, 120, 97, 103, 101]), (ptr b80 8), (int 0), (int 0)], rfl, rfl⟩, ⟨[(str [109, 105, 110, 45, 102, 114, 101, 115, 104]), (ptr b80 9), (int 2147483647), (int 2147483647)], rfl, rfl⟩, ⟨[(str [109, 97, 120, 45, 115, 116, 97, 108, 101]), (ptr b80 10), (int 2147483647), (int 0)], rfl, rfl⟩] : List (Raw 4)) ∧ St w0 H0 w H88 [.row u83 60 4 ([⟨[(str [109, 97, 120, 45, 97, 103, 101]), (ptr b80 7), (int 0), (int 0)], rfl, rfl⟩, ⟨[(str [115, 45, 109, 97, 120, 97, 103, 101]), (ptr b80 8), (int 0), (int 0)], rfl, rfl⟩, ⟨[(str [109, 105, 110, 45, 102, 114, 101, 115, 104]), (ptr b80 9), (int 2147483647), (int 2147483647)], rfl, rfl⟩, ⟨[(str [109, 97, 120, 45, 115, 116, 97, 108, 101]), (ptr b80 10), (int 2147483647), (int 0)], rfl, rfl⟩] : List (Raw 4)).length, .box b80 36 [(boo (g50.2 || (decide (64 ≤ (r3.length : Int))))), (boo g54.2), (boo g58.2), (boo g62.2), (boo g66.2), (boo g70.2), (boo g74.2), (int m95), (int (-1)), (int (-1)), (int (-1))], .mp b9 (encm (fun x : Gcachecontrol_directive => (agg [(int x.fform), (str x.fvalue)])) m24), .box b1 36 [(boo false), (boo false), (boo false), (boo false), (boo false), (boo false), (boo false), (int 0), (int 0), (int 0), (int 0)]]) ?_ ?_
      · refine WP.block ?_
        refine WP.seq ?_
        refine WP.region ?_
        refine W.idx (α := Raw 4) (c := ⟨[(str [109, 97, 120, 45, 97, 103, 101]), (ptr b80 7), (int 0), (int 0)], rfl, rfl⟩) R87 rfl rfl el61 rfl ?_
        rintro a98 _ hA99 rfl
        refine WL.valw (R.loadHN (vs := [(str [109, 97, 120, 45, 97, 103, 101]), (ptr b80 7), (int 0), (int 0)]) S rfl hA99 lay60 rfl rfl) ?_
        refine W.alloc [(str []), (.pointer none), (int 0), (int 0)] S zer60 ?_
        intro b100 w101 S
        refine W.store (i := 0) [(str [109, 97, 120, 45, 97, 103, 101]), (ptr b80 7), (int 0), (int 0)] S rfl rfl rfl lay60 rfl rfl (Nat.le_of_ble_eq_true rfl) rfl ?_
        intro w102 S
        refine WL.nil ?_
        refine WP.seq ?_
        refine WP.region ?_
        refine WL.valw (R.mv (v := (mapv b9)) h23) ?_
        refine WL.valw (R.fieldB rfl fld60_0) ?_
        refine WL.valw (R.loadB (i := 0) (v := (str [109, 97, 120, 45, 97, 103, 101])) S rfl rfl lay9 rfl) ?_
        obtain ⟨g103, hg103, hj96⟩ := bindE hj96
        refine WL.valw (v := (.tuple ⟨[(agg [(int g103.1.fform), (str g103.1.fvalue)]), (boo g103.2)]⟩)) (R.ofEq (R.lookup (fun x : Gcachecontrol_directive => (agg [(int x.fform), (str x.fvalue)])) (i := 10) (m := m24) (z := (⟨0, []⟩ : Gcachecontrol_directive)) S rfl rfl rfl Tryz.underlying53 Tryz.underlying9 mz55 rfl) (by rw [Option.some.inj hg103])) ?_
        refine WL.valw (R.mv (v := (.tuple ⟨[(agg [(int g103.1.fform), (str g103.1.fvalue)]), (boo g103.2)]⟩)) rfl) ?_
        refine WL.valw (R.ext rfl rfl) ?_
        refine WL.valw (R.ext rfl rfl) ?_
        refine W.alloc [(int 0), (str [])] S zer55 ?_
        intro b104 w105 S
        refine W.store (i := 0) [(int g103.1.fform), (str g103.1.fvalue)] S rfl rfl rfl lay55 rfl rfl (Nat.le_of_ble_eq_true rfl) rfl ?_
        intro w106 S
        refine WL.valw (R.as (v := (boo g103.2)) rfl) ?_
        refine WL.nil ?_
        refine WP.seq ?_
        refine WP.region ?_
        refine WL.valw (R.mv (v := (boo g103.2)) rfl) ?_
        refine WL.nil ?_
        rcases condE hj96 with ⟨hc107, hj96⟩ | ⟨hc107, hj96⟩
        · refine WP.condT rfl hc107 ?_
          refine WP.quietTail 9 S (by kernel_rfl) (by kernel_rfl) ?_
          refine WQ.val (fun _ _ => (R.fieldB rfl fld60_1)) ?_
          refine WQ.val (fun w hw => by obtain ⟨_, hq, S⟩ := hw; exact (R.loadB (i := 1) (v := (ptr b80 7)) S rfl rfl lay59 rfl)) ?_
          refine WQ.val (fun w hw => by obtain ⟨_, hq, S⟩ := hw; exact (R.loadBN (i := 0) (vs := [(int g103.1.fform), (str g103.1.fvalue)]) S rfl rfl lay55 rfl rfl)) ?_
          refine WQ.val (fun _ _ => (R.fieldB rfl fld60_2)) ?_
          refine WQ.val (fun w hw => by obtain ⟨_, hq, S⟩ := hw; exact (R.loadB (i := 1) (v := (int 0)) S rfl rfl lay3 rfl)) ?_
          refine WQ.val (fun _ _ => (R.fieldB rfl fld60_3)) ?_
          refine WQ.val (fun w hw => by obtain ⟨_, hq, S⟩ := hw; exact (R.loadB (i := 1) (v := (int 0)) S rfl rfl lay3 rfl)) ?_
          obtain ⟨r111, hr111, hj96⟩ := bindE hj96
          refine WQ.call (v := (int r111)) rfl (fun w H' hq S => cachecontrol_number_ok S.holds g103.1 0 0 hr111) ?_
          refine WQ.val (fun _ _ => (R.nilCheckB rfl)) ?_
          refine WQ.nil ?_
          intro w108 H109 hle110 S
          have R8 := Sl.mono R8 hle110
          have R87 := Sl.mono R87 hle110
          have hA99 := At.mono hA99 hle110 (by simp)
          refine W.store (i := 3) [(boo (g50.2 || (decide (64 ≤ (r3.length : Int))))), (boo g54.2), (boo g58.2), (boo g62.2), (boo g66.2), (boo g70.2), (boo g74.2), (int r111), (int (-1)), (int (-1)), (int (-1))] S rfl rfl rfl lay3 rfl rfl (Nat.le_of_ble_eq_true rfl) rfl ?_
          intro w116 S
          refine WL.nil ?_
          obtain rfl := Option.some.inj hj96
          exact ⟨H109, h21, h23, rfl, rfl, rfl, rfl, R87, (S.drop _ (.cons _ (.cons _ (.cons_cons _ (.cons_cons _ (.cons _ (.cons _ (.cons _ (.cons _ (.cons _ (.cons _ (.cons _ (.cons_cons _ (.cons_cons _ .slnil))))))))))))))⟩
        · refine WP.condF rfl hc107 ?_
          refine WP.skip ?_
          obtain rfl := Option.some.inj hj96
          exact ⟨H85, h21, h23, rfl, rfl, rfl, rfl, R87, (S.drop _ (.cons _ (.cons _ (.cons_cons _ (.cons_cons _ (.cons _ (.cons _ (.cons _ (.cons _ (.cons _ (.cons _ (.cons _ (.cons_cons _ (.cons_cons _ .slnil))))))))))))))⟩
      · rintro f w ⟨H88, h89, h90, h91, h92, h93, h94, R87, S⟩
        refine WP.region ?_
        refine WL.valw (v := (int 1)) (R.ofEq (R.add h94 rfl) rfl) ?_
        refine WL.valw (R.mv (v := (int 1)) rfl) ?_
        refine WL.nil ?_
        refine RD.succ ?_
        refine WP.seq ?_
        refine WP.region ?_
        refine WL.valw (v := (boo true)) (R.ofEq (R.lss rfl h93) rfl) ?_
        refine WL.nil ?_
        refine WP.seq ?_
        refine WP.condT (b := true) rfl rfl ?_
        refine WP.skip ?_
        refine WP.seq ?_
        obtain ⟨m124, hj125, h⟩ := bindE h
        refine WP.cut (fun f w => ∃ (H117 : Hp), f 2 = (ptr b1 0) ∧ f 4 = (mapv b9) ∧ f 25 = (ptr b80 0) ∧ f 116 = u83 ∧ f 117 = (int 4) ∧ f 118 = (int 1) ∧ Sl (α := Raw 4) H117 u83 ([⟨[(str [109, 97, 120, 45, 97, 103, 101]), (ptr b80 7), (int 0), (int 0)], rfl, rfl⟩, ⟨[(str [115, 45, 109, 97, 120, 97, 103, 101]), (ptr b80 8), (int 0), (int 0)], rfl, rfl⟩, ⟨[(str [109, 105, 110, 45, 102, 114, 101, 115, 104]), (ptr b80 9), (int 2147483647), (int 2147483647)], rfl, rfl⟩, ⟨[(str [109, 97, 120, 45, 115, 116, 97, 108, 101]), (ptr b80 10), (int 2147483647), (int 0)], rfl, rfl⟩] : List (Raw 4)) ∧ St w0 H0 w H117 [.row u83 60 4 ([⟨[(str [109, 97, 120, 45, 97, 103, 101]), (ptr b80 7), (int 0), (int 0)], rfl, rfl⟩, ⟨[(str [115, 45, 109, 97, 120, 97, 103, 101]), (ptr b80 8), (int 0), (int 0)], rfl, rfl⟩, ⟨[(str [109, 105, 110, 45, 102, 114, 101, 115, 104]), (ptr b80 9), (int 2147483647), (int 2147483647)], rfl, rfl⟩, ⟨[(str [109, 97, 120, 45, 115, 116, 97, 108, 101]), (ptr b80 10), (int 2147483647), (int 0)], rfl, rfl⟩] : List (Raw 4)).length, .box b80 36 [(boo (g50.2 || (decide (64 ≤ (r3.length : Int))))), (boo g54.2), (boo g58.2), (boo g62.2), (boo g66.2), (boo g70.2), (boo g74.2), (int m95), (int m124), (int (-1)), (int (-1))], .mp b9 (encm (fun x : Gcachecontrol_directive => (agg [(int x.fform), (str x.fvalue)])) m24), .box b1 36 [(boo false), (boo false), (boo false), (boo false), (boo false), (boo false), (boo false), (int 0), (int 0), (int 0), (int 0)]]) ?_ ?_
        · refine WP.block ?_
          refine WP.seq ?_
          refine WP.region ?_
          refine W.idx (α := Raw 4) (c := ⟨[(str [115, 45, 109, 97, 120, 97, 103, 101]), (ptr b80 8), (int 0), (int 0)], rfl, rfl⟩) R87 h92 rfl el61 rfl ?_
          rintro a127 _ hA128 rfl
          refine WL.valw (R.loadHN (vs := [(str [115, 45, 109, 97, 120, 97, 103, 101]), (ptr b80 8), (int 0), (int 0)]) S rfl hA128 lay60 rfl rfl) ?_
          refine W.alloc [(str []), (.pointer none), (int 0), (int 0)] S zer60 ?_
          intro b129 w130 S
          refine W.store (i := 0) [(str [115, 45, 109, 97, 120, 97, 103, 101]), (ptr b80 8), (int 0), (int 0)] S rfl rfl rfl lay60 rfl rfl (Nat.le_of_ble_eq_true rfl) rfl ?_
          intro w131 S
          refine WL.nil ?_
          refine WP.seq ?_
          refine WP.region ?_
          refine WL.valw (R.mv (v := (mapv b9)) h90) ?_
          refine WL.valw (R.fieldB rfl fld60_0) ?_
          refine WL.valw (R.loadB (i := 0) (v := (str [115, 45, 109, 97, 120, 97, 103, 101])) S rfl rfl lay9 rfl) ?_
          obtain ⟨g132, hg132, hj125⟩ := bindE hj125
          refine WL.valw (v := (.tuple ⟨[(agg [(int g132.1.fform), (str g132.1.fvalue)]), (boo g132.2)]⟩)) (R.ofEq (R.lookup (fun x : Gcachecontrol_directive => (agg [(int x.fform), (str x.fvalue)])) (i := 3) (m := m24) (z := (⟨0, []⟩ : Gcachecontrol_directive)) S rfl rfl rfl Tryz.underlying53 Tryz.underlying9 mz55 rfl) (by rw [Option.some.inj hg132])) ?_
          refine WL.valw (R.mv (v := (.tuple ⟨[(agg [(int g132.1.fform), (str g132.1.fvalue)]), (boo g132.2)]⟩)) rfl) ?_
          refine WL.valw (R.ext rfl rfl) ?_
          refine WL.valw (R.ext rfl rfl) ?_
          refine W.alloc [(int 0), (str [])] S zer55 ?_
          intro b133 w134 S
          refine W.store (i := 0) [(int g132.1.fform), (str g132.1.fvalue)] S rfl rfl rfl lay55 rfl rfl (Nat.le_of_ble_eq_true rfl) rfl ?_
          intro w135 S
          refine WL.valw (R.as (v := (boo g132.2)) rfl) ?_
          refine WL.nil ?_
          refine WP.seq ?_
          refine WP.region ?_
          refine WL.valw (R.mv (v := (boo g132.2)) rfl) ?_
          refine WL.nil ?_
          rcases condE hj125 with ⟨hc136, hj125⟩ | ⟨hc136, hj125⟩
          · refine WP.condT rfl hc136 ?_
            refine WP.quietTail 9 S (by kernel_rfl) (by kernel_rfl) ?_
            refine WQ.val (fun _ _ => (R.fieldB rfl fld60_1)) ?_
            refine WQ.val (fun w hw => by obtain ⟨_, hq, S⟩ := hw; exact (R.loadB (i := 1) (v := (ptr b80 8)) S rfl rfl lay59 rfl)) ?_
            refine WQ.val (fun w hw => by obtain ⟨_, hq, S⟩ := hw; exact (R.loadBN (i := 0) (vs := [(int g132.1.fform), (str g132.1.fvalue)]) S rfl rfl lay55 rfl rfl)) ?_
            refine WQ.val (fun _ _ => (R.fieldB rfl fld60_2)) ?_
            refine WQ.val (fun w hw => by obtain ⟨_, hq, S⟩ := hw; exact (R.loadB (i := 1) (v := (int 0)) S rfl rfl lay3 rfl)) ?_
            refine WQ.val (fun _ _ => (R.fieldB rfl fld60_3)) ?_
            refine WQ.val (fun w hw => by obtain ⟨_, hq, S⟩ := hw; exact (R.loadB (i := 1) (v := (int 0)) S rfl rfl lay3 rfl)) ?_
            obtain ⟨r140, hr140, hj125⟩ := bindE hj125
            refine WQ.call (v := (int r140)) rfl (fun w H' hq S => cachecontrol_number_ok S.holds g132.1 0 0 hr140) ?_
            refine WQ.val (fun _ _ => (R.nilCheckB rfl)) ?_
            refine WQ.nil ?_
            intro w137 H138 hle139 S
            have R87 := Sl.mono R87 hle139
            have hA128 := At.mono hA128 hle139 (by simp)
            refine W.store (i := 3) [(boo (g50.2 || (decide (64 ≤ (r3.length : Int))))), (boo g54.2), (boo g58.2), (boo g62.2), (boo g66.2), (boo g70.2), (boo g74.2), (int m95), (int r140), (int (-1)), (int (-1))] S rfl rfl rfl lay3 rfl rfl (Nat.le_of_ble_eq_true rfl) rfl ?_
            intro w145 S
            refine WL.nil ?_
            obtain rfl := Option.some.inj hj125
            exact ⟨H138, h89, h90, h91, h92, h93, rfl, R87, (S.drop _ (.cons _ (.cons _ (.cons_cons _ (.cons_cons _ (.cons_cons _ (.cons_cons _ .slnil)))))))⟩
          · refine WP.condF rfl hc136 ?_
            refine WP.skip ?_
            obtain rfl := Option.some.inj hj125
            exact ⟨H88, h89, h90, h91, h92, h93, rfl, R87, (S.drop _ (.cons _ (.cons _ (.cons_cons _ (.cons_cons _ (.cons_cons _ (.cons_cons _ .slnil)))))))⟩
        · rintro f w ⟨H117, h118, h119, h120, h121, h122, h123, R87, S⟩
          refine WP.region ?_
          refine WL.valw (v := (int 2)) (R.ofEq (R.add h123 rfl) rfl) ?_
          refine WL.valw (R.mv (v := (int 2)) rfl) ?_
          refine WL.nil ?_
          refine RD.succ ?_
          refine WP.seq ?_
          refine WP.region ?_
          refine WL.valw (v := (boo true)) (R.ofEq (R.lss rfl h122) rfl) ?_
          refine WL.nil ?_
          refine WP.seq ?_
          refine WP.condT (b := true) rfl rfl ?_
          refine WP.skip ?_
          refine WP.seq ?_
          obtain ⟨m153, hj154, h⟩ := bindE h
          refine WP.cut (fun f w => ∃ (H146 : Hp), f 2 = (ptr b1 0) ∧ f 4 = (mapv b9) ∧ f 25 = (ptr b80 0) ∧ f 116 = u83 ∧ f 117 = (int 4) ∧ f 118 = (int 2) ∧ Sl (α := Raw 4) H146 u83 ([⟨[(str [109, 97, 120, 45, 97, 103, 101]), (ptr b80 7), (int 0), (int 0)], rfl, rfl⟩, ⟨[(str [115, 45, 109, 97, 120, 97, 103, 101]), (ptr b80 8), (int 0), (int 0)], rfl, rfl⟩, ⟨[(str [109, 105, 110, 45, 102, 114, 101, 115, 104]), (ptr b80 9), (int 2147483647), (int 2147483647)], rfl, rfl⟩, ⟨[(str [109, 97, 120, 45, 115, 116, 97, 108, 101]), (ptr b80 10), (int 2147483647), (int 0)], rfl, rfl⟩] : List (Raw 4)) ∧ St w0 H0 w H146 [.row u83 60 4 ([⟨[(str [109, 97, 120, 45, 97, 103, 101]), (ptr b80 7), (int 0), (int 0)], rfl, rfl⟩, ⟨[(str [115, 45, 109, 97, 120, 97, 103, 101]), (ptr b80 8), (int 0), (int 0)], rfl, rfl⟩, ⟨[(str [109, 105, 110, 45, 102, 114, 101, 115, 104]), (ptr b80 9), (int 2147483647), (int 2147483647)], rfl, rfl⟩, ⟨[(str [109, 97, 120, 45, 115, 116, 97, 108, 101]), (ptr b80 10), (int 2147483647), (int 0)], rfl, rfl⟩] : List (Raw 4)).length, .box b80 36 [(boo (g50.2 || (decide (64 ≤ (r3.length : Int))))), (boo g54.2), (boo g58.2), (boo g62.2), (boo g66.2), (boo g70.2), (boo g74.2), (int m95), (int m124), (int m153), (int (-1))], .mp b9 (encm (fun x : Gcachecontrol_directive => (agg [(int x.fform), (str x.fvalue)])) m24), .box b1 36 [(boo false), (boo false), (boo false), (boo false), (boo false), (boo false), (boo false), (int 0), (int 0), (int 0), (int 0)]]) ?_ ?_
          · refine WP.block ?_
            refine WP.seq ?_
            refine WP.region ?_
            refine W.idx (α := Raw 4) (c := ⟨[(str [109, 105, 110, 45, 102, 114, 101, 115, 104]), (ptr b80 9), (int 2147483647), (int 2147483647)], rfl, rfl⟩) R87 h121 rfl el61 rfl ?_
            rintro a156 _ hA157 rfl
            refine WL.valw (R.loadHN (vs := [(str [109, 105, 110, 45, 102, 114, 101, 115, 104]), (ptr b80 9), (int 2147483647), (int 2147483647)]) S rfl hA157 lay60 rfl rfl) ?_
            refine W.alloc [(str []), (.pointer none), (int 0), (int 0)] S zer60 ?_
            intro b158 w159 S
            refine W.store (i := 0) [(str [109, 105, 110, 45, 102, 114, 101, 115, 104]), (ptr b80 9), (int 2147483647), (int 2147483647)] S rfl rfl rfl lay60 rfl rfl (Nat.le_of_ble_eq_true rfl) rfl ?_
            intro w160 S
            refine WL.nil ?_
            refine WP.seq ?_
            refine WP.region ?_
            refine WL.valw (R.mv (v := (mapv b9)) h119) ?_
            refine WL.valw (R.fieldB rfl fld60_0) ?_
            refine WL.valw (R.loadB (i := 0) (v := (str [109, 105, 110, 45, 102, 114, 101, 115, 104])) S rfl rfl lay9 rfl) ?_
            obtain ⟨g161, hg161, hj154⟩ := bindE hj154
            refine WL.valw (v := (.tuple ⟨[(agg [(int g161.1.fform), (str g161.1.fvalue)]), (boo g161.2)]⟩)) (R.ofEq (R.lookup (fun x : Gcachecontrol_directive => (agg [(int x.fform), (str x.fvalue)])) (i := 3) (m := m24) (z := (⟨0, []⟩ : Gcachecontrol_directive)) S rfl rfl rfl Tryz.underlying53 Tryz.underlying9 mz55 rfl) (by rw [Option.some.inj hg161])) ?_
            refine WL.valw (R.mv (v := (.tuple ⟨[(agg [(int g161.1.fform), (str g161.1.fvalue)]), (boo g161.2)]⟩)) rfl) ?_
            refine WL.valw (R.ext rfl rfl) ?_
            refine WL.valw (R.ext rfl rfl) ?_
            refine W.alloc [(int 0), (str [])] S zer55 ?_
            intro b162 w163 S
            refine W.store (i := 0) [(int g161.1.fform), (str g161.1.fvalue)] S rfl rfl rfl lay55 rfl rfl (Nat.le_of_ble_eq_true rfl) rfl ?_
            intro w164 S
            refine WL.valw (R.as (v := (boo g161.2)) rfl) ?_
            refine WL.nil ?_
            refine WP.seq ?_
            refine WP.region ?_
            refine WL.valw (R.mv (v := (boo g161.2)) rfl) ?_
            refine WL.nil ?_
            rcases condE hj154 with ⟨hc165, hj154⟩ | ⟨hc165, hj154⟩
            · refine WP.condT rfl hc165 ?_
              refine WP.quietTail 9 S (by kernel_rfl) (by kernel_rfl) ?_
              refine WQ.val (fun _ _ => (R.fieldB rfl fld60_1)) ?_
              refine WQ.val (fun w hw => by obtain ⟨_, hq, S⟩ := hw; exact (R.loadB (i := 1) (v := (ptr b80 9)) S rfl rfl lay59 rfl)) ?_
              refine WQ.val (fun w hw => by obtain ⟨_, hq, S⟩ := hw; exact (R.loadBN (i := 0) (vs := [(int g161.1.fform), (str g161.1.fvalue)]) S rfl rfl lay55 rfl rfl)) ?_
              refine WQ.val (fun _ _ => (R.fieldB rfl fld60_2)) ?_
              refine WQ.val (fun w hw => by obtain ⟨_, hq, S⟩ := hw; exact (R.loadB (i := 1) (v := (int 2147483647)) S rfl rfl lay3 rfl)) ?_
              refine WQ.val (fun _ _ => (R.fieldB rfl fld60_3)) ?_
              refine WQ.val (fun w hw => by obtain ⟨_, hq, S⟩ := hw; exact (R.loadB (i := 1) (v := (int 2147483647)) S rfl rfl lay3 rfl)) ?_
              obtain ⟨r169, hr169, hj154⟩ := bindE hj154
              refine WQ.call (v := (int r169)) rfl (fun w H' hq S => cachecontrol_number_ok S.holds g161.1 2147483647 2147483647 hr169) ?_
              refine WQ.val (fun _ _ => (R.nilCheckB rfl)) ?_
              refine WQ.nil ?_
              intro w166 H167 hle168 S
              have R87 := Sl.mono R87 hle168
              have hA157 := At.mono hA157 hle168 (by simp)
              refine W.store (i := 3) [(boo (g50.2 || (decide (64 ≤ (r3.length : Int))))), (boo g54.2), (boo g58.2), (boo g62.2), (boo g66.2), (boo g70.2), (boo g74.2), (int m95), (int m124), (int r169), (int (-1))] S rfl rfl rfl lay3 rfl rfl (Nat.le_of_ble_eq_true rfl) rfl ?_
              intro w174 S
              refine WL.nil ?_
              obtain rfl := Option.some.inj hj154
              exact ⟨H167, h118, h119, h120, h121, h122, rfl, R87, (S.drop _ (.cons _ (.cons _ (.cons_cons _ (.cons_cons _ (.cons_cons _ (.cons_cons _ .slnil)))))))⟩
            · refine WP.condF rfl hc165 ?_
              refine WP.skip ?_
              obtain rfl := Option.some.inj hj154
              exact ⟨H117, h118, h119, h120, h121, h122, rfl, R87, (S.drop _ (.cons _ (.cons _ (.cons_cons _ (.cons_cons _ (.cons_cons _ (.cons_cons _ .slnil)))))))⟩
          · rintro f w ⟨H146, h147, h148, h149, h150, h151, h152, R87, S⟩
            refine WP.region ?_
            refine WL.valw (v := (int 3)) (R.ofEq (R.add h152 rfl) rfl) ?_
            refine WL.valw (R.mv (v := (int 3)) rfl) ?_
            refine WL.nil ?_
            refine RD.succ ?_
            refine WP.seq ?_
            refine WP.region ?_
            refine WL.valw (v := (boo true)) (R.ofEq (R.lss rfl h151) rfl) ?_
            refine WL.nil ?_
            refine WP.seq ?_
            refine WP.condT (b := true) rfl rfl ?_
            refine WP.skip ?_
            refine WP.seq ?_
            obtain ⟨m182, hj183, h⟩ := bindE h
            refine WP.cut (fun f w => ∃ (H175 : Hp), f 2 = (ptr b1 0) ∧ f 4 = (mapv b9) ∧ f 25 = (ptr b80 0) ∧ f 116 = u83 ∧ f 117 = (int 4) ∧ f 118 = (int 3) ∧ Sl (α := Raw 4) H175 u83 ([⟨[(str [109, 97, 120, 45, 97, 103, 101]), (ptr b80 7), (int 0), (int 0)], rfl, rfl⟩, ⟨[(str [115, 45, 109, 97, 120, 97, 103, 101]), (ptr b80 8), (int 0), (int 0)], rfl, rfl⟩, ⟨[(str [109, 105, 110, 45, 102, 114, 101, 115, 104]), (ptr b80 9), (int 2147483647), (int 2147483647)], rfl, rfl⟩, ⟨[(str [109, 97, 120, 45, 115, 116, 97, 108, 101]), (ptr b80 10), (int 2147483647), (int 0)], rfl, rfl⟩] : List (Raw 4)) ∧ St w0 H0 w H175 [.row u83 60 4 ([⟨[(str [109, 97, 120, 45, 97, 103, 101]), (ptr b80 7), (int 0), (int 0)], rfl, rfl⟩, ⟨[(str [115, 45, 109, 97, 120, 97, 103, 101]), (ptr b80 8), (int 0), (int 0)], rfl, rfl⟩, ⟨[(str [109, 105, 110, 45, 102, 114, 101, 115, 104]), (ptr b80 9), (int 2147483647), (int 2147483647)], rfl, rfl⟩, ⟨[(str [109, 97, 120, 45, 115, 116, 97, 108, 101]), (ptr b80 10), (int 2147483647), (int 0)], rfl, rfl⟩] : List (Raw 4)).length, .box b80 36 [(boo (g50.2 || (decide (64 ≤ (r3.length : Int))))), (boo g54.2), (boo g58.2), (boo g62.2), (boo g66.2), (boo g70.2), (boo g74.2), (int m95), (int m124), (int m153), (int m182)], .mp b9 (encm (fun x : Gcachecontrol_directive => (agg [(int x.fform), (str x.fvalue)])) m24), .box b1 36 [(boo false), (boo false), (boo false), (boo false), (boo false), (boo false), (boo false), (int 0), (int 0), (int 0), (int 0)]]) ?_ ?_
            · refine WP.block ?_
              refine WP.seq ?_
              refine WP.region ?_
              refine W.idx (α := Raw 4) (c := ⟨[(str [109, 97, 120, 45, 115, 116, 97, 108, 101]), (ptr b80 10), (int 2147483647), (int 0)], rfl, rfl⟩) R87 h150 rfl el61 rfl ?_
              rintro a185 _ hA186 rfl
              refine WL.valw (R.loadHN (vs := [(str [109, 97, 120, 45, 115, 116, 97, 108, 101]), (ptr b80 10), (int 2147483647), (int 0)]) S rfl hA186 lay60 rfl rfl) ?_
              refine W.alloc [(str []), (.pointer none), (int 0), (int 0)] S zer60 ?_
              intro b187 w188 S
              refine W.store (i := 0) [(str [109, 97, 120, 45, 115, 116, 97, 108, 101]), (ptr b80 10), (int 2147483647), (int 0)] S rfl rfl rfl lay60 rfl rfl (Nat.le_of_ble_eq_true rfl) rfl ?_
              intro w189 S
              refine WL.nil ?_
              refine WP.seq ?_
              refine WP.region ?_
              refine WL.valw (R.mv (v := (mapv b9)) h148) ?_
              refine WL.valw (R.fieldB rfl fld60_0) ?_
              refine WL.valw (R.loadB (i := 0) (v := (str [109, 97, 120, 45, 115, 116, 97, 108, 101])) S rfl rfl lay9 rfl) ?_
              obtain ⟨g190, hg190, hj183⟩ := bindE hj183
              refine WL.valw (v := (.tuple ⟨[(agg [(int g190.1.fform), (str g190.1.fvalue)]), (boo g190.2)]⟩)) (R.ofEq (R.lookup (fun x : Gcachecontrol_directive => (agg [(int x.fform), (str x.fvalue)])) (i := 3) (m := m24) (z := (⟨0, []⟩ : Gcachecontrol_directive)) S rfl rfl rfl Tryz.underlying53 Tryz.underlying9 mz55 rfl) (by rw [Option.some.inj hg190])) ?_
              refine WL.valw (R.mv (v := (.tuple ⟨[(agg [(int g190.1.fform), (str g190.1.fvalue)]), (boo g190.2)]⟩)) rfl) ?_
              refine WL.valw (R.ext rfl rfl) ?_
              refine WL.valw (R.ext rfl rfl) ?_
              refine W.alloc [(int 0), (str [])] S zer55 ?_
              intro b191 w192 S
              refine W.store (i := 0) [(int g190.1.fform), (str g190.1.fvalue)] S rfl rfl rfl lay55 rfl rfl (Nat.le_of_ble_eq_true rfl) rfl ?_
              intro w193 S
              refine WL.valw (R.as (v := (boo g190.2)) rfl) ?_
              refine WL.nil ?_
              refine WP.seq ?_
              refine WP.region ?_
              refine WL.valw (R.mv (v := (boo g190.2)) rfl) ?_
              refine WL.nil ?_
              rcases condE hj183 with ⟨hc194, hj183⟩ | ⟨hc194, hj183⟩
              · refine WP.condT rfl hc194 ?_
                refine WP.quietTail 9 S (by kernel_rfl) (by kernel_rfl) ?_
                refine WQ.val (fun _ _ => (R.fieldB rfl fld60_1)) ?_
                refine WQ.val (fun w hw => by obtain ⟨_, hq, S⟩ := hw; exact (R.loadB (i := 1) (v := (ptr b80 10)) S rfl rfl lay59 rfl)) ?_
                refine WQ.val (fun w hw => by obtain ⟨_, hq, S⟩ := hw; exact (R.loadBN (i := 0) (vs := [(int g190.1.fform), (str g190.1.fvalue)]) S rfl rfl lay55 rfl rfl)) ?_
                refine WQ.val (fun _ _ => (R.fieldB rfl fld60_2)) ?_
                refine WQ.val (fun w hw => by obtain ⟨_, hq, S⟩ := hw; exact (R.loadB (i := 1) (v := (int 2147483647)) S rfl rfl lay3 rfl)) ?_
                refine WQ.val (fun _ _ => (R.fieldB rfl fld60_3)) ?_
                refine WQ.val (fun w hw => by obtain ⟨_, hq, S⟩ := hw; exact (R.loadB (i := 1) (v := (int 0)) S rfl rfl lay3 rfl)) ?_
                obtain ⟨r198, hr198, hj183⟩ := bindE hj183
                refine WQ.call (v := (int r198)) rfl (fun w H' hq S => cachecontrol_number_ok S.holds g190.1 2147483647 0 hr198) ?_
                refine WQ.val (fun _ _ => (R.nilCheckB rfl)) ?_
                refine WQ.nil ?_
                intro w195 H196 hle197 S
                have R87 := Sl.mono R87 hle197
                have hA186 := At.mono hA186 hle197 (by simp)
                refine W.store (i := 3) [(boo (g50.2 || (decide (64 ≤ (r3.length : Int))))), (boo g54.2), (boo g58.2), (boo g62.2), (boo g66.2), (boo g70.2), (boo g74.2), (int m95), (int m124), (int m153), (int r198)] S rfl rfl rfl lay3 rfl rfl (Nat.le_of_ble_eq_true rfl) rfl ?_
                intro w203 S
                refine WL.nil ?_
                obtain rfl := Option.some.inj hj183
                exact ⟨H196, h147, h148, h149, h150, h151, rfl, R87, (S.drop _ (.cons _ (.cons _ (.cons_cons _ (.cons_cons _ (.cons_cons _ (.cons_cons _ .slnil)))))))⟩
              · refine WP.condF rfl hc194 ?_
                refine WP.skip ?_
                obtain rfl := Option.some.inj hj183
                exact ⟨H146, h147, h148, h149, h150, h151, rfl, R87, (S.drop _ (.cons _ (.cons _ (.cons_cons _ (.cons_cons _ (.cons_cons _ (.cons_cons _ .slnil)))))))⟩
            · rintro f w ⟨H175, h176, h177, h178, h179, h180, h181, R87, S⟩
              refine WP.region ?_
              refine WL.valw (v := (int 4)) (R.ofEq (R.add h181 rfl) rfl) ?_
              refine WL.valw (R.mv (v := (int 4)) rfl) ?_
              refine WL.nil ?_
              refine RD.succ ?_
              refine WP.seq ?_
              refine WP.region ?_
              refine WL.valw (v := (boo false)) (R.ofEq (R.lss rfl h180) rfl) ?_
              refine WL.nil ?_
              refine WP.seq ?_
              refine WP.condF (b := false) rfl rfl ?_
              refine WP.exit ?_
              refine WP.seq ?_
              refine WP.region ?_
              refine WL.valw (R.loadBN (i := 1) (vs := [(boo (g50.2 || (decide (64 ≤ (r3.length : Int))))), (boo g54.2), (boo g58.2), (boo g62.2), (boo g66.2), (boo g70.2), (boo g74.2), (int m95), (int m124), (int m153), (int m182)]) S h178 rfl lay36 rfl rfl) ?_
              refine W.store (i := 3) [(boo (g50.2 || (decide (64 ≤ (r3.length : Int))))), (boo g54.2), (boo g58.2), (boo g62.2), (boo g66.2), (boo g70.2), (boo g74.2), (int m95), (int m124), (int m153), (int m182)] S h176 rfl rfl lay36 rfl rfl (Nat.le_of_ble_eq_true rfl) rfl ?_
              intro w204 S
              refine WL.nil ?_
              obtain rfl := Option.some.inj h
              refine WP.ret (Out.one rfl S (Res.cellB (i := 3) (cs := [(boo (g50.2 || (decide (64 ≤ (r3.length : Int))))), (boo g54.2), (boo g58.2), (boo g62.2), (boo g66.2), (boo g70.2), (boo g74.2), (int m95), (int m124), (int m153), (int m182)]) S h176 rfl lay36 rfl rfl) ?_)
              exact rfl
set_option maxRecDepth 10000 in
set_option maxHeartbeats 4000000 in
theorem fieldline_Has_ok {w0 : World} {H0 : Hp} (hw : Holds w0 H0) (p_l : (List GField)) (p_name : Str) {vp_l : Value} (Rp_l : Sl (α := GField) H0 vp_l p_l) {r : Bool} (h : fieldline_Has p_l p_name = some r) :
    Con Tryz.prog 20 [vp_l, (str p_name)] w0 H0 (fun H' v => v = (boo r)) := by
  refine Con.mk (N := 11) Tryz.func20 rfl rfl (by kernel_rfl) rfl ?_
  have S := St.start hw
  refine WP.seq ?_
  refine WP.region ?_
  refine WL.valw (R.as (v := (boo false)) rfl) ?_
  refine WL.nil ?_
  refine WP.seq ?_
  refine WP.region ?_
  refine WL.valw (R.mv (v := vp_l) rfl) ?_
  refine WL.valw (R.mv (v := (str p_name)) rfl) ?_
  obtain ⟨r1, hr1, h⟩ := bindE h
  refine W.call S rfl (fieldline_named_ok S.holds p_name hr1) ?_
  rintro v2 w3 H4 hle5 S ⟨kr1, cr1, rfl, Fr1⟩
  have Rp_l := Sl.mono Rp_l hle5
  obtain ⟨r6, hr6, h⟩ := bindE h
  refine W.call S rfl (fieldline_filter_ok S.holds p_l r1 Rp_l (fun hle => Fr1 (Hp.le.trans (Hp.le.refl _) hle)) hr6) ?_
  rintro v7 w8 H9 hle10 S R11
  have Rp_l := Sl.mono Rp_l hle10
  refine WL.valw (R.lenL (α := GField) (xs := r6) (H := H9) R11 rfl Tryz.underlying22) ?_
  refine WL.valw (R.gtr rfl rfl) ?_
  refine WL.valw (R.as (v := (boo (decide (0 < (r6.length : Int))))) rfl) ?_
  refine WL.nil ?_
  obtain rfl := Option.some.inj h
  refine WP.ret (Out.one rfl S rfl ?_)
  exact rfl
set_option maxRecDepth 10000 in
set_option maxHeartbeats 4000000 in
theorem slices_IndexFunc_string_string_ok {w0 : World} {H0 : Hp} (hw : Holds w0 H0) (p_s : (List Str)) (p_f : (Str → Option Bool)) {vp_s : Value} {kp_f : FuncId} {cp_f : List Value} (Rp_s : Sl (α := Str) H0 vp_s p_s) (Fp_f : ∀ {w : World} {H : Hp}, H0.le H → Holds w H → ∀ (x0 : Str) (rr : Bool), p_f x0 = some rr → Con Tryz.prog kp_f ([(str x0)] ++ cp_f) w H (fun H' v => v = (boo rr))) {r : Int} (h : slices_IndexFunc_string_string p_s p_f = some r) :
    Con Tryz.prog 64 [vp_s, (.func (.func kp_f) #[] cp_f.toArray)] w0 H0 (fun H' v => v = (int r)) := by
  refine Con.mk (N := 19) Tryz.func64 rfl rfl (by kernel_rfl) rfl ?_
  have S := St.start hw
  refine WP.seq ?_
  refine WP.region ?_
  refine WL.valw (R.as (v := (int 0)) rfl) ?_
  refine WL.nil ?_
  refine WP.seq ?_
  refine WP.seq ?_
  refine WP.region ?_
  refine WL.valw (R.mv (v := vp_s) rfl) ?_
  refine WL.valw (R.lenL (α := Str) (xs := p_s) (H := H0) Rp_s rfl Tryz.underlying38) ?_
  refine WL.valw (R.mv (v := (int 0)) rfl) ?_
  refine WL.nil ?_
  obtain ⟨r11, hr12, h⟩ := bindE h
  refine WP.cut (fun f w => match r11 with | .inl _ => ∃ (H7 : Hp), St w0 H0 w H7 [] | .inr _ => False) ?_ ?_
  · refine WP.block ?_
    refine WP.loopM (slices_IndexFunc_string_string_L0 p_s p_f) (fun s f w => match s with | y_5 => ∃ (H1 : Hp), f 0 = vp_s ∧ f 1 = (.func (.func kp_f) #[] cp_f.toArray) ∧ f 7 = (int (p_s.length : Int)) ∧ f 8 = (int y_5) ∧ Sl (α := Str) H1 vp_s p_s ∧ St w0 H0 w H1 []) 0 r11 hr12 ?_ ?_
    · exact ⟨H0, rfl, rfl, rfl, rfl, Rp_s, S⟩
    · intro y_5 f w hI y8 hy9 hy10
      obtain ⟨H1, h2, h3, h4, h6, Rp_s, S⟩ := hI
      refine WP.seq ?_
      refine WP.region ?_
      refine WL.valw (R.lss h6 h4) ?_
      refine WL.nil ?_
      refine WP.seq ?_
      rcases condE hy9 with ⟨hc13, hy9⟩ | ⟨hc13, hy9⟩
      · refine WP.condT rfl hc13 ?_
        refine WP.skip ?_
        refine WP.seq ?_
        refine WP.block ?_
        refine WP.seq ?_
        refine WP.region ?_
        refine WL.valw (R.mv (v := (int y_5)) h6) ?_
        refine WL.valw (R.as (v := (int y_5)) rfl) ?_
        refine WL.nil ?_
        refine WP.seq ?_
        refine WP.region ?_
        refine WL.valw (R.mv (v := (.func (.func kp_f) #[] cp_f.toArray)) h3) ?_
        refine WL.valw (R.mv (v := vp_s) h2) ?_
        refine WL.valw (R.mv (v := (int y_5)) rfl) ?_
        obtain ⟨x14, hx14, hy9⟩ := bindE hy9
        refine W.idx (α := Str) Rp_s rfl rfl el38 hx14 ?_
        rintro a15 _ hA16 rfl
        refine WL.valw (R.loadH (v := (str x14)) S rfl hA16 lay9 rfl) ?_
        obtain ⟨r17, hr17, hy9⟩ := bindE hy9
        refine W.callv S rfl rfl (Fp_f (S.post.le) S.holds x14 _ hr17) ?_
        rintro v18 w19 H20 hle21 S rfl
        have Rp_s := Sl.mono Rp_s hle21
        have hA16 := At.mono hA16 hle21 (by simp)
        refine WL.nil ?_
        rcases condE hy9 with ⟨hc22, hy9⟩ | ⟨hc22, hy9⟩
        · refine WP.condT rfl hc22 ?_
          refine WP.seq ?_
          refine WP.region ?_
          refine WL.valw (R.mv (v := (int y_5)) rfl) ?_
          refine WL.valw (R.as (v := (int y_5)) rfl) ?_
          refine WL.nil ?_
          obtain rfl := Option.some.inj hy9
          obtain rfl := hy10
          obtain rfl := Option.some.inj h
          refine WP.ret (Out.one rfl S rfl ?_)
          exact rfl
        · refine WP.condF rfl hc22 ?_
          refine WP.skip ?_
          refine WP.region ?_
          refine WL.valw (R.add h6 rfl) ?_
          refine WL.valw (R.mv (v := (int (wr (y_5 + 1)))) rfl) ?_
          refine WL.nil ?_
          obtain rfl := Option.some.inj hy9
          exact ⟨rfl, ⟨H20, h2, h3, h4, rfl, Rp_s, S⟩⟩
      · refine WP.condF rfl hc13 ?_
        refine WP.exit ?_
        obtain rfl := Option.some.inj hy9
        obtain rfl := hy10
        exact ⟨H1, S⟩
  · intro f w hM
    rcases r11 with _ | e
    · obtain ⟨H7, S⟩ := hM
      refine WP.seq ?_
      refine WP.region ?_
      refine WL.valw (R.as (v := (int (-1))) rfl) ?_
      refine WL.nil ?_
      obtain rfl := Option.some.inj h
      refine WP.ret (Out.one rfl S rfl ?_)
      exact rfl
    · exact hM.elim
set_option maxRecDepth 10000 in
set_option maxHeartbeats 4000000 in
theorem slices_ContainsFunc_string_string_ok {w0 : World} {H0 : Hp} (hw : Holds w0 H0) (p_s : (List Str)) (p_f : (Str → Option Bool)) {vp_s : Value} {kp_f : FuncId} {cp_f : List Value} (Rp_s : Sl (α := Str) H0 vp_s p_s) (Fp_f : ∀ {w : World} {H : Hp}, H0.le H → Holds w H → ∀ (x0 : Str) (rr : Bool), p_f x0 = some rr → Con Tryz.prog kp_f ([(str x0)] ++ cp_f) w H (fun H' v => v = (boo rr))) {r : Bool} (h : slices_ContainsFunc_string_string p_s p_f = some r) :
    Con Tryz.prog 34 [vp_s, (.func (.func kp_f) #[] cp_f.toArray)] w0 H0 (fun H' v => v = (boo r)) := by
  refine Con.mk (N := 9) Tryz.func34 rfl rfl (by kernel_rfl) rfl ?_
  have S := St.start hw
  refine WP.seq ?_
  refine WP.region ?_
  refine WL.valw (R.as (v := (boo false)) rfl) ?_
  refine WL.nil ?_
  refine WP.seq ?_
  refine WP.region ?_
  refine WL.valw (R.mv (v := vp_s) rfl) ?_
  refine WL.valw (R.mv (v := (.func (.func kp_f) #[] cp_f.toArray)) rfl) ?_
  obtain ⟨r1, hr1, h⟩ := bindE h
  refine W.call S rfl (slices_IndexFunc_string_string_ok S.holds p_s p_f Rp_s (fun hle => Fp_f (Hp.le.trans S.post.le hle)) hr1) ?_
  rintro v2 w3 H4 hle5 S rfl
  have Rp_s := Sl.mono Rp_s hle5
  refine WL.valw (R.geq rfl rfl) ?_
  refine WL.valw (R.as (v := (boo (decide (0 ≤ r1)))) rfl) ?_
  refine WL.nil ?_
  obtain rfl := Option.some.inj h
  refine WP.ret (Out.one rfl S rfl ?_)
  exact rfl
set_option maxRecDepth 10000 in
set_option maxHeartbeats 4000000 in
theorem ascii_Fold_ok {w0 : World} {H0 : Hp} (hw : Holds w0 H0) (p_a : Str) (p_b : Str) {r : Bool} (h : ascii_Fold p_a p_b = some r) :
    Con Tryz.prog 36 [(str p_a), (str p_b)] w0 H0 (fun H' v => v = (boo r)) := by
  refine Con.mk (N := 17) Tryz.func36 rfl rfl (by kernel_rfl) rfl ?_
  have S := St.start hw
  refine WP.seq ?_
  refine WP.region ?_
  refine WL.valw (R.as (v := (boo false)) rfl) ?_
  refine WL.nil ?_
  refine WP.seq ?_
  refine WP.region ?_
  refine WL.valw (R.mv (v := (str p_a)) rfl) ?_
  refine WL.valw (R.lenS (a := p_a) rfl Tryz.underlying9) ?_
  refine WL.valw (R.mv (v := (str p_b)) rfl) ?_
  refine WL.valw (R.lenS (a := p_b) rfl Tryz.underlying9) ?_
  refine WL.valw (R.eql rfl rfl) ?_
  refine WL.valw (R.mv (v := (boo ((p_a.length : Int) == (p_b.length : Int)))) rfl) ?_
  obtain ⟨b13, hg2, h⟩ := bindE h
  refine WL.grpw 6 [11, 12, 13, 14, 15] 16 (boo b13) (fun w => ∃ H' : Hp, H0.le H' ∧ St w0 H0 w H' []) ?_ ?_
  · rcases boolE ((p_a.length : Int) == (p_b.length : Int)) with hb1 | hb1
    · replace hg2 := condT hg2 hb1
      refine WL.gyes rfl rfl hb1 ?_
      refine WL.valw (R.mv (v := (str p_a)) rfl) ?_
      refine WL.gyes rfl rfl hb1 ?_
      obtain ⟨r3, hr3, hg2⟩ := bindE hg2
      refine W.call S rfl (ascii_Lower_ok S.holds p_a hr3) ?_
      rintro v4 w5 H6 hle7 S rfl
      refine WL.gyes rfl rfl hb1 ?_
      refine WL.valw (R.mv (v := (str p_b)) rfl) ?_
      refine WL.gyes rfl rfl hb1 ?_
      obtain ⟨r8, hr8, hg2⟩ := bindE hg2
      refine W.call S rfl (ascii_Lower_ok S.holds p_b hr8) ?_
      rintro v9 w10 H11 hle12 S rfl
      refine WL.gyes rfl rfl hb1 ?_
      refine WL.valw (R.eqlS (a := r3) (b := r8) rfl rfl) ?_
      refine WL.valw (R.pickT rfl hb1 rfl) ?_
      exact WL.nil ⟨(congrArg boo (Option.some.inj hg2)), (by repeat (first | refine agree_upd rfl ?_ | refine agree_upds' rfl ?_ | exact agree_refl)), ⟨H11, (hle7.trans hle12), S⟩⟩
    · replace hg2 := condF hg2 hb1
      refine WL.gno rfl rfl hb1 ?_
      refine WL.gno rfl rfl hb1 ?_
      refine WL.gno rfl rfl hb1 ?_
      refine WL.gno rfl rfl hb1 ?_
      refine WL.gno rfl rfl hb1 ?_
      refine WL.valw (R.pickF rfl hb1 rfl) ?_
      exact WL.nil ⟨(congrArg boo (Option.some.inj hg2)), (by repeat (first | refine agree_upd rfl ?_ | refine agree_upds' rfl ?_ | exact agree_refl)), ⟨H0, (Hp.le.refl _), S⟩⟩
  · intro us w15 ⟨H14, hle16, S⟩
    refine WL.valw (R.as (v := (boo b13)) rfl) ?_
    refine WL.nil ?_
    obtain rfl := Option.some.inj h
    refine WP.ret (Out.one rfl S rfl ?_)
    exact rfl
set_option maxRecDepth 10000 in
set_option maxHeartbeats 4000000 in
theorem cachecontrol_Request_1_ok {w0 : World} {H0 : Hp} (hw : Holds w0 H0) (p_m : Str) {r : Bool} (h : cachecontrol_Request_1 p_m = some r) :
    Con Tryz.prog 35 [(str p_m)] w0 H0 (fun H' v => v = (boo r)) := by
  refine Con.mk (N := 5) Tryz.func35 rfl rfl (by kernel_rfl) rfl ?_
  have S := St.start hw
  refine WP.seq ?_
  refine WP.region ?_
  refine WL.valw (R.as (v := (boo false)) rfl) ?_
  refine WL.nil ?_
  refine WP.seq ?_
  refine WP.region ?_
  refine WL.valw (R.mv (v := (str p_m)) rfl) ?_
  obtain ⟨r1, hr1, h⟩ := bindE h
  refine W.call S rfl (ascii_Fold_ok S.holds p_m [110, 111, 45, 99, 97, 99, 104, 101] hr1) ?_
  rintro v2 w3 H4 hle5 S rfl
  refine WL.valw (R.as (v := (boo r1)) rfl) ?_
  refine WL.nil ?_
  obtain rfl := Option.some.inj h
  refine WP.ret (Out.one rfl S rfl ?_)
  exact rfl
set_option maxRecDepth 10000 in
set_option maxHeartbeats 4000000 in
theorem cachecontrol_Request_ok {w0 : World} {H0 : Hp} (hw : Holds w0 H0) (p_l : (List GField)) {vp_l : Value} (Rp_l : Sl (α := GField) H0 vp_l p_l) {r : GControl} (h : cachecontrol_Request p_l = some r) :
    Con Tryz.prog 18 [vp_l] w0 H0 (fun H' v => v = (agg [(boo r.fNoStore), (boo r.fNoCache), (boo r.fMustRevalidate), (boo r.fProxyRevalidate), (boo r.fPrivate), (boo r.fPublic), (boo r.fOnlyIfCached), (int r.fMaxAge), (int r.fSMaxAge), (int r.fMinFresh), (int r.fMaxStale)])) := by
  refine Con.mk (N := 16) Tryz.func18 rfl rfl (by kernel_rfl) rfl ?_
  have S := St.start hw
  refine WP.seq ?_
  refine WP.region ?_
  refine W.alloc [(boo false), (boo false), (boo false), (boo false), (boo false), (boo false), (boo false), (int 0), (int 0), (int 0), (int 0)] S zer36 ?_
  intro b1 w2 S
  refine WL.nil ?_
  refine WP.seq ?_
  refine WP.region ?_
  refine WL.valw (R.mv (v := vp_l) rfl) ?_
  obtain ⟨r3, hr3, h⟩ := bindE h
  refine W.call S rfl (cachecontrol_Response_ok S.holds p_l Rp_l hr3) ?_
  rintro v4 w5 H6 hle7 S rfl
  have Rp_l := Sl.mono Rp_l hle7
  refine W.alloc [(boo false), (boo false), (boo false), (boo false), (boo false), (boo false), (boo false), (int 0), (int 0), (int 0), (int 0)] S zer36 ?_
  intro b8 w9 S
  refine W.store (i := 0) [(boo r3.fNoStore), (boo r3.fNoCache), (boo r3.fMustRevalidate), (boo r3.fProxyRevalidate), (boo r3.fPrivate), (boo r3.fPublic), (boo r3.fOnlyIfCached), (int r3.fMaxAge), (int r3.fSMaxAge), (int r3.fMinFresh), (int r3.fMaxStale)] S rfl rfl rfl lay36 rfl rfl (Nat.le_of_ble_eq_true rfl) rfl ?_
  intro w10 S
  refine WL.nil ?_
  refine WP.seq ?_
  refine WP.seq ?_
  refine WP.region ?_
  refine WL.valw (R.mv (v := vp_l) rfl) ?_
  obtain ⟨r11, hr11, h⟩ := bindE h
  refine W.call S rfl (fieldline_Has_ok S.holds p_l [67, 97, 99, 104, 101, 45, 67, 111, 110, 116, 114, 111, 108] Rp_l hr11) ?_
  rintro v12 w13 H14 hle15 S rfl
  have Rp_l := Sl.mono Rp_l hle15
  refine WL.valw (R.not rfl) ?_
  refine WL.valw (R.mv (v := (boo (!r11))) rfl) ?_
  obtain ⟨b29, hg17, h⟩ := bindE h
  refine WL.grpw 4 [10, 11, 12] 13 (boo b29) (fun w => ∃ H' : Hp, H14.le H' ∧ St w0 H0 w H' [.box b8 36 [(boo r3.fNoStore), (boo r3.fNoCache), (boo r3.fMustRevalidate), (boo r3.fProxyRevalidate), (boo r3.fPrivate), (boo r3.fPublic), (boo r3.fOnlyIfCached), (int r3.fMaxAge), (int r3.fSMaxAge), (int r3.fMinFresh), (int r3.fMaxStale)], .box b1 36 [(boo false), (boo false), (boo false), (boo false), (boo false), (boo false), (boo false), (int 0), (int 0), (int 0), (int 0)]]) ?_ ?_
  · rcases boolE (!r11) with hb16 | hb16
    · replace hg17 := condT hg17 hb16
      refine WL.gyes rfl rfl hb16 ?_
      refine WL.valw (R.mv (v := vp_l) rfl) ?_
      refine WL.gyes rfl rfl hb16 ?_
      obtain ⟨r18, hr18, hg17⟩ := bindE hg17
      refine W.call S rfl (list_All_ok S.holds p_l [80, 114, 97, 103, 109, 97] Rp_l hr18) ?_
      rintro v19 w20 H21 hle22 S R23
      have Rp_l := Sl.mono Rp_l hle22
      refine WL.gyes rfl rfl hb16 ?_
      obtain ⟨r24, hr24, hg17⟩ := bindE hg17
      refine W.call S rfl (slices_ContainsFunc_string_string_ok S.holds r18 cachecontrol_Request_1 R23 (fun hle hw x0 r h => cachecontrol_Request_1_ok hw x0 h) hr24) ?_
      rintro v25 w26 H27 hle28 S rfl
      have Rp_l := Sl.mono Rp_l hle28
      have R23 := Sl.mono R23 hle28
      refine WL.valw (R.pickT rfl hb16 rfl) ?_
      exact WL.nil ⟨(congrArg boo (Option.some.inj hg17)), (by repeat (first | refine agree_upd rfl ?_ | refine agree_upds' rfl ?_ | exact agree_refl)), ⟨H27, (hle22.trans hle28), S⟩⟩
    · replace hg17 := condF hg17 hb16
      refine WL.gno rfl rfl hb16 ?_
      refine WL.gno rfl rfl hb16 ?_
      refine WL.gno rfl rfl hb16 ?_
      refine WL.valw (R.pickF rfl hb16 rfl) ?_
      exact WL.nil ⟨(congrArg boo (Option.some.inj hg17)), (by repeat (first | refine agree_upd rfl ?_ | refine agree_upds' rfl ?_ | exact agree_refl)), ⟨H14, (Hp.le.refl _), S⟩⟩
  · intro us w31 ⟨H30, hle32, S⟩
    have Rp_l := Sl.mono Rp_l hle32
    refine WL.nil ?_
    obtain ⟨m36, hj37, h⟩ := bindE h
    refine WP.cut (fun f w => ∃ (H33 : Hp), f 2 = (ptr b1 0) ∧ f 3 = (ptr b8 0) ∧ St w0 H0 w H33 [.box b8 36 [(boo r3.fNoStore), (boo m36), (boo r3.fMustRevalidate), (boo r3.fProxyRevalidate), (boo r3.fPrivate), (boo r3.fPublic), (boo r3.fOnlyIfCached), (int r3.fMaxAge), (int r3.fSMaxAge), (int r3.fMinFresh), (int r3.fMaxStale)], .box b1 36 [(boo false), (boo false), (boo false), (boo false), (boo false), (boo false), (boo false), (int 0), (int 0), (int 0), (int 0)]]) ?_ ?_
    · rcases condE hj37 with ⟨hc39, hj37⟩ | ⟨hc39, hj37⟩
      · refine WP.condT rfl hc39 ?_
        refine WP.region ?_
        refine WL.valw (R.fieldB rfl fld36_1) ?_
        refine W.store (i := 0) [(boo r3.fNoStore), (boo true), (boo r3.fMustRevalidate), (boo r3.fProxyRevalidate), (boo r3.fPrivate), (boo r3.fPublic), (boo r3.fOnlyIfCached), (int r3.fMaxAge), (int r3.fSMaxAge), (int r3.fMinFresh), (int r3.fMaxStale)] S rfl rfl rfl lay4 rfl rfl (Nat.le_of_ble_eq_true rfl) rfl ?_
        intro w40 S
        refine WL.nil ?_
        obtain rfl := Option.some.inj hj37
        exact ⟨H30, rfl, rfl, S⟩
      · refine WP.condF rfl hc39 ?_
        refine WP.skip ?_
        obtain rfl := Option.some.inj hj37
        exact ⟨H30, rfl, rfl, S⟩
    · rintro f w ⟨H33, h34, h35, S⟩
      refine WP.seq ?_
      refine WP.region ?_
      refine WL.valw (R.loadBN (i := 0) (vs := [(boo r3.fNoStore), (boo m36), (boo r3.fMustRevalidate), (boo r3.fProxyRevalidate), (boo r3.fPrivate), (boo r3.fPublic), (boo r3.fOnlyIfCached), (int r3.fMaxAge), (int r3.fSMaxAge), (int r3.fMinFresh), (int r3.fMaxStale)]) S h35 rfl lay36 rfl rfl) ?_
      refine W.store (i := 1) [(boo r3.fNoStore), (boo m36), (boo r3.fMustRevalidate), (boo r3.fProxyRevalidate), (boo r3.fPrivate), (boo r3.fPublic), (boo r3.fOnlyIfCached), (int r3.fMaxAge), (int r3.fSMaxAge), (int r3.fMinFresh), (int r3.fMaxStale)] S h34 rfl rfl lay36 rfl rfl (Nat.le_of_ble_eq_true rfl) rfl ?_
      intro w41 S
      refine WL.nil ?_
      obtain rfl := Option.some.inj h
      refine WP.ret (Out.one rfl S (Res.cellB (i := 1) (cs := [(boo r3.fNoStore), (boo m36), (boo r3.fMustRevalidate), (boo r3.fProxyRevalidate), (boo r3.fPrivate), (boo r3.fPublic), (boo r3.fOnlyIfCached), (int r3.fMaxAge), (int r3.fSMaxAge), (int r3.fMinFresh), (int r3.fMaxStale)]) S h34 rfl lay36 rfl rfl) ?_)
      exact rfl
set_option maxRecDepth 10000 in
set_option maxHeartbeats 4000000 in
theorem vary_Names_ok {w0 : World} {H0 : Hp} (hw : Holds w0 H0) (p_l : (List GField)) {vp_l : Value} (Rp_l : Sl (α := GField) H0 vp_l p_l) {r : ((List Str) × Bool)} (h : vary_Names p_l = some r) :
    Con Tryz.prog 19 [vp_l] w0 H0 (fun H' v => ∃ u1 : Value, v = (.tuple ⟨[u1, (boo r.2)]⟩) ∧ Sl (α := Str) H' u1 r.1) := by
  refine Con.mk (N := 36) Tryz.func19 rfl rfl (by kernel_rfl) rfl ?_
  have S := St.start hw
  have Rp_l_0 := Rp_l
  refine WP.seq ?_
  refine WP.region ?_
  refine WL.valw (R.as (v := (.slice none 0 0)) rfl) ?_
  refine WL.valw (R.as (v := (boo false)) rfl) ?_
  refine WL.nil ?_
  refine WP.seq ?_
  refine WP.region ?_
  refine WL.valw (R.mv (v := vp_l) rfl) ?_
  obtain ⟨r1, hr1, h⟩ := bindE h
  refine W.call S rfl (list_All_ok S.holds p_l [86, 97, 114, 121] Rp_l hr1) ?_
  rintro v2 w3 H4 hle5 S R6
  have Rp_l := Sl.mono Rp_l hle5
  refine WL.valw (R.as (v := v2) rfl) ?_
  refine WL.nil ?_
  refine WP.seq ?_
  refine WP.seq ?_
  refine WP.region ?_
  refine WL.valw (R.mv (v := v2) rfl) ?_
  refine WL.valw (R.lenL (α := Str) (xs := r1) (H := H4) R6 rfl Tryz.underlying38) ?_
  refine WL.valw (R.geq rfl rfl) ?_
  refine WL.nil ?_
  rcases condE h with ⟨hc7, h⟩ | ⟨hc7, h⟩
  · refine WP.condT rfl hc7 ?_
    refine WP.seq ?_
    refine WP.region ?_
    refine WL.valw (R.as (v := (.slice none 0 0)) rfl) ?_
    refine WL.valw (R.as (v := (boo false)) rfl) ?_
    refine WL.nil ?_
    obtain rfl := Option.some.inj h
    refine WP.ret (Out.two rfl S rfl rfl ?_)
    exact ⟨_, rfl, Sl.nil⟩
  · refine WP.condF rfl hc7 ?_
    refine WP.skip ?_
    refine WP.seq ?_
    refine WP.region ?_
    refine WL.valw (R.as (v := (.slice none 0 0)) rfl) ?_
    refine WL.nil ?_
    refine WP.seq ?_
    refine WP.seq ?_
    refine WP.region ?_
    refine WL.valw (R.mv (v := v2) rfl) ?_
    refine WL.valw (R.lenL (α := Str) (xs := r1) (H := H4) R6 rfl Tryz.underlying38) ?_
    refine WL.valw (R.mv (v := (int 0)) rfl) ?_
    refine WL.nil ?_
    have S := S.addNil 9 1
    obtain ⟨r25, hr26, h⟩ := bindE h
    refine WP.cut (fun f w => match r25 with | .inl out_18 => ∃ (H17 : Hp) (v19 : Value), f 5 = v19 ∧ Sl (α := Str) H17 v19 out_18 ∧ St w0 H0 w H17 [.row v19 9 1 out_18.length] | .inr _ => False) ?_ ?_
    · refine WP.block ?_
      refine WP.loopM (vary_Names_L0 r1) (fun s f w => match s with | (out_9, y_15) => ∃ (H8 : Hp) (v10 : Value), f 5 = v10 ∧ f 13 = v2 ∧ f 14 = (int (r1.length : Int)) ∧ f 15 = (int y_15) ∧ Sl (α := Str) H8 v10 out_9 ∧ Sl (α := Str) H8 v2 r1 ∧ St w0 H0 w H8 [.row v10 9 1 out_9.length]) (([] : List Str), 0) r25 hr26 ?_ ?_
      · exact ⟨H4, .slice none 0 0, rfl, rfl, rfl, rfl, Sl.nil, R6, S⟩
      · intro s f w hI y22 hy23 hy24
        obtain ⟨out_9, y_15⟩ := s
        obtain ⟨H8, v10, h12, h13, h14, h16, R11, R6, S⟩ := hI
        refine WP.seq ?_
        refine WP.region ?_
        refine WL.valw (R.lss h16 h14) ?_
        refine WL.nil ?_
        refine WP.seq ?_
        rcases condE hy23 with ⟨hc27, hy23⟩ | ⟨hc27, hy23⟩
        · refine WP.condT rfl hc27 ?_
          refine WP.skip ?_
          refine WP.seq ?_
          refine WP.block ?_
          refine WP.seq ?_
          refine WP.region ?_
          obtain ⟨x28, hx28, hy23⟩ := bindE hy23
          refine W.idx (α := Str) R6 h13 h16 el38 hx28 ?_
          rintro a29 _ hA30 rfl
          refine WL.valw (R.loadH (v := (str x28)) S rfl hA30 lay9 rfl) ?_
          refine WL.valw (R.as (v := (str x28)) rfl) ?_
          refine WL.nil ?_
          refine WP.seq ?_
          refine WP.seq ?_
          refine WP.region ?_
          refine WL.valw (R.mv (v := (str x28)) rfl) ?_
          obtain ⟨r31, hr31, hy23⟩ := bindE hy23
          refine W.call S rfl (ascii_Token_ok S.holds x28 hr31) ?_
          rintro v32 w33 H34 hle35 S rfl
          have R11 := Sl.mono R11 hle35
          have R6 := Sl.mono R6 hle35
          have hA30 := At.mono hA30 hle35 (by simp)
          refine WL.valw (R.not rfl) ?_
          refine WL.valw (R.mv (v := (boo (!r31))) rfl) ?_
          refine WL.grp 3 [23, 24] 25 (boo ((!r31) || (x28 == [42]))) ?_ ?_
          · rcases boolE (!r31) with hb36 | hb36
            · refine WL.gno rfl rfl hb36 ?_
              refine WL.gno rfl rfl hb36 ?_
              refine WL.valw (R.pickT rfl hb36 rfl) ?_
              exact WL.nil ⟨(orT hb36), (by repeat (first | refine agree_upd rfl ?_ | refine agree_upds' rfl ?_ | exact agree_refl)), rfl⟩
            · refine WL.gyes rfl rfl hb36 ?_
              refine WL.valw (R.mv (v := (str x28)) rfl) ?_
              refine WL.gyes rfl rfl hb36 ?_
              refine WL.valw (R.eqlS (a := x28) (b := [42]) rfl rfl) ?_
              refine WL.valw (R.pickF rfl hb36 rfl) ?_
              exact WL.nil ⟨(orF hb36), (by repeat (first | refine agree_upd rfl ?_ | refine agree_upds' rfl ?_ | exact agree_refl)), rfl⟩
          · intro us
            refine WL.nil ?_
            rcases condE hy23 with ⟨hc38, hy23⟩ | ⟨hc38, hy23⟩
            · refine WP.condT rfl hc38 ?_
              refine WP.seq ?_
              refine WP.region ?_
              refine WL.valw (R.as (v := (.slice none 0 0)) rfl) ?_
              refine WL.valw (R.as (v := (boo false)) rfl) ?_
              refine WL.nil ?_
              obtain rfl := Option.some.inj hy23
              obtain rfl := hy24
              obtain rfl := Option.some.inj h
              refine WP.ret (Out.two rfl S rfl rfl ?_)
              exact ⟨_, rfl, Sl.nil⟩
            · refine WP.condF rfl hc38 ?_
              refine WP.skip ?_
              refine WP.region ?_
              refine WL.valw (R.mv (v := v10) h12) ?_
              refine WL.valw (R.mv (v := (str x28)) rfl) ?_
              obtain ⟨r39, hr39, hy23⟩ := bindE hy23
              refine W.call S rfl (ascii_Lower_ok S.holds x28 hr39) ?_
              rintro v40 w41 H42 hle43 S rfl
              have R11 := Sl.mono R11 hle43
              have R6 := Sl.mono R6 hle43
              have hA30 := At.mono hA30 hle43 (by simp)
              refine W.bslice (α := Str) [(str r39)] ([r39] : List Str) S el38 rfl rfl rfl (by decide) (Go.Eng.encS ⟨rfl, rfl⟩ enc0) ?_
              intro u44 w45 H46 hle47 R48 S
              have R11 := Sl.mono R11 hle47
              have R6 := Sl.mono R6 hle47
              have hA30 := At.mono hA30 hle47 (by simp)
              obtain ⟨l49, hl49, hy23⟩ := bindE hy23
              refine W.app (α := Str) (i := 1) S el38 rfl rfl rfl R11 R48 hl49 ?_
              intro v50 w51 H52 hle53 R54 S
              have R11 := Sl.mono R11 hle53
              have R6 := Sl.mono R6 hle53
              have hA30 := At.mono hA30 hle53 (by simp)
              have R48 := Sl.mono R48 hle53
              refine WL.valw (R.as (v := v50) rfl) ?_
              refine WL.nil ?_
              refine WP.region ?_
              refine WL.valw (R.add h16 rfl) ?_
              refine WL.valw (R.mv (v := (int (wr (y_15 + 1)))) rfl) ?_
              refine WL.nil ?_
              obtain rfl := Option.some.inj hy23
              exact ⟨rfl, ⟨H52, v50, rfl, h13, h14, rfl, R54, R6, (S.drop _ (.cons _ (.cons_cons _ .slnil)))⟩⟩
        · refine WP.condF rfl hc27 ?_
          refine WP.exit ?_
          obtain rfl := Option.some.inj hy23
          obtain rfl := hy24
          exact ⟨H8, v10, h12, R11, S⟩
    · intro f w hM
      rcases r25 with out_18 | e
      · obtain ⟨H17, v19, h21, R20, S⟩ := hM
        refine WP.seq ?_
        refine WP.region ?_
        refine WL.valw (R.mv (v := v19) h21) ?_
        obtain ⟨l55, hl55, h⟩ := bindE h
        refine W.sortRow (i := 0) slices_Sort_string_con hw S rfl rfl R20 hl55 ?_
        intro w57 H58 hle59 R60 S
        refine WL.nil ?_
        refine WP.seq ?_
        refine WP.region ?_
        refine WL.valw (R.mv (v := v19) h21) ?_
        obtain ⟨l61, hl61, h⟩ := bindE h
        refine W.compactRow (i := 0) slices_Compact_string_con hw S rfl rfl R60 hl61 ?_
        intro v62 w63 H64 hle65 R66 S
        refine WL.valw (R.as (v := v62) rfl) ?_
        refine WL.valw (R.as (v := (boo true)) rfl) ?_
        refine WL.nil ?_
        obtain rfl := Option.some.inj h
        refine WP.ret (Out.two rfl S rfl rfl ?_)
        exact ⟨_, rfl, R66⟩
      · exact hM.elim
set_option maxRecDepth 10000 in
set_option maxHeartbeats 4000000 in
theorem fieldline_First_ok {w0 : World} {H0 : Hp} (hw : Holds w0 H0) (p_l : (List GField)) (p_name : Str) {vp_l : Value} (Rp_l : Sl (α := GField) H0 vp_l p_l) {r : (Str × Bool)} (h : fieldline_First p_l p_name = some r) :
    Con Tryz.prog 27 [vp_l, (str p_name)] w0 H0 (fun H' v => v = (.tuple ⟨[(str r.1), (boo r.2)]⟩)) := by
  refine Con.mk (N := 16) Tryz.func27 rfl rfl (by kernel_rfl) rfl ?_
  have S := St.start hw
  refine WP.seq ?_
  refine WP.region ?_
  refine WL.valw (R.as (v := (str [])) rfl) ?_
  refine WL.valw (R.as (v := (boo false)) rfl) ?_
  refine WL.nil ?_
  refine WP.seq ?_
  refine WP.region ?_
  refine WL.valw (R.mv (v := vp_l) rfl) ?_
  refine WL.valw (R.mv (v := (str p_name)) rfl) ?_
  obtain ⟨r1, hr1, h⟩ := bindE h
  refine W.call S rfl (fieldline_Get_ok S.holds p_l p_name Rp_l hr1) ?_
  rintro v2 w3 H4 hle5 S R6
  have Rp_l := Sl.mono Rp_l hle5
  refine WL.valw (R.as (v := v2) rfl) ?_
  refine WL.nil ?_
  refine WP.seq ?_
  refine WP.seq ?_
  refine WP.region ?_
  refine WL.valw (R.mv (v := v2) rfl) ?_
  refine WL.valw (R.lenL (α := Str) (xs := r1) (H := H4) R6 rfl Tryz.underlying38) ?_
  refine WL.valw (R.eql rfl rfl) ?_
  refine WL.nil ?_
  rcases condE h with ⟨hc7, h⟩ | ⟨hc7, h⟩
  · refine WP.condT rfl hc7 ?_
    refine WP.seq ?_
    refine WP.region ?_
    refine WL.valw (R.as (v := (str [])) rfl) ?_
    refine WL.valw (R.as (v := (boo false)) rfl) ?_
    refine WL.nil ?_
    obtain rfl := Option.some.inj h
    refine WP.ret (Out.two rfl S rfl rfl ?_)
    exact rfl
  · refine WP.condF rfl hc7 ?_
    refine WP.skip ?_
    refine WP.seq ?_
    refine WP.region ?_
    refine WL.valw (R.mv (v := v2) rfl) ?_
    obtain ⟨x8, hx8, h⟩ := bindE h
    refine W.idx (α := Str) R6 rfl rfl el38 hx8 ?_
    rintro a9 _ hA10 rfl
    refine WL.valw (R.loadH (v := (str x8)) S rfl hA10 lay9 rfl) ?_
    refine WL.valw (R.as (v := (str x8)) rfl) ?_
    refine WL.valw (R.as (v := (boo true)) rfl) ?_
    refine WL.nil ?_
    obtain rfl := Option.some.inj h
    refine WP.ret (Out.two rfl S rfl rfl ?_)
    exact rfl
set_option maxRecDepth 10000 in
set_option maxHeartbeats 4000000 in
theorem date_index_ok {w0 : World} {H0 : Hp} (hw : Holds w0 H0) (p_n : Int) (p_name : (Int → Option Str)) (p_s : Str) {kp_name : FuncId} {cp_name : List Value} (Fp_name : ∀ {w : World} {H : Hp}, H0.le H → Holds w H → ∀ (x0 : Int) (rr : Str), p_name x0 = some rr → Con Tryz.prog kp_name ([(int x0)] ++ cp_name) w H (fun H' v => v = (str rr))) {r : Int} (h : date_index p_n p_name p_s = some r) :
    Con Tryz.prog 55 [(int p_n), (.func (.func kp_name) #[] cp_name.toArray), (str p_s)] w0 H0 (fun H' v => v = (int r)) := by
  refine Con.mk (N := 19) Tryz.func55 rfl rfl (by kernel_rfl) rfl ?_
  have S := St.start hw
  refine WP.seq ?_
  refine WP.region ?_
  refine WL.valw (R.as (v := (int 0)) rfl) ?_
  refine WL.nil ?_
  refine WP.seq ?_
  refine WP.seq ?_
  refine WP.region ?_
  refine WL.valw (R.mv (v := (int p_n)) rfl) ?_
  refine WL.valw (R.mv (v := (int 0)) rfl) ?_
  refine WL.nil ?_
  obtain ⟨r11, hr12, h⟩ := bindE h
  refine WP.cut (fun f w => match r11 with | .inl _ => ∃ (H7 : Hp), St w0 H0 w H7 [] | .inr _ => False) ?_ ?_
  · refine WP.block ?_
    refine WP.loopM (date_index_L0 p_n p_name p_s) (fun s f w => match s with | y_5 => ∃ (H1 : Hp), f 1 = (.func (.func kp_name) #[] cp_name.toArray) ∧ f 2 = (str p_s) ∧ f 8 = (int p_n) ∧ f 9 = (int y_5) ∧ St w0 H0 w H1 []) 0 r11 hr12 ?_ ?_
    · exact ⟨H0, rfl, rfl, rfl, rfl, S⟩
    · intro y_5 f w hI y8 hy9 hy10
      obtain ⟨H1, h2, h3, h4, h6, S⟩ := hI
      refine WP.seq ?_
      refine WP.region ?_
      refine WL.valw (R.lss h6 h4) ?_
      refine WL.nil ?_
      refine WP.seq ?_
      rcases condE hy9 with ⟨hc13, hy9⟩ | ⟨hc13, hy9⟩
      · refine WP.condT rfl hc13 ?_
        refine WP.skip ?_
        refine WP.seq ?_
        refine WP.block ?_
        refine WP.seq ?_
        refine WP.region ?_
        refine WL.valw (R.mv (v := (int y_5)) h6) ?_
        refine WL.valw (R.as (v := (int y_5)) rfl) ?_
        refine WL.nil ?_
        refine WP.seq ?_
        refine WP.region ?_
        refine WL.valw (R.mv (v := (.func (.func kp_name) #[] cp_name.toArray)) h2) ?_
        refine WL.valw (R.mv (v := (int y_5)) rfl) ?_
        obtain ⟨r14, hr14, hy9⟩ := bindE hy9
        refine W.callv S rfl rfl (Fp_name (S.post.le) S.holds y_5 _ hr14) ?_
        rintro v15 w16 H17 hle18 S rfl
        refine WL.valw (R.mv (v := (str p_s)) h3) ?_
        refine WL.valw (R.eqlS (a := r14) (b := p_s) rfl rfl) ?_
        refine WL.nil ?_
        rcases condE hy9 with ⟨hc19, hy9⟩ | ⟨hc19, hy9⟩
        · refine WP.condT rfl hc19 ?_
          refine WP.seq ?_
          refine WP.region ?_
          refine WL.valw (R.mv (v := (int y_5)) rfl) ?_
          refine WL.valw (R.as (v := (int y_5)) rfl) ?_
          refine WL.nil ?_
          obtain rfl := Option.some.inj hy9
          obtain rfl := hy10
          obtain rfl := Option.some.inj h
          refine WP.ret (Out.one rfl S rfl ?_)
          exact rfl
        · refine WP.condF rfl hc19 ?_
          refine WP.skip ?_
          refine WP.region ?_
          refine WL.valw (R.add h6 rfl) ?_
          refine WL.valw (R.mv (v := (int (wr (y_5 + 1)))) rfl) ?_
          refine WL.nil ?_
          obtain rfl := Option.some.inj hy9
          exact ⟨rfl, ⟨H17, h2, h3, h4, rfl, S⟩⟩
      · refine WP.condF rfl hc13 ?_
        refine WP.exit ?_
        obtain rfl := Option.some.inj hy9
        obtain rfl := hy10
        exact ⟨H1, S⟩
  · intro f w hM
    rcases r11 with _ | e
    · obtain ⟨H7, S⟩ := hM
      refine WP.seq ?_
      refine WP.region ?_
      refine WL.valw (R.as (v := (int (-1))) rfl) ?_
      refine WL.nil ?_
      obtain rfl := Option.some.inj h
      refine WP.ret (Out.one rfl S rfl ?_)
      exact rfl
    · exact hM.elim
set_option maxRecDepth 10000 in
set_option maxHeartbeats 4000000 in
theorem date_monthName_ok {w0 : World} {H0 : Hp} (hw : Holds w0 H0) (p_i : Int) {r : Str} (h : date_monthName p_i = some r) :
    Con Tryz.prog 56 [(int p_i)] w0 H0 (fun H' v => v = (str r)) := by
  refine Con.mk (N := 6) Tryz.func56 rfl rfl (by kernel_rfl) rfl ?_
  have S := St.start hw
  refine WP.seq ?_
  refine WP.region ?_
  refine WL.valw (R.as (v := (str [])) rfl) ?_
  refine WL.nil ?_
  refine WP.seq ?_
  refine WP.region ?_
  refine WL.valw (R.buildArr [(0, (str [74, 97, 110])), (1, (str [70, 101, 98])), (2, (str [77, 97, 114])), (3, (str [65, 112, 114])), (4, (str [77, 97, 121])), (5, (str [74, 117, 110])), (6, (str [74, 117, 108])), (7, (str [65, 117, 103])), (8, (str [83, 101, 112])), (9, (str [79, 99, 116])), (10, (str [78, 111, 118])), (11, (str [68, 101, 99]))] [(str [74, 97, 110]), (str [70, 101, 98]), (str [77, 97, 114]), (str [65, 112, 114]), (str [77, 97, 121]), (str [74, 117, 110]), (str [74, 117, 108]), (str [65, 117, 103]), (str [83, 101, 112]), (str [79, 99, 116]), (str [78, 111, 118]), (str [68, 101, 99])] Tryz.underlying91 lay9 zer91 rfl rfl) ?_
  refine WL.valw (R.mv (v := (int p_i)) rfl) ?_
  obtain ⟨s1, hs1, h⟩ := bindE h
  refine WL.valw (R.idxA str (l := ([[74, 97, 110], [70, 101, 98], [77, 97, 114], [65, 112, 114], [77, 97, 121], [74, 117, 110], [74, 117, 108], [65, 117, 103], [83, 101, 112], [79, 99, 116], [78, 111, 118], [68, 101, 99]] : List Str)) rfl rfl Tryz.underlying91 lay9 rfl hs1) ?_
  refine WL.valw (R.as (v := (str s1)) rfl) ?_
  refine WL.nil ?_
  obtain rfl := Option.some.inj h
  refine WP.ret (Out.one rfl S rfl ?_)
  exact rfl
set_option maxRecDepth 10000 in
set_option maxHeartbeats 4000000 in
theorem date_leap_ok {w0 : World} {H0 : Hp} (hw : Holds w0 H0) (p_year : Int) {r : Bool} (h : date_leap p_year = some r) :
    Con Tryz.prog 99 [(int p_year)] w0 H0 (fun H' v => v = (boo r)) := by
  refine Con.mk (N := 16) Tryz.func99 rfl rfl (by kernel_rfl) rfl ?_
  have S := St.start hw
  refine WP.seq ?_
  refine WP.region ?_
  refine WL.valw (R.as (v := (boo false)) rfl) ?_
  refine WL.nil ?_
  refine WP.seq ?_
  refine WP.region ?_
  refine WL.valw (R.mv (v := (int p_year)) rfl) ?_
  obtain ⟨n1, hn1, h⟩ := bindE h
  refine WL.valw (R.rem' rfl rfl hn1) ?_
  refine WL.valw (R.eql rfl rfl) ?_
  refine WL.valw (R.mv (v := (boo (n1 == 0))) rfl) ?_
  obtain ⟨b9, hg3, h⟩ := bindE h
  refine WL.grp 9 [7, 8, 9, 10, 11, 12, 13, 14] 15 (boo b9) ?_ ?_
  · rcases boolE (n1 == 0) with hb2 | hb2
    · replace hg3 := condT hg3 hb2
      refine WL.gyes rfl rfl hb2 ?_
      refine WL.valw (R.mv (v := (int p_year)) rfl) ?_
      refine WL.gyes rfl rfl hb2 ?_
      obtain ⟨n4, hn4, hg3⟩ := bindE hg3
      refine WL.valw (R.rem' rfl rfl hn4) ?_
      refine WL.gyes rfl rfl hb2 ?_
      refine WL.valw (R.neq rfl rfl) ?_
      refine WL.gyes rfl rfl hb2 ?_
      refine WL.valw (R.mv (v := (boo (n4 != 0))) rfl) ?_
      obtain ⟨b8, hg6, hg3⟩ := bindE hg3
      refine WL.grp 4 [11, 12, 13] 14 (boo b8) ?_ ?_
      · rcases boolE (n4 != 0) with hb5 | hb5
        · replace hg6 := condT hg6 hb5
          refine WL.gno rfl rfl hb5 ?_
          refine WL.gno rfl rfl hb5 ?_
          refine WL.gno rfl rfl hb5 ?_
          refine WL.gyes rfl rfl hb2 ?_
          refine WL.valw (R.pickT rfl hb5 rfl) ?_
          exact WL.nil ⟨(congrArg boo (Option.some.inj hg6)), (by repeat (first | refine agree_upd rfl ?_ | refine agree_upds' rfl ?_ | exact agree_refl)), rfl⟩
        · replace hg6 := condF hg6 hb5
          refine WL.gyes rfl rfl hb5 ?_
          refine WL.valw (R.mv (v := (int p_year)) rfl) ?_
          refine WL.gyes rfl rfl hb5 ?_
          obtain ⟨n7, hn7, hg6⟩ := bindE hg6
          refine WL.valw (R.rem' rfl rfl hn7) ?_
          refine WL.gyes rfl rfl hb5 ?_
          refine WL.valw (R.eql rfl rfl) ?_
          refine WL.gyes rfl rfl hb2 ?_
          refine WL.valw (R.pickF rfl hb5 rfl) ?_
          exact WL.nil ⟨(congrArg boo (Option.some.inj hg6)), (by repeat (first | refine agree_upd rfl ?_ | refine agree_upds' rfl ?_ | exact agree_refl)), rfl⟩
      · intro us
        refine WL.valw (R.pickT rfl hb2 rfl) ?_
        exact WL.nil ⟨(congrArg boo (Option.some.inj hg3)), (by repeat (first | refine agree_upd rfl ?_ | refine agree_upds' rfl ?_ | exact agree_refl)), rfl⟩
    · replace hg3 := condF hg3 hb2
      refine WL.gno rfl rfl hb2 ?_
      refine WL.gno rfl rfl hb2 ?_
      refine WL.gno rfl rfl hb2 ?_
      refine WL.gno rfl rfl hb2 ?_
      refine WL.gund rfl rfl ?_
      refine WL.gund rfl rfl ?_
      refine WL.gund rfl rfl ?_
      refine WL.gno rfl rfl hb2 ?_
      refine WL.valw (R.pickF rfl hb2 rfl) ?_
      exact WL.nil ⟨(congrArg boo (Option.some.inj hg3)), (by repeat (first | refine agree_upd rfl ?_ | refine agree_upds' rfl ?_ | exact agree_refl)), rfl⟩
  · intro us
    refine WL.valw (R.as (v := (boo b9)) rfl) ?_
    refine WL.nil ?_
    obtain rfl := Option.some.inj h
    refine WP.ret (Out.one rfl S rfl ?_)
    exact rfl
set_option maxRecDepth 10000 in
set_option maxHeartbeats 4000000 in
theorem date_length_ok {w0 : World} {H0 : Hp} (hw : Holds w0 H0) (p_year : Int) (p_month : Int) {r : Int} (h : date_length p_year p_month = some r) :
    Con Tryz.prog 75 [(int p_year), (int p_month)] w0 H0 (fun H' v => v = (int r)) := by
  refine Con.mk (N := 15) Tryz.func75 rfl rfl (by kernel_rfl) rfl ?_
  have S := St.start hw
  refine WP.seq ?_
  refine WP.region ?_
  refine WL.valw (R.as (v := (int 0)) rfl) ?_
  refine WL.nil ?_
  refine WP.seq ?_
  refine WP.seq ?_
  refine WP.region ?_
  refine WL.valw (R.mv (v := (int p_month)) rfl) ?_
  refine WL.valw (R.eql rfl rfl) ?_
  refine WL.valw (R.mv (v := (boo (p_month == 2))) rfl) ?_
  obtain ⟨b8, hg2, h⟩ := bindE h
  refine WL.grpw 3 [8, 9] 10 (boo b8) (fun w => ∃ H' : Hp, H0.le H' ∧ St w0 H0 w H' []) ?_ ?_
  · rcases boolE (p_month == 2) with hb1 | hb1
    · replace hg2 := condT hg2 hb1
      refine WL.gyes rfl rfl hb1 ?_
      refine WL.valw (R.mv (v := (int p_year)) rfl) ?_
      refine WL.gyes rfl rfl hb1 ?_
      obtain ⟨r3, hr3, hg2⟩ := bindE hg2
      refine W.call S rfl (date_leap_ok S.holds p_year hr3) ?_
      rintro v4 w5 H6 hle7 S rfl
      refine WL.valw (R.pickT rfl hb1 rfl) ?_
      exact WL.nil ⟨(congrArg boo (Option.some.inj hg2)), (by repeat (first | refine agree_upd rfl ?_ | refine agree_upds' rfl ?_ | exact agree_refl)), ⟨H6, hle7, S⟩⟩
    · replace hg2 := condF hg2 hb1
      refine WL.gno rfl rfl hb1 ?_
      refine WL.gno rfl rfl hb1 ?_
      refine WL.valw (R.pickF rfl hb1 rfl) ?_
      exact WL.nil ⟨(congrArg boo (Option.some.inj hg2)), (by repeat (first | refine agree_upd rfl ?_ | refine agree_upds' rfl ?_ | exact agree_refl)), ⟨H0, (Hp.le.refl _), S⟩⟩
  · intro us w10 ⟨H9, hle11, S⟩
    refine WL.nil ?_
    rcases condE h with ⟨hc12, h⟩ | ⟨hc12, h⟩
    · refine WP.condT rfl hc12 ?_
      refine WP.seq ?_
      refine WP.region ?_
      refine WL.valw (R.as (v := (int 29)) rfl) ?_
      refine WL.nil ?_
      obtain rfl := Option.some.inj h
      refine WP.ret (Out.one rfl S rfl ?_)
      exact rfl
    · refine WP.condF rfl hc12 ?_
      refine WP.skip ?_
      refine WP.seq ?_
      refine WP.region ?_
      refine WL.valw (R.buildArr [(0, (int 31)), (1, (int 28)), (2, (int 31)), (3, (int 30)), (4, (int 31)), (5, (int 30)), (6, (int 31)), (7, (int 31)), (8, (int 30)), (9, (int 31)), (10, (int 30)), (11, (int 31))] [(int 31), (int 28), (int 31), (int 30), (int 31), (int 30), (int 31), (int 31), (int 30), (int 31), (int 30), (int 31)] Tryz.underlying110 lay3 zer110 rfl rfl) ?_
      refine WL.valw (R.mv (v := (int p_month)) rfl) ?_
      refine WL.valw (R.sub rfl rfl) ?_
      obtain ⟨n13, hn13, h⟩ := bindE h
      refine WL.valw (R.idxA int (l := ([31, 28, 31, 30, 31, 30, 31, 31, 30, 31, 30, 31] : List Int)) rfl rfl Tryz.underlying110 lay3 rfl hn13) ?_
      refine WL.valw (R.as (v := (int n13)) rfl) ?_
      refine WL.nil ?_
      obtain rfl := Option.some.inj h
      refine WP.ret (Out.one rfl S rfl ?_)
      exact rfl
set_option maxRecDepth 10000 in
set_option maxHeartbeats 4000000 in
theorem date_before_ok {w0 : World} {H0 : Hp} (hw : Holds w0 H0) (p_year : Int) {r : Int} (h : date_before p_year = some r) :
    Con Tryz.prog 76 [(int p_year)] w0 H0 (fun H' v => v = (int r)) := by
  refine Con.mk (N := 17) Tryz.func76 rfl rfl (by kernel_rfl) rfl ?_
  have S := St.start hw
  refine WP.seq ?_
  refine WP.region ?_
  refine WL.valw (R.as (v := (int 0)) rfl) ?_
  refine WL.nil ?_
  refine WP.seq ?_
  refine WP.region ?_
  refine WL.valw (R.mv (v := (int p_year)) rfl) ?_
  refine WL.valw (R.sub rfl rfl) ?_
  refine WL.valw (R.as (v := (int (wr (p_year - 1)))) rfl) ?_
  refine WL.nil ?_
  refine WP.seq ?_
  refine WP.region ?_
  refine WL.valw (R.mv (v := (int (wr (p_year - 1)))) rfl) ?_
  refine WL.valw (R.mul rfl rfl) ?_
  refine WL.valw (R.mv (v := (int (wr (p_year - 1)))) rfl) ?_
  obtain ⟨n1, hn1, h⟩ := bindE h
  refine WL.valw (R.quo' rfl rfl hn1) ?_
  refine WL.valw (R.add rfl rfl) ?_
  refine WL.valw (R.mv (v := (int (wr (p_year - 1)))) rfl) ?_
  obtain ⟨n2, hn2, h⟩ := bindE h
  refine WL.valw (R.quo' rfl rfl hn2) ?_
  refine WL.valw (R.sub rfl rfl) ?_
  refine WL.valw (R.mv (v := (int (wr (p_year - 1)))) rfl) ?_
  obtain ⟨n3, hn3, h⟩ := bindE h
  refine WL.valw (R.quo' rfl rfl hn3) ?_
  refine WL.valw (R.add rfl rfl) ?_
  refine WL.valw (R.as (v := (int (wr ((wr ((wr ((wr (365 * (wr (p_year - 1)))) + n1)) - n2)) + n3)))) rfl) ?_
  refine WL.nil ?_
  obtain rfl := Option.some.inj h
  refine WP.ret (Out.one rfl S rfl ?_)
  exact rfl
end Go.Proofs
