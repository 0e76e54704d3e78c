/- A part of the proof of laws of the seat: written by program over the translation. -/
import Derived.Test.YtogfdiigokidaaaGreatDoorGenJ12
namespace Go.Proofs
open Go.Eng Go.Eng.Pure
set_option linter.unusedVariables false
set_option maxRecDepth 10000 in
set_option maxHeartbeats 4000000 in
theorem entry_respond_ok {w0 : World} {H0 : Hp} (hw : Holds w0 H0) (hG : Tryz.Gl w0) (p_e : GEntry) (p_age : Int) (p_name : Str) {vp_e0 : Value} {vp_e1 : Value} {vp_e2 : Value} {vp_e4 : Value} (Rp_e0 : Sl (α := (List Str)) H0 vp_e0 p_e.fKeys) (Rp_e1 : Sl (α := Str) H0 vp_e1 p_e.fVary) (Rp_e2 : Sl (α := Str) H0 vp_e2 p_e.fSnapshot) (Rp_e4 : Sl (α := GField) H0 vp_e4 p_e.fFields) {r : GResponse} (h : entry_respond p_e p_age p_name = some r) :
    Con Tryz.prog 31 [(agg [vp_e0, vp_e1, vp_e2, (str p_e.fReason), vp_e4, (str p_e.fBody), (int p_e.fRequested), (int p_e.fReceived)]), (int p_age), (str p_name)] w0 H0 (fun H' v => ∃ u1 : Value, v = (agg [(int r.fMinor), (int r.fStatus), (str r.fReason), u1, (str r.fBody)]) ∧ Sl (α := GField) H' u1 r.fFields) := by
  refine Con.mk (N := 24) Tryz.func31 rfl rfl (by kernel_rfl) rfl ?_
  have S := St.start hw
  refine WP.seq ?_
  refine WP.region ?_
  refine W.box [vp_e0, vp_e1, vp_e2, (str p_e.fReason), vp_e4, (str p_e.fBody), (int p_e.fRequested), (int p_e.fReceived)] S rfl rfl ?_
  intro b1 w2 S
  refine W.alloc [(int 0), (int 0), (str []), (.slice none 0 0), (str [])] S zer30 ?_
  intro b3 w4 S
  refine WL.nil ?_
  refine WP.seq ?_
  refine WP.region ?_
  refine WL.valw (R.fieldB rfl fld26_4) ?_
  refine WL.valw (R.loadB (i := 1) (v := vp_e4) S rfl rfl lay24 rfl) ?_
  obtain ⟨r5, hr5, h⟩ := bindE h
  refine W.callS rfl (fieldline_Remove_okR hG p_e.fFields [65, 103, 101] S Rp_e4 hr5) ?_
  rintro v6 w7 H8 L12 hle9 S ⟨_, rfl, rfl, R11⟩
  replace S : St w0 H0 _ H8 [.row v6 53 2 r5.length, .box b3 30 [(int 0), (int 0), (str []), (.slice none 0 0), (str [])], .box b1 26 [vp_e0, vp_e1, vp_e2, (str p_e.fReason), vp_e4, (str p_e.fBody), (int p_e.fRequested), (int p_e.fReceived)]] := S
  have Rp_e0 := Sl.mono Rp_e0 hle9
  have Rp_e1 := Sl.mono Rp_e1 hle9
  have Rp_e2 := Sl.mono Rp_e2 hle9
  have Rp_e4 := Sl.mono Rp_e4 hle9
  refine WL.valw (R.mv (v := (int p_age)) rfl) ?_
  obtain ⟨r13, hr13, h⟩ := bindE h
  refine W.call S rfl (ascii_Decimal_ok S.holds (hG.post S.post) p_age hr13) ?_
  rintro v14 w15 H16 hle17 S rfl
  have Rp_e0 := Sl.mono Rp_e0 hle17
  have Rp_e1 := Sl.mono Rp_e1 hle17
  have Rp_e2 := Sl.mono Rp_e2 hle17
  have Rp_e4 := Sl.mono Rp_e4 hle17
  have R11 := Sl.mono R11 hle17
  refine WL.valw (R.build [(0, (str [65, 103, 101])), (1, (str r13))] [(str [65, 103, 101]), (str r13)] bp53 zer53 rfl rfl) ?_
  refine W.bslice (α := GField) [(agg [(str [65, 103, 101]), (str r13)])] ([(⟨[65, 103, 101], r13⟩ : GField)] : List GField) S el24 rfl rfl rfl (by decide) (Go.Eng.encS ⟨rfl, rfl⟩ enc0) ?_
  intro u18 w19 H20 hle21 R22 S
  have Rp_e0 := Sl.mono Rp_e0 hle21
  have Rp_e1 := Sl.mono Rp_e1 hle21
  have Rp_e2 := Sl.mono Rp_e2 hle21
  have Rp_e4 := Sl.mono Rp_e4 hle21
  have R11 := Sl.mono R11 hle21
  obtain ⟨l23, hl23, h⟩ := bindE h
  refine W.app (α := GField) (i := 1) S el24 rfl rfl rfl R11 R22 hl23 ?_
  intro v24 w25 H26 hle27 R28 S
  have Rp_e0 := Sl.mono Rp_e0 hle27
  have Rp_e1 := Sl.mono Rp_e1 hle27
  have Rp_e2 := Sl.mono Rp_e2 hle27
  have Rp_e4 := Sl.mono Rp_e4 hle27
  have R11 := Sl.mono R11 hle27
  have R22 := Sl.mono R22 hle27
  refine WL.valw (R.as (v := v24) rfl) ?_
  refine WL.nil ?_
  refine WP.seq ?_
  obtain ⟨r29, hr29, h⟩ := bindE h
  refine WP.cut (fun f w => ∃ (H36 : Hp) (v38 : Value), f 6 = (ptr b3 0) ∧ Sl (α := GField) H36 v38 r29 ∧ St w0 H0 w H36 [.box b3 30 [(int 1), (int 200), (str p_e.fReason), v38, (str p_e.fBody)]]) ?_ ?_
  · refine WP.drawC (Cl w0 H0 H26 [.box b1 26 [vp_e0, vp_e1, vp_e2, (str p_e.fReason), vp_e4, (str p_e.fBody), (int p_e.fRequested), (int p_e.fReceived)]]) (by kernel_rfl) 9 rfl #[false, false, false, false, false, false, false, false, false] rfl ?_
    have S := S.drew
    refine WC.take (i := 0) #[true, false, false, false, false, false, false, false, false] rfl (by kernel_rfl) (by kernel_rfl) (by kernel_rfl) rfl (fun _ _ => (R.fieldB rfl fld26_3)) ?_
    refine WC.take (i := 1) #[true, true, false, false, false, false, false, false, false] rfl (by kernel_rfl) (by kernel_rfl) (by kernel_rfl) rfl (fun w hw => by obtain ⟨_, hq, S⟩ := hw; exact (R.loadB (i := 0) (v := (str p_e.fReason)) S rfl rfl lay9 rfl)) ?_
    refine WC.take (i := 2) #[true, true, true, false, false, false, false, false, false] rfl (by kernel_rfl) (by kernel_rfl) (by kernel_rfl) rfl (fun _ _ => (R.mv (v := v24) rfl)) ?_
    refine WC.take (i := 3) #[true, true, true, true, false, false, false, false, false] rfl (by kernel_rfl) (by kernel_rfl) (by kernel_rfl) rfl (fun _ _ => (R.mv (v := (str p_name)) rfl)) ?_
    refine WC.take (i := 5) #[true, true, true, true, false, true, false, false, false] rfl (by kernel_rfl) (by kernel_rfl) (by kernel_rfl) rfl (fun _ _ => (R.fieldB rfl fld26_5)) ?_
    refine WC.take (i := 6) #[true, true, true, true, false, true, true, false, false] rfl (by kernel_rfl) (by kernel_rfl) (by kernel_rfl) rfl (fun w hw => by obtain ⟨_, hq, S⟩ := hw; exact (R.loadB (i := 0) (v := (str p_e.fBody)) S rfl rfl lay9 rfl)) ?_
    refine WC.next (rs := [4]) ⟨H26, (Hp.le.refl _), S.drop _ (.cons _ (.cons _ (.cons _ (.cons_cons _ .slnil))))⟩ (by kernel_rfl) (List.cons_ne_nil _ _) (all1 ?_)
    refine Nxt.mk (o := _) #[true, true, true, true, true, true, true, false, false] rfl rfl ?_
    refine W.call S rfl (hop_Via_ok S.holds (hG.post S.post) l23 1 p_name R28 hr29) ?_
    rintro v40 w41 H42 hle43 S R44
    have Rp_e0 := Sl.mono Rp_e0 hle43
    have Rp_e1 := Sl.mono Rp_e1 hle43
    have Rp_e2 := Sl.mono Rp_e2 hle43
    have Rp_e4 := Sl.mono Rp_e4 hle43
    have R11 := Sl.mono R11 hle43
    have R22 := Sl.mono R22 hle43
    have R28 := Sl.mono R28 hle43
    refine WL.nil ?_
    refine WC.take (i := 7) #[true, true, true, true, true, true, true, true, false] rfl (by kernel_rfl) (by kernel_rfl) (by kernel_rfl) rfl (fun _ _ => (R.build [(0, (int 1)), (1, (int 200)), (2, (str p_e.fReason)), (3, v40), (4, (str p_e.fBody))] [(int 1), (int 200), (str p_e.fReason), v40, (str p_e.fBody)] bp30 zer30 (by kernel_rfl) (by obtain ⟨_, _, rfl, _⟩ := R44; rfl))) ?_
    refine WC.next (rs := [8]) ⟨H42, hle43, S.drop _ (.cons _ (.cons _ (.cons _ (.cons_cons _ .slnil))))⟩ (by kernel_rfl) (List.cons_ne_nil _ _) (all1 ?_)
    refine Nxt.mk (o := _) #[true, true, true, true, true, true, true, true, true] rfl rfl ?_
    refine W.store (i := 2) [(int 1), (int 200), (str p_e.fReason), v40, (str p_e.fBody)] S rfl rfl rfl lay30 rfl (AllOne.all (l := [(int 1), (int 200), (str p_e.fReason), v40, (str p_e.fBody)]) (.cons rfl (.cons rfl (.cons rfl (.cons (Sl.oneC R44) (.cons rfl .nil)))))) (Nat.le_of_ble_eq_true rfl) rfl ?_
    intro w45 S
    refine WL.nil ?_
    refine WC.done ⟨H42, hle43, S.drop _ (.cons _ (.cons _ (.cons _ (.cons_cons _ .slnil))))⟩ (by kernel_rfl) ?_
    have S3 := S
    replace S3 := S3.front 2 rfl
    replace S3 : St w0 H0 _ H42 [.box b3 30 [(int 1), (int 200), (str p_e.fReason), v40, (str p_e.fBody)], .row u18 53 2 ([(⟨[65, 103, 101], r13⟩ : GField)] : List GField).length, .row v24 53 2 l23.length, .box b1 26 [vp_e0, vp_e1, vp_e2, (str p_e.fReason), vp_e4, (str p_e.fBody), (int p_e.fRequested), (int p_e.fReceived)]] := S3
    replace S3 : St w0 H0 _ H42 [.box b3 30 [(int 1), (int 200), (str p_e.fReason), v40, (str p_e.fBody)]] := S3.drop _ (.cons_cons _ (.cons _ (.cons _ (.cons _ .slnil))))
    exact ⟨H42, v40, rfl, R44, S3⟩
  · rintro f w ⟨H36, v38, h37, R39, S⟩
    obtain rfl := Option.some.inj h
    refine WP.ret (Out.one rfl S (Res.cellB (i := 0) (cs := [(int 1), (int 200), (str p_e.fReason), v38, (str p_e.fBody)]) S h37 rfl lay30 rfl rfl) ?_)
    exact ⟨_, rfl, R39⟩
set_option maxRecDepth 10000 in
set_option maxHeartbeats 4000000 in
theorem entry_Response_ok {w0 : World} {H0 : Hp} (hw : Holds w0 H0) (hG : Tryz.Gl w0) (p_e : GEntry) (p_now : Int) (p_name : Str) {vp_e0 : Value} {vp_e1 : Value} {vp_e2 : Value} {vp_e4 : Value} (Rp_e0 : Sl (α := (List Str)) H0 vp_e0 p_e.fKeys) (Rp_e1 : Sl (α := Str) H0 vp_e1 p_e.fVary) (Rp_e2 : Sl (α := Str) H0 vp_e2 p_e.fSnapshot) (Rp_e4 : Sl (α := GField) H0 vp_e4 p_e.fFields) {r : GResponse} (h : entry_Response p_e p_now p_name = some r) :
    Con Tryz.prog 10 [(agg [vp_e0, vp_e1, vp_e2, (str p_e.fReason), vp_e4, (str p_e.fBody), (int p_e.fRequested), (int p_e.fReceived)]), (int p_now), (str p_name)] w0 H0 (fun H' v => ∃ u1 : Value, v = (agg [(int r.fMinor), (int r.fStatus), (str r.fReason), u1, (str r.fBody)]) ∧ Sl (α := GField) H' u1 r.fFields) := by
  refine Con.mk (N := 13) Tryz.func10 rfl rfl (by kernel_rfl) rfl ?_
  have S := St.start hw
  refine WP.seq ?_
  refine WP.region ?_
  refine W.box [vp_e0, vp_e1, vp_e2, (str p_e.fReason), vp_e4, (str p_e.fBody), (int p_e.fRequested), (int p_e.fReceived)] S rfl rfl ?_
  intro b1 w2 S
  refine W.alloc [(int 0), (int 0), (str []), (.slice none 0 0), (str [])] S zer30 ?_
  intro b3 w4 S
  refine WL.nil ?_
  refine WP.seq ?_
  refine WP.quietTail 5 S (by kernel_rfl) (by kernel_rfl) ?_
  refine WQ.val (fun w hw => by obtain ⟨_, hq, S⟩ := hw; exact (R.loadBN (i := 1) (vs := [vp_e0, vp_e1, vp_e2, (str p_e.fReason), vp_e4, (str p_e.fBody), (int p_e.fRequested), (int p_e.fReceived)]) S rfl rfl lay26 rfl rfl)) ?_
  refine WQ.val (fun w hw => by obtain ⟨_, hq, S⟩ := hw; exact (R.loadBN (i := 1) (vs := [vp_e0, vp_e1, vp_e2, (str p_e.fReason), vp_e4, (str p_e.fBody), (int p_e.fRequested), (int p_e.fReceived)]) S rfl rfl lay26 rfl rfl)) ?_
  refine WQ.val (fun _ _ => (R.mv (v := (int p_now)) rfl)) ?_
  obtain ⟨r8, hr8, h⟩ := bindE h
  refine WQ.call (v := (int r8)) rfl (fun w H' hq S => entry_Age_ok S.holds (hG.post S.post) p_e p_now (Sl.mono Rp_e0 hq) (Sl.mono Rp_e1 hq) (Sl.mono Rp_e2 hq) (Sl.mono Rp_e4 hq) hr8) ?_
  refine WQ.val (fun _ _ => (R.mv (v := (str p_name)) rfl)) ?_
  refine WQ.nil ?_
  intro w5 H6 hle7 S
  have Rp_e0 := Sl.mono Rp_e0 hle7
  have Rp_e1 := Sl.mono Rp_e1 hle7
  have Rp_e2 := Sl.mono Rp_e2 hle7
  have Rp_e4 := Sl.mono Rp_e4 hle7
  obtain ⟨r13, hr13, h⟩ := bindE h
  refine W.call S rfl (entry_respond_ok S.holds (hG.post S.post) p_e r8 p_name Rp_e0 Rp_e1 Rp_e2 Rp_e4 hr13) ?_
  rintro v14 w15 H16 hle17 S ⟨u18, rfl, R19⟩
  have Rp_e0 := Sl.mono Rp_e0 hle17
  have Rp_e1 := Sl.mono Rp_e1 hle17
  have Rp_e2 := Sl.mono Rp_e2 hle17
  have Rp_e4 := Sl.mono Rp_e4 hle17
  refine W.store (i := 0) [(int r13.fMinor), (int r13.fStatus), (str r13.fReason), u18, (str r13.fBody)] S rfl rfl rfl lay30 rfl (AllOne.all (l := [(int r13.fMinor), (int r13.fStatus), (str r13.fReason), u18, (str r13.fBody)]) (.cons rfl (.cons rfl (.cons rfl (.cons (Sl.oneC R19) (.cons rfl .nil)))))) (Nat.le_of_ble_eq_true rfl) rfl ?_
  intro w20 S
  refine WL.nil ?_
  obtain rfl := Option.some.inj h
  refine WP.ret (Out.one rfl S (Res.cellB (i := 0) (cs := [(int r13.fMinor), (int r13.fStatus), (str r13.fReason), u18, (str r13.fBody)]) S rfl rfl lay30 rfl rfl) ?_)
  exact ⟨_, rfl, R19⟩
set_option maxRecDepth 10000 in
set_option maxHeartbeats 4000000 in
theorem entry_lengths_ok {w0 : World} {H0 : Hp} (hw : Holds w0 H0) (hG : Tryz.Gl w0) (p_l : (List Str)) {vp_l : Value} (Rp_l : Sl (α := Str) H0 vp_l p_l) {r : Int} (h : entry_lengths p_l = some r) :
    Con Tryz.prog 70 [vp_l] w0 H0 (fun H' v => v = (int r)) := by
  refine Con.mk (N := 19) Tryz.func70 rfl rfl (by kernel_rfl) rfl ?_
  have S := St.start hw
  refine WP.seq ?_
  refine WP.region ?_
  refine WL.valw (R.as (v := (int 0)) rfl) ?_
  refine WL.nil ?_
  refine WP.seq ?_
  refine WP.region ?_
  refine WL.valw (R.as (v := (int 0)) rfl) ?_
  refine WL.nil ?_
  refine WP.seq ?_
  refine WP.seq ?_
  refine WP.region ?_
  refine WL.valw (R.mv (v := vp_l) rfl) ?_
  refine WL.valw (R.lenL (α := Str) (xs := p_l) (H := H0) Rp_l rfl Tryz.underlying23) ?_
  refine WL.valw (R.mv (v := (int 0)) rfl) ?_
  refine WL.nil ?_
  obtain ⟨n_9, hr15, h⟩ := bindE h
  refine WP.cut (fun f w => ∃ (H8 : Hp), f 3 = (int n_9) ∧ St w0 H0 w H8 []) ?_ ?_
  · refine WP.block ?_
    refine WP.loopM (entry_lengths_L0 p_l) (fun s f w => match s with | (n_2, y_6) => ∃ (H1 : Hp), f 3 = (int n_2) ∧ f 6 = vp_l ∧ f 7 = (int (p_l.length : Int)) ∧ f 8 = (int y_6) ∧ Sl (α := Str) H1 vp_l p_l ∧ St w0 H0 w H1 []) (0, 0) n_9 hr15 ?_ ?_
    · exact ⟨H0, rfl, rfl, rfl, rfl, Rp_l, S⟩
    · intro s f w hI y11 hy12 hy13
      obtain ⟨n_2, y_6⟩ := s
      obtain ⟨H1, h3, h4, h5, h7, Rp_l, S⟩ := hI
      refine WP.seq ?_
      refine WP.region ?_
      refine WL.valw (R.lss h7 h5) ?_
      refine WL.nil ?_
      refine WP.seq ?_
      rcases condE hy12 with ⟨hc16, hy12⟩ | ⟨hc16, hy12⟩
      · refine WP.condT rfl hc16 ?_
        refine WP.skip ?_
        refine WP.seq ?_
        refine WP.block ?_
        refine WP.seq ?_
        refine WP.region ?_
        obtain ⟨x17, hx17, hy12⟩ := bindE hy12
        refine W.idx (α := Str) Rp_l h4 h7 el23 hx17 ?_
        rintro a18 _ hA19 rfl
        refine WL.valw (R.loadH (v := (str x17)) S rfl hA19 lay9 rfl) ?_
        refine WL.valw (R.as (v := (str x17)) rfl) ?_
        refine WL.nil ?_
        refine WP.region ?_
        refine WL.valw (R.mv (v := (int n_2)) h3) ?_
        refine WL.valw (R.mv (v := (str x17)) rfl) ?_
        refine WL.valw (R.lenS (a := x17) rfl Tryz.underlying9) ?_
        refine WL.valw (R.add rfl rfl) ?_
        refine WL.valw (R.add rfl rfl) ?_
        refine WL.valw (R.as (v := (int (wr (n_2 + (wr (4 + (x17.length : Int))))))) rfl) ?_
        refine WL.nil ?_
        refine WP.region ?_
        refine WL.valw (R.add h7 rfl) ?_
        refine WL.valw (R.mv (v := (int (wr (y_6 + 1)))) rfl) ?_
        refine WL.nil ?_
        obtain rfl := Option.some.inj hy12
        exact ⟨rfl, ⟨H1, rfl, h4, h5, rfl, Rp_l, S⟩⟩
      · refine WP.condF rfl hc16 ?_
        refine WP.exit ?_
        obtain rfl := Option.some.inj hy12
        obtain rfl := hy13
        exact ⟨H1, h3, S⟩
  · rintro f w ⟨H8, h10, S⟩
    refine WP.seq ?_
    refine WP.region ?_
    refine WL.valw (R.mv (v := (int n_9)) h10) ?_
    refine WL.valw (R.as (v := (int n_9)) rfl) ?_
    refine WL.nil ?_
    obtain rfl := Option.some.inj h
    refine WP.ret (Out.one rfl S rfl ?_)
    exact rfl
set_option maxRecDepth 10000 in
set_option maxHeartbeats 4000000 in
theorem entry_Size_ok {w0 : World} {H0 : Hp} (hw : Holds w0 H0) (hG : Tryz.Gl w0) (p_e : GEntry) {vp_e0 : Value} {vp_e1 : Value} {vp_e2 : Value} {vp_e4 : Value} (Rp_e0 : Sl (α := (List Str)) H0 vp_e0 p_e.fKeys) (Rp_e1 : Sl (α := Str) H0 vp_e1 p_e.fVary) (Rp_e2 : Sl (α := Str) H0 vp_e2 p_e.fSnapshot) (Rp_e4 : Sl (α := GField) H0 vp_e4 p_e.fFields) {r : Int} (h : entry_Size p_e = some r) :
    Con Tryz.prog 36 [(agg [vp_e0, vp_e1, vp_e2, (str p_e.fReason), vp_e4, (str p_e.fBody), (int p_e.fRequested), (int p_e.fReceived)])] w0 H0 (fun H' v => v = (int r)) := by
  refine Con.mk (N := 55) Tryz.func36 rfl rfl (by kernel_rfl) rfl ?_
  have S := St.start hw
  refine WP.seq ?_
  refine WP.region ?_
  refine W.box [vp_e0, vp_e1, vp_e2, (str p_e.fReason), vp_e4, (str p_e.fBody), (int p_e.fRequested), (int p_e.fReceived)] S rfl rfl ?_
  intro b1 w2 S
  refine WL.valw (R.as (v := (int 0)) rfl) ?_
  refine WL.nil ?_
  refine WP.seq ?_
  refine WP.quiet S (by kernel_rfl) (by kernel_rfl) ?_
  refine WQ.val (fun _ _ => (R.fieldB rfl fld26_3)) ?_
  refine WQ.val (fun w hw => by obtain ⟨_, hq, S⟩ := hw; exact (R.loadB (i := 0) (v := (str p_e.fReason)) S rfl rfl lay9 rfl)) ?_
  refine WQ.val (fun _ _ => (R.lenS (a := p_e.fReason) rfl Tryz.underlying9)) ?_
  refine WQ.val (fun _ _ => (R.add rfl rfl)) ?_
  refine WQ.val (fun _ _ => (R.fieldB rfl fld26_5)) ?_
  refine WQ.val (fun w hw => by obtain ⟨_, hq, S⟩ := hw; exact (R.loadB (i := 0) (v := (str p_e.fBody)) S rfl rfl lay9 rfl)) ?_
  refine WQ.val (fun _ _ => (R.lenS (a := p_e.fBody) rfl Tryz.underlying9)) ?_
  refine WQ.val (fun _ _ => (R.add rfl rfl)) ?_
  refine WQ.val (fun _ _ => (R.fieldB rfl fld26_1)) ?_
  refine WQ.val (fun w hw => by obtain ⟨_, hq, S⟩ := hw; exact (R.loadB (i := 0) (v := vp_e1) S rfl rfl lay23 rfl)) ?_
  obtain ⟨r6, hr6, h⟩ := bindE h
  refine WQ.call (v := (int r6)) rfl (fun w H' hq S => entry_lengths_ok S.holds (hG.post S.post) p_e.fVary (Sl.mono Rp_e1 hq) hr6) ?_
  refine WQ.val (fun _ _ => (R.add rfl rfl)) ?_
  refine WQ.val (fun _ _ => (R.fieldB rfl fld26_2)) ?_
  refine WQ.val (fun w hw => by obtain ⟨_, hq, S⟩ := hw; exact (R.loadB (i := 0) (v := vp_e2) S rfl rfl lay23 rfl)) ?_
  obtain ⟨r11, hr11, h⟩ := bindE h
  refine WQ.call (v := (int r11)) rfl (fun w H' hq S => entry_lengths_ok S.holds (hG.post S.post) p_e.fSnapshot (Sl.mono Rp_e2 hq) hr11) ?_
  refine WQ.val (fun _ _ => (R.add rfl rfl)) ?_
  refine WQ.val (fun _ _ => (R.as (v := (int (wr ((wr ((wr ((wr (100 + (p_e.fReason.length : Int))) + (p_e.fBody.length : Int))) + r6)) + r11)))) rfl)) ?_
  refine WQ.nil ?_
  intro w3 H4 hle5 S
  have Rp_e0 := Sl.mono Rp_e0 hle5
  have Rp_e1 := Sl.mono Rp_e1 hle5
  have Rp_e2 := Sl.mono Rp_e2 hle5
  have Rp_e4 := Sl.mono Rp_e4 hle5
  refine WP.seq ?_
  refine WP.seq ?_
  refine WP.region ?_
  refine WL.valw (R.fieldB rfl fld26_4) ?_
  refine WL.valw (R.loadB (i := 0) (v := vp_e4) S rfl rfl lay24 rfl) ?_
  refine WL.valw (R.lenL (α := GField) (xs := p_e.fFields) (H := H4) Rp_e4 rfl Tryz.underlying24) ?_
  refine WL.valw (R.mv (v := (int 0)) rfl) ?_
  refine WL.nil ?_
  obtain ⟨n_26, hr32, h⟩ := bindE h
  refine WP.cut (fun f w => ∃ (H24 : Hp), f 1 = (ptr b1 0) ∧ f 3 = (int n_26) ∧ Sl (α := (List Str)) H24 vp_e0 p_e.fKeys ∧ Sl (α := Str) H24 vp_e1 p_e.fVary ∧ Sl (α := Str) H24 vp_e2 p_e.fSnapshot ∧ Sl (α := GField) H24 vp_e4 p_e.fFields ∧ St w0 H0 w H24 [.box b1 26 [vp_e0, vp_e1, vp_e2, (str p_e.fReason), vp_e4, (str p_e.fBody), (int p_e.fRequested), (int p_e.fReceived)]]) ?_ ?_
  · refine WP.block ?_
    refine WP.loopM (entry_Size_L0 p_e) (fun s f w => match s with | (n_18, y_22) => ∃ (H16 : Hp), f 1 = (ptr b1 0) ∧ f 3 = (int n_18) ∧ f 25 = vp_e4 ∧ f 26 = (int (p_e.fFields.length : Int)) ∧ f 27 = (int y_22) ∧ Sl (α := GField) H16 vp_e4 p_e.fFields ∧ Sl (α := (List Str)) H16 vp_e0 p_e.fKeys ∧ Sl (α := Str) H16 vp_e1 p_e.fVary ∧ Sl (α := Str) H16 vp_e2 p_e.fSnapshot ∧ St w0 H0 w H16 [.box b1 26 [vp_e0, vp_e1, vp_e2, (str p_e.fReason), vp_e4, (str p_e.fBody), (int p_e.fRequested), (int p_e.fReceived)]]) (wr ((wr ((wr ((wr (100 + (p_e.fReason.length : Int))) + (p_e.fBody.length : Int))) + r6)) + r11), 0) n_26 hr32 ?_ ?_
    · exact ⟨H4, rfl, rfl, rfl, rfl, rfl, Rp_e4, Rp_e0, Rp_e1, Rp_e2, S⟩
    · intro s f w hI y28 hy29 hy30
      obtain ⟨n_18, y_22⟩ := s
      obtain ⟨H16, h17, h19, h20, h21, h23, Rp_e4, Rp_e0, Rp_e1, Rp_e2, S⟩ := hI
      refine WP.seq ?_
      refine WP.region ?_
      refine WL.valw (R.lss h23 h21) ?_
      refine WL.nil ?_
      refine WP.seq ?_
      rcases condE hy29 with ⟨hc33, hy29⟩ | ⟨hc33, hy29⟩
      · refine WP.condT rfl hc33 ?_
        refine WP.skip ?_
        refine WP.seq ?_
        refine WP.block ?_
        refine WP.seq ?_
        refine WP.region ?_
        obtain ⟨x34, hx34, hy29⟩ := bindE hy29
        refine W.idx (α := GField) Rp_e4 h20 h23 el24 hx34 ?_
        rintro a35 _ hA36 rfl
        refine WL.valw (R.loadHN (vs := [(str x34.fName), (str x34.fValue)]) S rfl hA36 lay53 rfl rfl) ?_
        refine W.alloc [(str []), (str [])] S zer53 ?_
        intro b37 w38 S
        refine W.store (i := 0) [(str x34.fName), (str x34.fValue)] S rfl rfl rfl lay53 rfl rfl (Nat.le_of_ble_eq_true rfl) rfl ?_
        intro w39 S
        refine WL.nil ?_
        refine WP.region ?_
        refine WL.valw (R.mv (v := (int n_18)) h19) ?_
        refine WL.valw (R.fieldB rfl fld53_0) ?_
        refine WL.valw (R.loadB (i := 0) (v := (str x34.fName)) S rfl rfl lay9 rfl) ?_
        refine WL.valw (R.lenS (a := x34.fName) rfl Tryz.underlying9) ?_
        refine WL.valw (R.add rfl rfl) ?_
        refine WL.valw (R.fieldB rfl fld53_1) ?_
        refine WL.valw (R.loadB (i := 0) (v := (str x34.fValue)) S rfl rfl lay9 rfl) ?_
        refine WL.valw (R.lenS (a := x34.fValue) rfl Tryz.underlying9) ?_
        refine WL.valw (R.add rfl rfl) ?_
        refine WL.valw (R.add rfl rfl) ?_
        refine WL.valw (R.as (v := (int (wr (n_18 + (wr ((wr (4 + (x34.fName.length : Int))) + (x34.fValue.length : Int))))))) rfl) ?_
        refine WL.nil ?_
        refine WP.region ?_
        refine WL.valw (R.add h23 rfl) ?_
        refine WL.valw (R.mv (v := (int (wr (y_22 + 1)))) rfl) ?_
        refine WL.nil ?_
        obtain rfl := Option.some.inj hy29
        exact ⟨rfl, ⟨H16, h17, rfl, h20, h21, rfl, Rp_e4, Rp_e0, Rp_e1, Rp_e2, (S.drop _ (.cons _ (.cons_cons _ .slnil)))⟩⟩
      · refine WP.condF rfl hc33 ?_
        refine WP.exit ?_
        obtain rfl := Option.some.inj hy29
        obtain rfl := hy30
        exact ⟨H16, h17, h19, Rp_e0, Rp_e1, Rp_e2, Rp_e4, S⟩
  · rintro f w ⟨H24, h25, h27, Rp_e0, Rp_e1, Rp_e2, Rp_e4, S⟩
    refine WP.seq ?_
    refine WP.seq ?_
    refine WP.region ?_
    refine WL.valw (R.fieldB h25 fld26_0) ?_
    refine WL.valw (R.loadB (i := 0) (v := vp_e0) S rfl rfl lay22 rfl) ?_
    refine WL.valw (R.lenL (α := (List Str)) (xs := p_e.fKeys) (H := H24) Rp_e0 rfl Tryz.underlying22) ?_
    refine WL.valw (R.mv (v := (int 0)) rfl) ?_
    refine WL.nil ?_
    obtain ⟨n_48, hr54, h⟩ := bindE h
    refine WP.cut (fun f w => ∃ (H47 : Hp), f 3 = (int n_48) ∧ St w0 H0 w H47 []) ?_ ?_
    · refine WP.block ?_
      refine WP.loopM (entry_Size_L1 p_e) (fun s f w => match s with | (n_41, y_45) => ∃ (H40 : Hp), f 3 = (int n_41) ∧ f 43 = vp_e0 ∧ f 44 = (int (p_e.fKeys.length : Int)) ∧ f 45 = (int y_45) ∧ Sl (α := (List Str)) H40 vp_e0 p_e.fKeys ∧ St w0 H0 w H40 []) (n_26, 0) n_48 hr54 ?_ ?_
      · exact ⟨H24, h27, rfl, rfl, rfl, Rp_e0, (S.drop _ (.cons _ .slnil))⟩
      · intro s f w hI y50 hy51 hy52
        obtain ⟨n_41, y_45⟩ := s
        obtain ⟨H40, h42, h43, h44, h46, Rp_e0, S⟩ := hI
        refine WP.seq ?_
        refine WP.region ?_
        refine WL.valw (R.lss h46 h44) ?_
        refine WL.nil ?_
        refine WP.seq ?_
        rcases condE hy51 with ⟨hc55, hy51⟩ | ⟨hc55, hy51⟩
        · refine WP.condT rfl hc55 ?_
          refine WP.skip ?_
          refine WP.seq ?_
          refine WP.block ?_
          refine WP.seq ?_
          refine WP.region ?_
          obtain ⟨x56, hx56, hy51⟩ := bindE hy51
          refine W.idx (α := (List Str)) Rp_e0 h43 h46 el22 hx56 ?_
          rintro a57 _ hA58 ⟨v59, rfl, R60⟩
          refine WL.valw (R.loadH (v := v59) S rfl hA58 lay23 rfl) ?_
          refine WL.valw (R.as (v := v59) rfl) ?_
          refine WL.nil ?_
          refine WP.region ?_
          refine WL.valw (R.mv (v := (int n_41)) h42) ?_
          refine WL.valw (R.mv (v := v59) rfl) ?_
          obtain ⟨r61, hr61, hy51⟩ := bindE hy51
          refine W.call S rfl (entry_lengths_ok S.holds (hG.post S.post) x56 R60 hr61) ?_
          rintro v62 w63 H64 hle65 S rfl
          have Rp_e0 := Sl.mono Rp_e0 hle65
          have hA58 := At.mono hA58 hle65 (by simp)
          have R60 := Sl.mono R60 hle65
          refine WL.valw (R.add rfl rfl) ?_
          refine WL.valw (R.as (v := (int (wr (n_41 + r61)))) rfl) ?_
          refine WL.nil ?_
          refine WP.region ?_
          refine WL.valw (R.add h46 rfl) ?_
          refine WL.valw (R.mv (v := (int (wr (y_45 + 1)))) rfl) ?_
          refine WL.nil ?_
          obtain rfl := Option.some.inj hy51
          exact ⟨rfl, ⟨H64, rfl, h43, h44, rfl, Rp_e0, S⟩⟩
        · refine WP.condF rfl hc55 ?_
          refine WP.exit ?_
          obtain rfl := Option.some.inj hy51
          obtain rfl := hy52
          exact ⟨H40, h42, S⟩
    · rintro f w ⟨H47, h49, S⟩
      refine WP.seq ?_
      refine WP.region ?_
      refine WL.valw (R.mv (v := (int n_48)) h49) ?_
      refine WL.valw (R.as (v := (int n_48)) rfl) ?_
      refine WL.nil ?_
      obtain rfl := Option.some.inj h
      refine WP.ret (Out.one rfl S rfl ?_)
      exact rfl
set_option maxRecDepth 10000 in
set_option maxHeartbeats 4000000 in
theorem law26_awake_ok {w0 : World} {H0 : Hp} (hw : Holds w0 H0) (hG : Tryz.Gl w0) {r : Bool} (h : law26_awake = some r) :
    Con Tryz.prog 14 [] w0 H0 (fun H' v => v = (boo r)) := by
  refine Con.mk (N := 43) Tryz.func14 rfl rfl (by kernel_rfl) rfl ?_
  have S := St.start hw
  refine WP.seq ?_
  refine WP.region ?_
  refine WL.valw (R.as (v := (boo false)) rfl) ?_
  refine WL.nil ?_
  refine WP.seq ?_
  refine WP.region ?_
  refine WL.valw (R.build [(0, (str [97, 103, 101])), (1, (str [50]))] [(str [97, 103, 101]), (str [50])] bp53 zer53 rfl rfl) ?_
  refine W.bslice (α := GField) [(agg [(str [97, 103, 101]), (str [50])])] ([(⟨[97, 103, 101], [50]⟩ : GField)] : List GField) S el24 rfl rfl rfl (by decide) (Go.Eng.encS ⟨rfl, rfl⟩ enc0) ?_
  intro u1 w2 H3 hle4 R5 S
  refine WL.valw (R.build [(3, (str [79, 75])), (5, (str [120])), (4, u1)] [(.slice none 0 0), (.slice none 0 0), (.slice none 0 0), (str [79, 75]), u1, (str [120]), (int 0), (int 0)] bp26 zer26 rfl (by obtain ⟨_, _, rfl, _⟩ := R5; rfl)) ?_
  refine W.alloc [(.slice none 0 0), (.slice none 0 0), (.slice none 0 0), (str []), (.slice none 0 0), (str []), (int 0), (int 0)] S zer26 ?_
  intro b6 w7 S
  refine W.store (i := 0) [(.slice none 0 0), (.slice none 0 0), (.slice none 0 0), (str [79, 75]), u1, (str [120]), (int 0), (int 0)] S rfl rfl rfl lay26 rfl (AllOne.all (l := [(.slice none 0 0), (.slice none 0 0), (.slice none 0 0), (str [79, 75]), u1, (str [120]), (int 0), (int 0)]) (.cons rfl (.cons rfl (.cons rfl (.cons rfl (.cons (Sl.oneC R5) (.cons rfl (.cons rfl (.cons rfl .nil))))))))) (Nat.le_of_ble_eq_true rfl) rfl ?_
  intro w8 S
  refine WL.nil ?_
  refine WP.seq ?_
  refine WP.region ?_
  refine WL.valw (R.loadBN (i := 0) (vs := [(.slice none 0 0), (.slice none 0 0), (.slice none 0 0), (str [79, 75]), u1, (str [120]), (int 0), (int 0)]) S rfl rfl lay26 rfl rfl) ?_
  obtain ⟨r9, hr9, h⟩ := bindE h
  refine W.call S rfl (entry_Response_ok S.holds (hG.post S.post) (⟨([] : List (List Str)), ([] : List Str), ([] : List Str), [79, 75], ([(⟨[97, 103, 101], [50]⟩ : GField)] : List GField), [120], 0, 0⟩ : GEntry) 5 [112] Sl.nil Sl.nil Sl.nil R5 hr9) ?_
  rintro v10 w11 H12 hle13 S ⟨u14, rfl, R15⟩
  have R5 := Sl.mono R5 hle13
  refine W.alloc [(int 0), (int 0), (str []), (.slice none 0 0), (str [])] S zer30 ?_
  intro b16 w17 S
  refine W.store (i := 0) [(int r9.fMinor), (int r9.fStatus), (str r9.fReason), u14, (str r9.fBody)] S rfl rfl rfl lay30 rfl (AllOne.all (l := [(int r9.fMinor), (int r9.fStatus), (str r9.fReason), u14, (str r9.fBody)]) (.cons rfl (.cons rfl (.cons rfl (.cons (Sl.oneC R15) (.cons rfl .nil)))))) (Nat.le_of_ble_eq_true rfl) rfl ?_
  intro w18 S
  refine WL.nil ?_
  refine WP.seq ?_
  refine WP.region ?_
  refine WL.valw (R.build [(3, (str [79, 75]))] [(.slice none 0 0), (.slice none 0 0), (.slice none 0 0), (str [79, 75]), (.slice none 0 0), (str []), (int 0), (int 0)] bp26 zer26 rfl rfl) ?_
  obtain ⟨r19, hr19, h⟩ := bindE h
  refine W.call S rfl (entry_Size_ok S.holds (hG.post S.post) (⟨([] : List (List Str)), ([] : List Str), ([] : List Str), [79, 75], ([] : List GField), [], 0, 0⟩ : GEntry) Sl.nil Sl.nil Sl.nil Sl.nil hr19) ?_
  rintro v20 w21 H22 hle23 S rfl
  have R5 := Sl.mono R5 hle23
  have R15 := Sl.mono R15 hle23
  refine WL.valw (R.eql rfl rfl) ?_
  refine WL.valw (R.mv (v := (boo (r19 == 102))) rfl) ?_
  refine WL.grp 4 [12, 13, 14] 15 (boo ((r19 == 102) && (r9.fStatus == 200))) ?_ ?_
  · rcases boolE (r19 == 102) with hb24 | hb24
    · refine WL.gyes rfl rfl hb24 ?_
      refine WL.valw (R.fieldB rfl fld30_1) ?_
      refine WL.gyes rfl rfl hb24 ?_
      refine WL.valw (R.loadB (i := 0) (v := (int r9.fStatus)) S rfl rfl lay3 rfl) ?_
      refine WL.gyes rfl rfl hb24 ?_
      refine WL.valw (R.eql rfl rfl) ?_
      refine WL.valw (R.pickT rfl hb24 rfl) ?_
      exact WL.nil ⟨(andT hb24), (by repeat (first | refine agree_upd rfl ?_ | refine agree_upds' rfl ?_ | exact agree_refl)), rfl⟩
    · refine WL.gno rfl rfl hb24 ?_
      refine WL.gno rfl rfl hb24 ?_
      refine WL.gno rfl rfl hb24 ?_
      refine WL.valw (R.pickF rfl hb24 rfl) ?_
      exact WL.nil ⟨(andF hb24), (by repeat (first | refine agree_upd rfl ?_ | refine agree_upds' rfl ?_ | exact agree_refl)), rfl⟩
  · intro us
    refine WL.valw (R.mv (v := (boo ((r19 == 102) && (r9.fStatus == 200)))) rfl) ?_
    refine WL.grp 4 [17, 18, 19] 20 (boo (((r19 == 102) && (r9.fStatus == 200)) && (r9.fBody == [120]))) ?_ ?_
    · rcases boolE ((r19 == 102) && (r9.fStatus == 200)) with hb26 | hb26
      · refine WL.gyes rfl rfl hb26 ?_
        refine WL.valw (R.fieldB rfl fld30_4) ?_
        refine WL.gyes rfl rfl hb26 ?_
        refine WL.valw (R.loadB (i := 0) (v := (str r9.fBody)) S rfl rfl lay9 rfl) ?_
        refine WL.gyes rfl rfl hb26 ?_
        refine WL.valw (R.eqlS (a := r9.fBody) (b := [120]) rfl rfl) ?_
        refine WL.valw (R.pickT rfl hb26 rfl) ?_
        exact WL.nil ⟨(andT hb26), (by repeat (first | refine agree_upd rfl ?_ | refine agree_upds' rfl ?_ | exact agree_refl)), rfl⟩
      · refine WL.gno rfl rfl hb26 ?_
        refine WL.gno rfl rfl hb26 ?_
        refine WL.gno rfl rfl hb26 ?_
        refine WL.valw (R.pickF rfl hb26 rfl) ?_
        exact WL.nil ⟨(andF hb26), (by repeat (first | refine agree_upd rfl ?_ | refine agree_upds' rfl ?_ | exact agree_refl)), rfl⟩
    · intro us
      refine WL.valw (R.mv (v := (boo (((r19 == 102) && (r9.fStatus == 200)) && (r9.fBody == [120])))) rfl) ?_
      refine WL.grp 5 [22, 23, 24, 25] 26 (boo ((((r19 == 102) && (r9.fStatus == 200)) && (r9.fBody == [120])) && ((r9.fFields.length : Int) == 2))) ?_ ?_
      · rcases boolE (((r19 == 102) && (r9.fStatus == 200)) && (r9.fBody == [120])) with hb28 | hb28
        · refine WL.gyes rfl rfl hb28 ?_
          refine WL.valw (R.fieldB rfl fld30_3) ?_
          refine WL.gyes rfl rfl hb28 ?_
          refine WL.valw (R.loadB (i := 0) (v := u14) S rfl rfl lay24 rfl) ?_
          refine WL.gyes rfl rfl hb28 ?_
          refine WL.valw (R.lenL (α := GField) (xs := r9.fFields) (H := H22) R15 rfl Tryz.underlying24) ?_
          refine WL.gyes rfl rfl hb28 ?_
          refine WL.valw (R.eql rfl rfl) ?_
          refine WL.valw (R.pickT rfl hb28 rfl) ?_
          exact WL.nil ⟨(andT hb28), (by repeat (first | refine agree_upd rfl ?_ | refine agree_upds' rfl ?_ | exact agree_refl)), rfl⟩
        · refine WL.gno rfl rfl hb28 ?_
          refine WL.gno rfl rfl hb28 ?_
          refine WL.gno rfl rfl hb28 ?_
          refine WL.gno rfl rfl hb28 ?_
          refine WL.valw (R.pickF rfl hb28 rfl) ?_
          exact WL.nil ⟨(andF hb28), (by repeat (first | refine agree_upd rfl ?_ | refine agree_upds' rfl ?_ | exact agree_refl)), rfl⟩
      · intro us
        refine WL.valw (R.mv (v := (boo ((((r19 == 102) && (r9.fStatus == 200)) && (r9.fBody == [120])) && ((r9.fFields.length : Int) == 2)))) rfl) ?_
        obtain ⟨b36, hg31, h⟩ := bindE h
        refine WL.grp 7 [28, 29, 30, 31, 32, 33] 34 (boo b36) ?_ ?_
        · rcases boolE ((((r19 == 102) && (r9.fStatus == 200)) && (r9.fBody == [120])) && ((r9.fFields.length : Int) == 2)) with hb30 | hb30
          · replace hg31 := condT hg31 hb30
            refine WL.gyes rfl rfl hb30 ?_
            refine WL.valw (R.fieldB rfl fld30_3) ?_
            refine WL.gyes rfl rfl hb30 ?_
            refine WL.valw (R.loadB (i := 0) (v := u14) S rfl rfl lay24 rfl) ?_
            refine WL.gyes rfl rfl hb30 ?_
            obtain ⟨x32, hx32, hg31⟩ := bindE hg31
            refine W.idx (α := GField) R15 rfl rfl el24 hx32 ?_
            rintro a33 _ hA34 rfl
            refine WL.gyes rfl rfl hb30 ?_
            refine WL.valw (R.field rfl fld53_1) ?_
            have hA35 := At.add hA34 1 (by simp)
            refine WL.gyes rfl rfl hb30 ?_
            refine WL.valw (R.loadH (v := (str x32.fValue)) S rfl hA35 lay9 rfl) ?_
            refine WL.gyes rfl rfl hb30 ?_
            refine WL.valw (R.eqlS (a := x32.fValue) (b := [55]) rfl rfl) ?_
            refine WL.valw (R.pickT rfl hb30 rfl) ?_
            exact WL.nil ⟨(congrArg boo (Option.some.inj hg31)), (by repeat (first | refine agree_upd rfl ?_ | refine agree_upds' rfl ?_ | exact agree_refl)), rfl⟩
          · replace hg31 := condF hg31 hb30
            refine WL.gno rfl rfl hb30 ?_
            refine WL.gno rfl rfl hb30 ?_
            refine WL.gno rfl rfl hb30 ?_
            refine WL.gno rfl rfl hb30 ?_
            refine WL.gno rfl rfl hb30 ?_
            refine WL.gno rfl rfl hb30 ?_
            refine WL.valw (R.pickF rfl hb30 rfl) ?_
            exact WL.nil ⟨(congrArg boo (Option.some.inj hg31)), (by repeat (first | refine agree_upd rfl ?_ | refine agree_upds' rfl ?_ | exact agree_refl)), rfl⟩
        · intro us
          refine WL.valw (R.mv (v := (boo b36)) rfl) ?_
          obtain ⟨b43, hg38, h⟩ := bindE h
          refine WL.grp 7 [36, 37, 38, 39, 40, 41] 42 (boo b43) ?_ ?_
          · rcases boolE b36 with hb37 | hb37
            · replace hg38 := condT hg38 hb37
              refine WL.gyes rfl rfl hb37 ?_
              refine WL.valw (R.fieldB rfl fld30_3) ?_
              refine WL.gyes rfl rfl hb37 ?_
              refine WL.valw (R.loadB (i := 0) (v := u14) S rfl rfl lay24 rfl) ?_
              refine WL.gyes rfl rfl hb37 ?_
              obtain ⟨x39, hx39, hg38⟩ := bindE hg38
              refine W.idx (α := GField) R15 rfl rfl el24 hx39 ?_
              rintro a40 _ hA41 rfl
              refine WL.gyes rfl rfl hb37 ?_
              refine WL.valw (R.field rfl fld53_1) ?_
              have hA42 := At.add hA41 1 (by simp)
              refine WL.gyes rfl rfl hb37 ?_
              refine WL.valw (R.loadH (v := (str x39.fValue)) S rfl hA42 lay9 rfl) ?_
              refine WL.gyes rfl rfl hb37 ?_
              refine WL.valw (R.eqlS (a := x39.fValue) (b := [49, 46, 49, 32, 112]) rfl rfl) ?_
              refine WL.valw (R.pickT rfl hb37 rfl) ?_
              exact WL.nil ⟨(congrArg boo (Option.some.inj hg38)), (by repeat (first | refine agree_upd rfl ?_ | refine agree_upds' rfl ?_ | exact agree_refl)), rfl⟩
            · replace hg38 := condF hg38 hb37
              refine WL.gno rfl rfl hb37 ?_
              refine WL.gno rfl rfl hb37 ?_
              refine WL.gno rfl rfl hb37 ?_
              refine WL.gno rfl rfl hb37 ?_
              refine WL.gno rfl rfl hb37 ?_
              refine WL.gno rfl rfl hb37 ?_
              refine WL.valw (R.pickF rfl hb37 rfl) ?_
              exact WL.nil ⟨(congrArg boo (Option.some.inj hg38)), (by repeat (first | refine agree_upd rfl ?_ | refine agree_upds' rfl ?_ | exact agree_refl)), rfl⟩
          · intro us
            refine WL.valw (R.as (v := (boo b43)) rfl) ?_
            refine WL.nil ?_
            obtain rfl := Option.some.inj h
            refine WP.ret (Out.one rfl S rfl ?_)
            exact rfl
set_option maxRecDepth 10000 in
set_option maxHeartbeats 4000000 in
theorem ref01_Remove_ok {w0 : World} {H0 : Hp} (hw : Holds w0 H0) (hG : Tryz.Gl w0) (p_l : (List GField)) (p_name : Str) {vp_l : Value} (Rp_l : Sl (α := GField) H0 vp_l p_l) {r : (List GField)} (h : ref01_Remove p_l p_name = some r) :
    Con Tryz.prog 23 [vp_l, (str p_name)] w0 H0 (fun H' v => Sl (α := GField) H' v r) := by
  refine Con.mk (N := 29) Tryz.func23 rfl rfl (by kernel_rfl) rfl ?_
  have S := St.start hw
  refine WP.seq ?_
  refine WP.region ?_
  refine WL.valw (R.as (v := (.slice none 0 0)) rfl) ?_
  refine WL.nil ?_
  refine WP.seq ?_
  refine WP.region ?_
  refine WL.valw (R.as (v := (.slice none 0 0)) rfl) ?_
  refine WL.nil ?_
  refine WP.seq ?_
  refine WP.seq ?_
  refine WP.region ?_
  refine WL.valw (R.as (v := (int 0)) rfl) ?_
  refine WL.nil ?_
  have S := S.addNil 53 2
  obtain ⟨out_11, hr19, h⟩ := bindE h
  refine WP.cut (fun f w => ∃ (H10 : Hp) (v12 : Value), f 5 = v12 ∧ Sl (α := GField) H10 v12 out_11 ∧ St w0 H0 w H10 [.row v12 53 2 out_11.length]) ?_ ?_
  · refine WP.block ?_
    refine WP.loopM (ref01_Remove_L0 p_l p_name) (fun s f w => match s with | (out_4, i_8) => ∃ (H1 : Hp) (v5 : Value), f 0 = vp_l ∧ f 1 = (str p_name) ∧ f 5 = v5 ∧ f 6 = (int i_8) ∧ Sl (α := GField) H1 vp_l p_l ∧ Sl (α := GField) H1 v5 out_4 ∧ St w0 H0 w H1 [.row v5 53 2 out_4.length]) (([] : List GField), 0) out_11 hr19 ?_ ?_
    · exact ⟨H0, .slice none 0 0, rfl, rfl, rfl, rfl, Rp_l, Sl.nil, S⟩
    · intro s f w hI y15 hy16 hy17
      obtain ⟨out_4, i_8⟩ := s
      obtain ⟨H1, v5, h2, h3, h7, h9, Rp_l, R6, S⟩ := hI
      refine WP.seq ?_
      refine WP.seq ?_
      refine WP.region ?_
      refine WL.valw (R.mv (v := (int i_8)) h9) ?_
      refine WL.valw (R.mv (v := vp_l) h2) ?_
      refine WL.valw (R.lenL (α := GField) (xs := p_l) (H := H1) Rp_l rfl Tryz.underlying24) ?_
      refine WL.valw (R.lss rfl rfl) ?_
      refine WL.nil ?_
      rcases condE hy16 with ⟨hc20, hy16⟩ | ⟨hc20, hy16⟩
      · refine WP.condT rfl hc20 ?_
        refine WP.skip ?_
        refine WP.seq ?_
        refine WP.block ?_
        refine WP.seq ?_
        refine WP.region ?_
        refine WL.valw (R.mv (v := vp_l) h2) ?_
        refine WL.valw (R.mv (v := (int i_8)) h9) ?_
        obtain ⟨x21, hx21, hy16⟩ := bindE hy16
        refine W.idx (α := GField) Rp_l rfl rfl el24 hx21 ?_
        rintro a22 _ hA23 rfl
        refine WL.valw (R.field rfl fld53_0) ?_
        have hA24 := At.add hA23 0 (by simp)
        refine WL.valw (R.loadH (v := (str x21.fName)) S rfl hA24 lay9 rfl) ?_
        refine WL.valw (R.mv (v := (str p_name)) h3) ?_
        obtain ⟨r25, hr25, hy16⟩ := bindE hy16
        refine W.call S rfl (ref01_Fold_ok S.holds (hG.post S.post) x21.fName p_name hr25) ?_
        rintro v26 w27 H28 hle29 S rfl
        have Rp_l := Sl.mono Rp_l hle29
        have R6 := Sl.mono R6 hle29
        have hA23 := At.mono hA23 hle29 (by simp)
        have hA24 := At.mono hA24 hle29 (by simp)
        refine WL.valw (R.not rfl) ?_
        refine WL.nil ?_
        rcases condE hy16 with ⟨hc30, hy16⟩ | ⟨hc30, hy16⟩
        · refine WP.condT rfl hc30 ?_
          refine WP.region ?_
          refine WL.valw (R.mv (v := v5) h7) ?_
          refine WL.valw (R.mv (v := vp_l) h2) ?_
          refine WL.valw (R.mv (v := (int i_8)) h9) ?_
          obtain ⟨x31, hx31, hy16⟩ := bindE hy16
          refine W.idx (α := GField) Rp_l rfl rfl el24 hx31 ?_
          rintro a32 _ hA33 rfl
          refine WL.valw (R.loadHN (vs := [(str x31.fName), (str x31.fValue)]) S rfl hA33 lay53 rfl rfl) ?_
          refine W.bslice (α := GField) [(agg [(str x31.fName), (str x31.fValue)])] ([x31] : List GField) S el24 rfl rfl rfl (by decide) (Go.Eng.encS ⟨rfl, rfl⟩ enc0) ?_
          intro u34 w35 H36 hle37 R38 S
          have Rp_l := Sl.mono Rp_l hle37
          have R6 := Sl.mono R6 hle37
          have hA23 := At.mono hA23 hle37 (by simp)
          have hA24 := At.mono hA24 hle37 (by simp)
          have hA33 := At.mono hA33 hle37 (by simp)
          obtain ⟨l39, hl39, hy16⟩ := bindE hy16
          refine W.app (α := GField) (i := 1) S el24 rfl rfl rfl R6 R38 hl39 ?_
          intro v40 w41 H42 hle43 R44 S
          have Rp_l := Sl.mono Rp_l hle43
          have R6 := Sl.mono R6 hle43
          have hA23 := At.mono hA23 hle43 (by simp)
          have hA24 := At.mono hA24 hle43 (by simp)
          have hA33 := At.mono hA33 hle43 (by simp)
          have R38 := Sl.mono R38 hle43
          refine WL.valw (R.as (v := v40) rfl) ?_
          refine WL.nil ?_
          refine WP.region ?_
          refine WL.valw (R.mv (v := (int i_8)) h9) ?_
          refine WL.valw (R.add rfl rfl) ?_
          refine WL.valw (R.as (v := (int (wr (i_8 + 1)))) rfl) ?_
          refine WL.nil ?_
          obtain rfl := Option.some.inj hy16
          exact ⟨rfl, ⟨H42, v40, h2, h3, rfl, rfl, Rp_l, R44, (S.drop _ (.cons _ (.cons_cons _ .slnil)))⟩⟩
        · refine WP.condF rfl hc30 ?_
          refine WP.skip ?_
          refine WP.region ?_
          refine WL.valw (R.mv (v := (int i_8)) h9) ?_
          refine WL.valw (R.add rfl rfl) ?_
          refine WL.valw (R.as (v := (int (wr (i_8 + 1)))) rfl) ?_
          refine WL.nil ?_
          obtain rfl := Option.some.inj hy16
          exact ⟨rfl, ⟨H28, v5, h2, h3, h7, rfl, Rp_l, R6, S⟩⟩
      · refine WP.condF rfl hc20 ?_
        refine WP.exit ?_
        obtain rfl := Option.some.inj hy16
        obtain rfl := hy17
        exact ⟨H1, v5, h7, R6, S⟩
  · rintro f w ⟨H10, v12, h14, R13, S⟩
    refine WP.seq ?_
    refine WP.region ?_
    refine WL.valw (R.mv (v := v12) h14) ?_
    refine WL.valw (R.as (v := v12) rfl) ?_
    refine WL.nil ?_
    obtain rfl := Option.some.inj h
    refine WP.ret (Out.one rfl S rfl ?_)
    exact R13
set_option maxRecDepth 10000 in
set_option maxHeartbeats 4000000 in
theorem law26_EntryKeeps_ok {w0 : World} {H0 : Hp} (hw : Holds w0 H0) (hG : Tryz.Gl w0) (p_ppend : GRequest) (p_x1 : GResponse) (p_x2 : Int) (p_x3 : Int) (p_x4 : Int) (p_x5 : Str) {vp_ppend3 : Value} {vp_x13 : Value} (Rp_ppend3 : Sl (α := GField) H0 vp_ppend3 p_ppend.fFields) (Rp_x13 : Sl (α := GField) H0 vp_x13 p_x1.fFields) {r : Bool} (h : law26_EntryKeeps p_ppend p_x1 p_x2 p_x3 p_x4 p_x5 = some r) :
    Con Tryz.prog 6 [(agg [(str p_ppend.fMethod), (str p_ppend.fTarget), (int p_ppend.fMinor), vp_ppend3, (str p_ppend.fBody)]), (agg [(int p_x1.fMinor), (int p_x1.fStatus), (str p_x1.fReason), vp_x13, (str p_x1.fBody)]), (int p_x2), (int p_x3), (int p_x4), (str p_x5)] w0 H0 (fun H' v => v = (boo r)) := by
  refine Con.mk (N := 101) Tryz.func6 rfl rfl (by kernel_rfl) rfl ?_
  have S := St.start hw
  refine WP.seq ?_
  refine WP.region ?_
  refine W.box [(str p_ppend.fMethod), (str p_ppend.fTarget), (int p_ppend.fMinor), vp_ppend3, (str p_ppend.fBody)] S rfl rfl ?_
  intro b1 w2 S
  refine W.box [(int p_x1.fMinor), (int p_x1.fStatus), (str p_x1.fReason), vp_x13, (str p_x1.fBody)] S rfl rfl ?_
  intro b3 w4 S
  refine WL.valw (R.as (v := (boo false)) rfl) ?_
  refine WL.nil ?_
  refine WP.seq ?_
  refine WP.seq ?_
  refine WP.region ?_
  refine WL.valw (R.loadBN (i := 1) (vs := [(str p_ppend.fMethod), (str p_ppend.fTarget), (int p_ppend.fMinor), vp_ppend3, (str p_ppend.fBody)]) S rfl rfl lay40 rfl rfl) ?_
  obtain ⟨r5, hr5, h⟩ := bindE h
  refine W.call S rfl (keep_Request_ok S.holds (hG.post S.post) p_ppend Rp_ppend3 hr5) ?_
  rintro v6 w7 H8 hle9 S rfl
  have Rp_ppend3 := Sl.mono Rp_ppend3 hle9
  have Rp_x13 := Sl.mono Rp_x13 hle9
  refine WL.valw (R.not rfl) ?_
  refine WL.valw (R.mv (v := (boo (!r5))) rfl) ?_
  obtain ⟨b17, hg11, h⟩ := bindE h
  refine WL.grpw 4 [22, 23, 24] 25 (boo b17) (fun w => ∃ H' : Hp, H8.le H' ∧ St w0 H0 w H' [.box b3 30 [(int p_x1.fMinor), (int p_x1.fStatus), (str p_x1.fReason), vp_x13, (str p_x1.fBody)], .box b1 40 [(str p_ppend.fMethod), (str p_ppend.fTarget), (int p_ppend.fMinor), vp_ppend3, (str p_ppend.fBody)]]) ?_ ?_
  · rcases boolE (!r5) with hb10 | hb10
    · replace hg11 := condT hg11 hb10
      refine WL.gno rfl rfl hb10 ?_
      refine WL.gno rfl rfl hb10 ?_
      refine WL.gno rfl rfl hb10 ?_
      refine WL.valw (R.pickT rfl hb10 rfl) ?_
      exact WL.nil ⟨(congrArg boo (Option.some.inj hg11)), (by repeat (first | refine agree_upd rfl ?_ | refine agree_upds' rfl ?_ | exact agree_refl)), ⟨H8, (Hp.le.refl _), S⟩⟩
    · replace hg11 := condF hg11 hb10
      refine WL.gyes rfl rfl hb10 ?_
      refine WL.valw (R.loadBN (i := 0) (vs := [(int p_x1.fMinor), (int p_x1.fStatus), (str p_x1.fReason), vp_x13, (str p_x1.fBody)]) S rfl rfl lay30 rfl rfl) ?_
      refine WL.gyes rfl rfl hb10 ?_
      obtain ⟨r12, hr12, hg11⟩ := bindE hg11
      refine W.call S rfl (keep_Response_ok S.holds (hG.post S.post) p_x1 Rp_x13 hr12) ?_
      rintro v13 w14 H15 hle16 S rfl
      have Rp_ppend3 := Sl.mono Rp_ppend3 hle16
      have Rp_x13 := Sl.mono Rp_x13 hle16
      refine WL.gyes rfl rfl hb10 ?_
      refine WL.valw (R.not rfl) ?_
      refine WL.valw (R.pickF rfl hb10 rfl) ?_
      exact WL.nil ⟨(congrArg boo (Option.some.inj hg11)), (by repeat (first | refine agree_upd rfl ?_ | refine agree_upds' rfl ?_ | exact agree_refl)), ⟨H15, hle16, S⟩⟩
  · intro us w19 ⟨H18, hle20, S⟩
    have Rp_ppend3 := Sl.mono Rp_ppend3 hle20
    have Rp_x13 := Sl.mono Rp_x13 hle20
    refine WL.valw (R.mv (v := (boo b17)) rfl) ?_
    refine WL.grp 4 [27, 28, 29] 30 (boo (b17 || (decide (100 < (p_x5.length : Int))))) ?_ ?_
    · rcases boolE b17 with hb21 | hb21
      · refine WL.gno rfl rfl hb21 ?_
        refine WL.gno rfl rfl hb21 ?_
        refine WL.gno rfl rfl hb21 ?_
        refine WL.valw (R.pickT rfl hb21 rfl) ?_
        exact WL.nil ⟨(orT hb21), (by repeat (first | refine agree_upd rfl ?_ | refine agree_upds' rfl ?_ | exact agree_refl)), rfl⟩
      · refine WL.gyes rfl rfl hb21 ?_
        refine WL.valw (R.mv (v := (str p_x5)) rfl) ?_
        refine WL.gyes rfl rfl hb21 ?_
        refine WL.valw (R.lenS (a := p_x5) rfl Tryz.underlying9) ?_
        refine WL.gyes rfl rfl hb21 ?_
        refine WL.valw (R.gtr rfl rfl) ?_
        refine WL.valw (R.pickF rfl hb21 rfl) ?_
        exact WL.nil ⟨(orF hb21), (by repeat (first | refine agree_upd rfl ?_ | refine agree_upds' rfl ?_ | exact agree_refl)), rfl⟩
    · intro us
      refine WL.nil ?_
      rcases condE h with ⟨hc23, h⟩ | ⟨hc23, h⟩
      · refine WP.condT rfl hc23 ?_
        refine WP.seq ?_
        refine WP.region ?_
        refine WL.valw (R.as (v := (boo true)) rfl) ?_
        refine WL.nil ?_
        obtain rfl := Option.some.inj h
        refine WP.ret (Out.one rfl S rfl ?_)
        exact rfl
      · refine WP.condF rfl hc23 ?_
        refine WP.skip ?_
        refine WP.seq ?_
        refine WP.region ?_
        refine WL.valw (R.loadBN (i := 1) (vs := [(str p_ppend.fMethod), (str p_ppend.fTarget), (int p_ppend.fMinor), vp_ppend3, (str p_ppend.fBody)]) S rfl rfl lay40 rfl rfl) ?_
        refine WL.valw (R.loadBN (i := 0) (vs := [(int p_x1.fMinor), (int p_x1.fStatus), (str p_x1.fReason), vp_x13, (str p_x1.fBody)]) S rfl rfl lay30 rfl rfl) ?_
        refine WL.valw (R.mv (v := (int p_x2)) rfl) ?_
        refine WL.valw (R.mv (v := (int p_x3)) rfl) ?_
        obtain ⟨r24, hr24, h⟩ := bindE h
        refine W.call S rfl (entry_Make_ok S.holds (hG.post S.post) p_ppend p_x1 p_x2 p_x3 Rp_ppend3 Rp_x13 hr24) ?_
        rintro v25 w26 H27 hle28 S ⟨u29, u31, u33, u35, u37, rfl, R30, R32, R34, R36, R38⟩
        have Rp_ppend3 := Sl.mono Rp_ppend3 hle28
        have Rp_x13 := Sl.mono Rp_x13 hle28
        refine WL.valw (R.mv (v := (.tuple ⟨[(agg [u29, u31, u33, (str r24.1.fReason), u35, (str r24.1.fBody), (int r24.1.fRequested), (int r24.1.fReceived)]), u37]⟩)) rfl) ?_
        refine WL.valw (R.ext rfl rfl) ?_
        refine WL.valw (R.ext rfl rfl) ?_
        refine W.alloc [(.slice none 0 0), (.slice none 0 0), (.slice none 0 0), (str []), (.slice none 0 0), (str []), (int 0), (int 0)] S zer26 ?_
        intro b39 w40 S
        refine W.store (i := 0) [u29, u31, u33, (str r24.1.fReason), u35, (str r24.1.fBody), (int r24.1.fRequested), (int r24.1.fReceived)] S rfl rfl rfl lay26 rfl (AllOne.all (l := [u29, u31, u33, (str r24.1.fReason), u35, (str r24.1.fBody), (int r24.1.fRequested), (int r24.1.fReceived)]) (.cons (Sl.oneC R30) (.cons (Sl.oneC R32) (.cons (Sl.oneC R34) (.cons rfl (.cons (Sl.oneC R36) (.cons rfl (.cons rfl (.cons rfl .nil))))))))) (Nat.le_of_ble_eq_true rfl) rfl ?_
        intro w41 S
        refine WL.valw (R.as (v := u37) rfl) ?_
        refine WL.nil ?_
        refine WP.seq ?_
        refine WP.region ?_
        refine WL.valw (R.loadBN (i := 0) (vs := [u29, u31, u33, (str r24.1.fReason), u35, (str r24.1.fBody), (int r24.1.fRequested), (int r24.1.fReceived)]) S rfl rfl lay26 rfl rfl) ?_
        refine WL.valw (R.mv (v := (int p_x4)) rfl) ?_
        refine WL.valw (R.mv (v := (str p_x5)) rfl) ?_
        obtain ⟨r42, hr42, h⟩ := bindE h
        refine W.call S rfl (entry_Response_ok S.holds (hG.post S.post) r24.1 p_x4 p_x5 R30 R32 R34 R36 hr42) ?_
        rintro v43 w44 H45 hle46 S ⟨u47, rfl, R48⟩
        have Rp_ppend3 := Sl.mono Rp_ppend3 hle46
        have Rp_x13 := Sl.mono Rp_x13 hle46
        have R30 := Sl.mono R30 hle46
        have R32 := Sl.mono R32 hle46
        have R34 := Sl.mono R34 hle46
        have R36 := Sl.mono R36 hle46
        have R38 := Sl.mono R38 hle46
        refine W.alloc [(int 0), (int 0), (str []), (.slice none 0 0), (str [])] S zer30 ?_
        intro b49 w50 S
        refine W.store (i := 0) [(int r42.fMinor), (int r42.fStatus), (str r42.fReason), u47, (str r42.fBody)] S rfl rfl rfl lay30 rfl (AllOne.all (l := [(int r42.fMinor), (int r42.fStatus), (str r42.fReason), u47, (str r42.fBody)]) (.cons rfl (.cons rfl (.cons rfl (.cons (Sl.oneC R48) (.cons rfl .nil)))))) (Nat.le_of_ble_eq_true rfl) rfl ?_
        intro w51 S
        refine WL.nil ?_
        refine WP.seq ?_
        refine WP.region ?_
        refine WL.valw (R.fieldB rfl fld30_3) ?_
        refine WL.valw (R.loadB (i := 0) (v := u47) S rfl rfl lay24 rfl) ?_
        refine WL.valw (R.lenL (α := GField) (xs := r42.fFields) (H := H45) R48 rfl Tryz.underlying24) ?_
        refine WL.valw (R.as (v := (int (r42.fFields.length : Int))) rfl) ?_
        refine WL.nil ?_
        refine WP.seq ?_
        refine WP.seq ?_
        refine WP.region ?_
        refine WL.valw (R.mv (v := (int (r42.fFields.length : Int))) rfl) ?_
        refine WL.valw (R.lss rfl rfl) ?_
        refine WL.valw (R.mv (v := (boo (decide ((r42.fFields.length : Int) < 2)))) rfl) ?_
        refine WL.grp 4 [49, 50, 51] 52 (boo ((decide ((r42.fFields.length : Int) < 2)) || (r42.fStatus != 200))) ?_ ?_
        · rcases boolE (decide ((r42.fFields.length : Int) < 2)) with hb52 | hb52
          · refine WL.gno rfl rfl hb52 ?_
            refine WL.gno rfl rfl hb52 ?_
            refine WL.gno rfl rfl hb52 ?_
            refine WL.valw (R.pickT rfl hb52 rfl) ?_
            exact WL.nil ⟨(orT hb52), (by repeat (first | refine agree_upd rfl ?_ | refine agree_upds' rfl ?_ | exact agree_refl)), rfl⟩
          · refine WL.gyes rfl rfl hb52 ?_
            refine WL.valw (R.fieldB rfl fld30_1) ?_
            refine WL.gyes rfl rfl hb52 ?_
            refine WL.valw (R.loadB (i := 0) (v := (int r42.fStatus)) S rfl rfl lay3 rfl) ?_
            refine WL.gyes rfl rfl hb52 ?_
            refine WL.valw (R.neq rfl rfl) ?_
            refine WL.valw (R.pickF rfl hb52 rfl) ?_
            exact WL.nil ⟨(orF hb52), (by repeat (first | refine agree_upd rfl ?_ | refine agree_upds' rfl ?_ | exact agree_refl)), rfl⟩
        · intro us
          refine WL.valw (R.mv (v := (boo ((decide ((r42.fFields.length : Int) < 2)) || (r42.fStatus != 200)))) rfl) ?_
          refine WL.grp 6 [54, 55, 56, 57, 58] 59 (boo (((decide ((r42.fFields.length : Int) < 2)) || (r42.fStatus != 200)) || (r42.fBody != p_x1.fBody))) ?_ ?_
          · rcases boolE ((decide ((r42.fFields.length : Int) < 2)) || (r42.fStatus != 200)) with hb54 | hb54
            · refine WL.gno rfl rfl hb54 ?_
              refine WL.gno rfl rfl hb54 ?_
              refine WL.gno rfl rfl hb54 ?_
              refine WL.gno rfl rfl hb54 ?_
              refine WL.gno rfl rfl hb54 ?_
              refine WL.valw (R.pickT rfl hb54 rfl) ?_
              exact WL.nil ⟨(orT hb54), (by repeat (first | refine agree_upd rfl ?_ | refine agree_upds' rfl ?_ | exact agree_refl)), rfl⟩
            · refine WL.gyes rfl rfl hb54 ?_
              refine WL.valw (R.fieldB rfl fld30_4) ?_
              refine WL.gyes rfl rfl hb54 ?_
              refine WL.valw (R.loadB (i := 0) (v := (str r42.fBody)) S rfl rfl lay9 rfl) ?_
              refine WL.gyes rfl rfl hb54 ?_
              refine WL.valw (R.fieldB rfl fld30_4) ?_
              refine WL.gyes rfl rfl hb54 ?_
              refine WL.valw (R.loadB (i := 2) (v := (str p_x1.fBody)) S rfl rfl lay9 rfl) ?_
              refine WL.gyes rfl rfl hb54 ?_
              refine WL.valw (R.neqS (a := r42.fBody) (b := p_x1.fBody) rfl rfl) ?_
              refine WL.valw (R.pickF rfl hb54 rfl) ?_
              exact WL.nil ⟨(orF hb54), (by repeat (first | refine agree_upd rfl ?_ | refine agree_upds' rfl ?_ | exact agree_refl)), rfl⟩
          · intro us
            refine WL.valw (R.mv (v := (boo (((decide ((r42.fFields.length : Int) < 2)) || (r42.fStatus != 200)) || (r42.fBody != p_x1.fBody)))) rfl) ?_
            refine WL.grp 6 [61, 62, 63, 64, 65] 66 (boo ((((decide ((r42.fFields.length : Int) < 2)) || (r42.fStatus != 200)) || (r42.fBody != p_x1.fBody)) || (r42.fReason != p_x1.fReason))) ?_ ?_
            · rcases boolE (((decide ((r42.fFields.length : Int) < 2)) || (r42.fStatus != 200)) || (r42.fBody != p_x1.fBody)) with hb56 | hb56
              · refine WL.gno rfl rfl hb56 ?_
                refine WL.gno rfl rfl hb56 ?_
                refine WL.gno rfl rfl hb56 ?_
                refine WL.gno rfl rfl hb56 ?_
                refine WL.gno rfl rfl hb56 ?_
                refine WL.valw (R.pickT rfl hb56 rfl) ?_
                exact WL.nil ⟨(orT hb56), (by repeat (first | refine agree_upd rfl ?_ | refine agree_upds' rfl ?_ | exact agree_refl)), rfl⟩
              · refine WL.gyes rfl rfl hb56 ?_
                refine WL.valw (R.fieldB rfl fld30_2) ?_
                refine WL.gyes rfl rfl hb56 ?_
                refine WL.valw (R.loadB (i := 0) (v := (str r42.fReason)) S rfl rfl lay9 rfl) ?_
                refine WL.gyes rfl rfl hb56 ?_
                refine WL.valw (R.fieldB rfl fld30_2) ?_
                refine WL.gyes rfl rfl hb56 ?_
                refine WL.valw (R.loadB (i := 2) (v := (str p_x1.fReason)) S rfl rfl lay9 rfl) ?_
                refine WL.gyes rfl rfl hb56 ?_
                refine WL.valw (R.neqS (a := r42.fReason) (b := p_x1.fReason) rfl rfl) ?_
                refine WL.valw (R.pickF rfl hb56 rfl) ?_
                exact WL.nil ⟨(orF hb56), (by repeat (first | refine agree_upd rfl ?_ | refine agree_upds' rfl ?_ | exact agree_refl)), rfl⟩
            · intro us
              refine WL.nil ?_
              rcases condE h with ⟨hc58, h⟩ | ⟨hc58, h⟩
              · refine WP.condT rfl hc58 ?_
                refine WP.seq ?_
                refine WP.region ?_
                refine WL.valw (R.as (v := (boo false)) rfl) ?_
                refine WL.nil ?_
                obtain rfl := Option.some.inj h
                refine WP.ret (Out.one rfl S rfl ?_)
                exact rfl
              · refine WP.condF rfl hc58 ?_
                refine WP.skip ?_
                refine WP.seq ?_
                refine WP.region ?_
                refine WL.valw (R.fieldB rfl fld30_3) ?_
                refine WL.valw (R.loadB (i := 2) (v := vp_x13) S rfl rfl lay24 rfl) ?_
                obtain ⟨r59, hr59, h⟩ := bindE h
                refine W.call S rfl (ref19_Strip_ok S.holds (hG.post S.post) p_x1.fFields Rp_x13 hr59) ?_
                rintro v60 w61 H62 hle63 S R64
                have Rp_ppend3 := Sl.mono Rp_ppend3 hle63
                have Rp_x13 := Sl.mono Rp_x13 hle63
                have R30 := Sl.mono R30 hle63
                have R32 := Sl.mono R32 hle63
                have R34 := Sl.mono R34 hle63
                have R36 := Sl.mono R36 hle63
                have R38 := Sl.mono R38 hle63
                have R48 := Sl.mono R48 hle63
                obtain ⟨r65, hr65, h⟩ := bindE h
                refine W.call S rfl (ref01_Remove_ok S.holds (hG.post S.post) r59 [65, 103, 101] R64 hr65) ?_
                rintro v66 w67 H68 hle69 S R70
                have Rp_ppend3 := Sl.mono Rp_ppend3 hle69
                have Rp_x13 := Sl.mono Rp_x13 hle69
                have R30 := Sl.mono R30 hle69
                have R32 := Sl.mono R32 hle69
                have R34 := Sl.mono R34 hle69
                have R36 := Sl.mono R36 hle69
                have R38 := Sl.mono R38 hle69
                have R48 := Sl.mono R48 hle69
                have R64 := Sl.mono R64 hle69
                refine WL.valw (R.as (v := v66) rfl) ?_
                refine WL.nil ?_
                refine WP.seq ?_
                refine WP.region ?_
                refine WL.valw (R.fieldB rfl fld30_3) ?_
                refine WL.valw (R.loadB (i := 0) (v := u47) S rfl rfl lay24 rfl) ?_
                refine WL.valw (R.mv (v := (int (r42.fFields.length : Int))) rfl) ?_
                refine WL.valw (R.sub rfl rfl) ?_
                obtain ⟨l71, hl71, h⟩ := bindE h
                refine W.subHi (α := GField) R48 rfl rfl el24 hl71 ?_
                intro v72 R73
                refine WL.valw (R.mv (v := v66) rfl) ?_
                obtain ⟨r74, hr74, h⟩ := bindE h
                refine W.call S rfl (ref26_SameFields_ok S.holds (hG.post S.post) l71 r65 R73 R70 hr74) ?_
                rintro v75 w76 H77 hle78 S rfl
                have Rp_ppend3 := Sl.mono Rp_ppend3 hle78
                have Rp_x13 := Sl.mono Rp_x13 hle78
                have R30 := Sl.mono R30 hle78
                have R32 := Sl.mono R32 hle78
                have R34 := Sl.mono R34 hle78
                have R36 := Sl.mono R36 hle78
                have R38 := Sl.mono R38 hle78
                have R48 := Sl.mono R48 hle78
                have R64 := Sl.mono R64 hle78
                have R70 := Sl.mono R70 hle78
                have R73 := Sl.mono R73 hle78
                refine WL.valw (R.mv (v := (boo r74)) rfl) ?_
                obtain ⟨b85, hg80, h⟩ := bindE h
                refine WL.grp 9 [79, 80, 81, 82, 83, 84, 85, 86] 87 (boo b85) ?_ ?_
                · rcases boolE r74 with hb79 | hb79
                  · replace hg80 := condT hg80 hb79
                    refine WL.gyes rfl rfl hb79 ?_
                    refine WL.valw (R.fieldB rfl fld30_3) ?_
                    refine WL.gyes rfl rfl hb79 ?_
                    refine WL.valw (R.loadB (i := 0) (v := u47) S rfl rfl lay24 rfl) ?_
                    refine WL.gyes rfl rfl hb79 ?_
                    refine WL.valw (R.mv (v := (int (r42.fFields.length : Int))) rfl) ?_
                    refine WL.gyes rfl rfl hb79 ?_
                    refine WL.valw (R.sub rfl rfl) ?_
                    refine WL.gyes rfl rfl hb79 ?_
                    obtain ⟨x81, hx81, hg80⟩ := bindE hg80
                    refine W.idx (α := GField) R48 rfl rfl el24 hx81 ?_
                    rintro a82 _ hA83 rfl
                    refine WL.gyes rfl rfl hb79 ?_
                    refine WL.valw (R.field rfl fld53_0) ?_
                    have hA84 := At.add hA83 0 (by simp)
                    refine WL.gyes rfl rfl hb79 ?_
                    refine WL.valw (R.loadH (v := (str x81.fName)) S rfl hA84 lay9 rfl) ?_
                    refine WL.gyes rfl rfl hb79 ?_
                    refine WL.valw (R.eqlS (a := x81.fName) (b := [65, 103, 101]) rfl rfl) ?_
                    refine WL.valw (R.pickT rfl hb79 rfl) ?_
                    exact WL.nil ⟨(congrArg boo (Option.some.inj hg80)), (by repeat (first | refine agree_upd rfl ?_ | refine agree_upds' rfl ?_ | exact agree_refl)), rfl⟩
                  · replace hg80 := condF hg80 hb79
                    refine WL.gno rfl rfl hb79 ?_
                    refine WL.gno rfl rfl hb79 ?_
                    refine WL.gno rfl rfl hb79 ?_
                    refine WL.gno rfl rfl hb79 ?_
                    refine WL.gno rfl rfl hb79 ?_
                    refine WL.gno rfl rfl hb79 ?_
                    refine WL.gno rfl rfl hb79 ?_
                    refine WL.gno rfl rfl hb79 ?_
                    refine WL.valw (R.pickF rfl hb79 rfl) ?_
                    exact WL.nil ⟨(congrArg boo (Option.some.inj hg80)), (by repeat (first | refine agree_upd rfl ?_ | refine agree_upds' rfl ?_ | exact agree_refl)), rfl⟩
                · intro us
                  refine WL.valw (R.mv (v := (boo b85)) rfl) ?_
                  obtain ⟨b92, hg87, h⟩ := bindE h
                  refine WL.grp 9 [89, 90, 91, 92, 93, 94, 95, 96] 97 (boo b92) ?_ ?_
                  · rcases boolE b85 with hb86 | hb86
                    · replace hg87 := condT hg87 hb86
                      refine WL.gyes rfl rfl hb86 ?_
                      refine WL.valw (R.fieldB rfl fld30_3) ?_
                      refine WL.gyes rfl rfl hb86 ?_
                      refine WL.valw (R.loadB (i := 0) (v := u47) S rfl rfl lay24 rfl) ?_
                      refine WL.gyes rfl rfl hb86 ?_
                      refine WL.valw (R.mv (v := (int (r42.fFields.length : Int))) rfl) ?_
                      refine WL.gyes rfl rfl hb86 ?_
                      refine WL.valw (R.sub rfl rfl) ?_
                      refine WL.gyes rfl rfl hb86 ?_
                      obtain ⟨x88, hx88, hg87⟩ := bindE hg87
                      refine W.idx (α := GField) R48 rfl rfl el24 hx88 ?_
                      rintro a89 _ hA90 rfl
                      refine WL.gyes rfl rfl hb86 ?_
                      refine WL.valw (R.field rfl fld53_0) ?_
                      have hA91 := At.add hA90 0 (by simp)
                      refine WL.gyes rfl rfl hb86 ?_
                      refine WL.valw (R.loadH (v := (str x88.fName)) S rfl hA91 lay9 rfl) ?_
                      refine WL.gyes rfl rfl hb86 ?_
                      refine WL.valw (R.eqlS (a := x88.fName) (b := [86, 105, 97]) rfl rfl) ?_
                      refine WL.valw (R.pickT rfl hb86 rfl) ?_
                      exact WL.nil ⟨(congrArg boo (Option.some.inj hg87)), (by repeat (first | refine agree_upd rfl ?_ | refine agree_upds' rfl ?_ | exact agree_refl)), rfl⟩
                    · replace hg87 := condF hg87 hb86
                      refine WL.gno rfl rfl hb86 ?_
                      refine WL.gno rfl rfl hb86 ?_
                      refine WL.gno rfl rfl hb86 ?_
                      refine WL.gno rfl rfl hb86 ?_
                      refine WL.gno rfl rfl hb86 ?_
                      refine WL.gno rfl rfl hb86 ?_
                      refine WL.gno rfl rfl hb86 ?_
                      refine WL.gno rfl rfl hb86 ?_
                      refine WL.valw (R.pickF rfl hb86 rfl) ?_
                      exact WL.nil ⟨(congrArg boo (Option.some.inj hg87)), (by repeat (first | refine agree_upd rfl ?_ | refine agree_upds' rfl ?_ | exact agree_refl)), rfl⟩
                  · intro us
                    refine WL.valw (R.mv (v := (boo b92)) rfl) ?_
                    obtain ⟨b100, hg94, h⟩ := bindE h
                    refine WL.grpw 2 [99] 100 (boo b100) (fun w => ∃ H' : Hp, H77.le H' ∧ St w0 H0 w H' [.box b49 30 [(int r42.fMinor), (int r42.fStatus), (str r42.fReason), u47, (str r42.fBody)], .box b39 26 [u29, u31, u33, (str r24.1.fReason), u35, (str r24.1.fBody), (int r24.1.fRequested), (int r24.1.fReceived)], .box b3 30 [(int p_x1.fMinor), (int p_x1.fStatus), (str p_x1.fReason), vp_x13, (str p_x1.fBody)], .box b1 40 [(str p_ppend.fMethod), (str p_ppend.fTarget), (int p_ppend.fMinor), vp_ppend3, (str p_ppend.fBody)]]) ?_ ?_
                    · rcases boolE b92 with hb93 | hb93
                      · replace hg94 := condT hg94 hb93
                        refine WL.gyes rfl rfl hb93 ?_
                        obtain ⟨r95, hr95, hg94⟩ := bindE hg94
                        refine W.call S rfl (law26_awake_ok S.holds (hG.post S.post)  hr95) ?_
                        rintro v96 w97 H98 hle99 S rfl
                        have Rp_ppend3 := Sl.mono Rp_ppend3 hle99
                        have Rp_x13 := Sl.mono Rp_x13 hle99
                        have R30 := Sl.mono R30 hle99
                        have R32 := Sl.mono R32 hle99
                        have R34 := Sl.mono R34 hle99
                        have R36 := Sl.mono R36 hle99
                        have R38 := Sl.mono R38 hle99
                        have R48 := Sl.mono R48 hle99
                        have R64 := Sl.mono R64 hle99
                        have R70 := Sl.mono R70 hle99
                        have R73 := Sl.mono R73 hle99
                        refine WL.valw (R.pickT rfl hb93 rfl) ?_
                        exact WL.nil ⟨(congrArg boo (Option.some.inj hg94)), (by repeat (first | refine agree_upd rfl ?_ | refine agree_upds' rfl ?_ | exact agree_refl)), ⟨H98, hle99, S⟩⟩
                      · replace hg94 := condF hg94 hb93
                        refine WL.gno rfl rfl hb93 ?_
                        refine WL.valw (R.pickF rfl hb93 rfl) ?_
                        exact WL.nil ⟨(congrArg boo (Option.some.inj hg94)), (by repeat (first | refine agree_upd rfl ?_ | refine agree_upds' rfl ?_ | exact agree_refl)), ⟨H77, (Hp.le.refl _), S⟩⟩
                    · intro us w102 ⟨H101, hle103, S⟩
                      have Rp_ppend3 := Sl.mono Rp_ppend3 hle103
                      have Rp_x13 := Sl.mono Rp_x13 hle103
                      have R30 := Sl.mono R30 hle103
                      have R32 := Sl.mono R32 hle103
                      have R34 := Sl.mono R34 hle103
                      have R36 := Sl.mono R36 hle103
                      have R38 := Sl.mono R38 hle103
                      have R48 := Sl.mono R48 hle103
                      have R64 := Sl.mono R64 hle103
                      have R70 := Sl.mono R70 hle103
                      have R73 := Sl.mono R73 hle103
                      refine WL.valw (R.as (v := (boo b100)) rfl) ?_
                      refine WL.nil ?_
                      obtain rfl := Option.some.inj h
                      refine WP.ret (Out.one rfl S rfl ?_)
                      exact rfl
end Go.Proofs
