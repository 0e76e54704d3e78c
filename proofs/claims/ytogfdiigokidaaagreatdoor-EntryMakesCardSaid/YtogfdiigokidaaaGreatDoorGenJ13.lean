/- A part of the proof of laws of the seat: written by program over the translation. -/
import Derived.Test.YtogfdiigokidaaaGreatDoorEng31
import Derived.Test.YtogfdiigokidaaaGreatDoorGenJ12
namespace Go.Proofs
set_option maxHeartbeats 4000000
set_option maxRecDepth 10000
open Go.Eng Go.Eng.Pure
set_option linter.unusedVariables false
theorem entry_respond_ok {w0 : World} {H0 : Hp} (hw : Holds w0 H0) (hG : Tryz.Gl w0) (p_e : GEntry) (p_age : Int) (p_name : Str) {vp_e0 : Value} {vp_e1 : Value} {vp_e2 : Value} {vp_e4 : Value} (Rp_e0 : Sl (α := (List Str)) H0 vp_e0 p_e.fKeys) (Rp_e1 : Sl (α := Str) H0 vp_e1 p_e.fVary) (Rp_e2 : Sl (α := Str) H0 vp_e2 p_e.fSnapshot) (Rp_e4 : Sl (α := GField) H0 vp_e4 p_e.fFields) {r : GResponse} (h : entry_respond p_e p_age p_name = some r) :
  Con Tryz.prog 31 [(agg [vp_e0, vp_e1, vp_e2, (str p_e.fReason), vp_e4, (str p_e.fBody), (int p_e.fRequested), (int p_e.fReceived)]), (int p_age), (str p_name)] w0 H0 (fun H' v => ∃ u1 : Value, v = (agg [(int r.fMinor), (int r.fStatus), (str r.fReason), u1, (str r.fBody)]) ∧ Sl (α := GField) H' u1 r.fFields) := by
 refine Con.mk (N := 24) Tryz.func31 rfl rfl (by kernel_rfl) rfl ?_
 have S := St.start hw
 refine WP.s<|WP.g<|W.box [vp_e0, vp_e1, vp_e2, (str p_e.fReason), vp_e4, (str p_e.fBody), (int p_e.fRequested), (int p_e.fReceived)] S rfl rfl ?_
 intro b1 w2 S
 refine W.alloc [(int 0), (int 0), (str []), (.slice none 0 0), (str [])] S zer30 ?_
 intro b3 w4 S
 refine WL.e<|WP.s<|WP.g<|WL.w (R.fieldB rfl fld26_4)<|WL.w (R.loadB (i := 1) (v := vp_e4) S rfl rfl lay24 rfl) ?_
 obtain ⟨r5, hr5, h⟩ := bindE h
 refine W.callS rfl (fieldline_Remove_okR hG p_e.fFields [65, 103, 101] S Rp_e4 hr5) ?_
 rintro v6 w7 H8 L12 hle9 S ⟨_, rfl, rfl, R11⟩
 replace S : St w0 H0 _ H8 [.row v6 53 2 r5.length, .box b3 30 [(int 0), (int 0), (str []), (.slice none 0 0), (str [])], .box b1 26 [vp_e0, vp_e1, vp_e2, (str p_e.fReason), vp_e4, (str p_e.fBody), (int p_e.fRequested), (int p_e.fReceived)]] := S
 refine WL.m (int p_age) rfl ?_
 obtain ⟨r13, hr13, h⟩ := bindE h
 refine W.call S rfl (ascii_Decimal_ok S.holds (hG.post S.post) p_age hr13) ?_
 rintro v14 w15 H16 hle17 S rfl
 have R11 := Sl.mono R11 hle17
 refine WL.w (R.build [(0, (str [65, 103, 101])), (1, (str r13))] [(str [65, 103, 101]), (str r13)] bp53 zer53 rfl rfl)<|W.bslice (α := GField) [(agg [(str [65, 103, 101]), (str r13)])] ([(⟨[65, 103, 101], r13⟩ : GField)] : List GField) S el24 rfl rfl rfl (by decide) (Go.Eng.encS ⟨rfl, rfl⟩ enc0) ?_
 intro u18 w19 H20 hle21 R22 S
 have R11 := Sl.mono R11 hle21
 obtain ⟨l23, hl23, h⟩ := bindE h
 refine W.app (α := GField) (i := 1) S el24 rfl rfl rfl R11 R22 hl23 ?_
 intro v24 w25 H26 hle27 R28 S
 refine WL.a (v24) rfl<|WL.e<|WP.s ?_
 obtain ⟨r29, hr29, h⟩ := bindE h
 refine WP.cut (fun f w => ∃ (H36 : Hp) (v38 : Value), f 6 = (ptr b3 0) ∧ Sl (α := GField) H36 v38 r29 ∧ St w0 H0 w H36 [.box b3 30 [(int 1), (int 200), (str p_e.fReason), v38, (str p_e.fBody)]]) ?_ ?_
 ·refine WP.drawC (Cl w0 H0 H26 [.box b1 26 [vp_e0, vp_e1, vp_e2, (str p_e.fReason), vp_e4, (str p_e.fBody), (int p_e.fRequested), (int p_e.fReceived)]]) (by kernel_rfl) 9 rfl #[false, false, false, false, false, false, false, false, false] rfl ?_
  have S := S.drew
  refine WC.take (i := 0) #[true, false, false, false, false, false, false, false, false] rfl (by kernel_rfl) (by kernel_rfl) (by kernel_rfl) rfl (fun _ _ => (R.fieldB rfl fld26_3))<|WC.take (i := 1) #[true, true, false, false, false, false, false, false, false] rfl (by kernel_rfl) (by kernel_rfl) (by kernel_rfl) rfl (fun w hw => by obtain ⟨_, hq, S⟩ := hw; exact (R.loadB (i := 0) (v := str p_e.fReason) S rfl rfl lay9 rfl))<|WC.take (i := 2) #[true, true, true, false, false, false, false, false, false] rfl (by kernel_rfl) (by kernel_rfl) (by kernel_rfl) rfl (fun _ _ => (R.mv (v := v24) rfl))<|WC.take (i := 3) #[true, true, true, true, false, false, false, false, false] rfl (by kernel_rfl) (by kernel_rfl) (by kernel_rfl) rfl (fun _ _ => (R.mv (v := str p_name) rfl))<|WC.take (i := 5) #[true, true, true, true, false, true, false, false, false] rfl (by kernel_rfl) (by kernel_rfl) (by kernel_rfl) rfl (fun _ _ => (R.fieldB rfl fld26_5))<|WC.take (i := 6) #[true, true, true, true, false, true, true, false, false] rfl (by kernel_rfl) (by kernel_rfl) (by kernel_rfl) rfl (fun w hw => by obtain ⟨_, hq, S⟩ := hw; exact (R.loadB (i := 0) (v := str p_e.fBody) S rfl rfl lay9 rfl)) ?_
  refine WC.next (rs := [4]) ⟨H26, (Hp.le.refl _), S.drop _ (.cons _ (.cons _ (.cons _ (.cons_cons _ .slnil))))⟩ (by kernel_rfl) (List.cons_ne_nil _ _) (all1 ?_)
  refine Nxt.mk (o := _) #[true, true, true, true, true, true, true, false, false] rfl rfl<|W.call S rfl (hop_Via_ok S.holds (hG.post S.post) l23 1 p_name R28 hr29) ?_
  rintro v40 w41 H42 hle43 S R44
  refine WL.e<|WC.take (i := 7) #[true, true, true, true, true, true, true, true, false] rfl (by kernel_rfl) (by kernel_rfl) (by kernel_rfl) rfl (fun _ _ => (R.build [(0, (int 1)), (1, (int 200)), (2, (str p_e.fReason)), (3, v40), (4, (str p_e.fBody))] [(int 1), (int 200), (str p_e.fReason), v40, (str p_e.fBody)] bp30 zer30 (by kernel_rfl) (by obtain ⟨_, _, rfl, _⟩ := R44; rfl))) ?_
  refine WC.next (rs := [8]) ⟨H42, hle43, S.drop _ (.cons _ (.cons _ (.cons _ (.cons_cons _ .slnil))))⟩ (by kernel_rfl) (List.cons_ne_nil _ _) (all1 ?_)
  refine Nxt.mk (o := _) #[true, true, true, true, true, true, true, true, true] rfl rfl<|W.store (i := 2) [(int 1), (int 200), (str p_e.fReason), v40, (str p_e.fBody)] S rfl rfl rfl lay30 rfl (AllOne.all (l := [(int 1), (int 200), (str p_e.fReason), v40, (str p_e.fBody)]) (.cons rfl (.cons rfl (.cons rfl (.cons (Sl.oneC R44) (.cons rfl .nil)))))) (Nat.le_of_ble_eq_true rfl) rfl ?_
  intro w45 S
  refine WL.e<|WC.done ⟨H42, hle43, S.drop _ (.cons _ (.cons _ (.cons _ (.cons_cons _ .slnil))))⟩ (by kernel_rfl) ?_
  have S3 := S
  replace S3 := S3.front 2 rfl
  replace S3 : St w0 H0 _ H42 [.box b3 30 [(int 1), (int 200), (str p_e.fReason), v40, (str p_e.fBody)], .row u18 53 2 ([(⟨[65, 103, 101], r13⟩ : GField)] : List GField).length, .row v24 53 2 l23.length, .box b1 26 [vp_e0, vp_e1, vp_e2, (str p_e.fReason), vp_e4, (str p_e.fBody), (int p_e.fRequested), (int p_e.fReceived)]] := S3
  replace S3 : St w0 H0 _ H42 [.box b3 30 [(int 1), (int 200), (str p_e.fReason), v40, (str p_e.fBody)]] := S3.drop _ (.cons_cons _ (.cons _ (.cons _ (.cons _ .slnil))))
  exact ⟨H42, v40, rfl, R44, S3⟩
 ·rintro f w ⟨H36, v38, h37, R39, S⟩
  obtain rfl := oi h
  refine WP.ret (Out.one rfl S (Res.cellB (i := 0) (cs := [(int 1), (int 200), (str p_e.fReason), v38, (str p_e.fBody)]) S h37 rfl lay30 rfl rfl) ?_)
  exact ⟨_, rfl, R39⟩
theorem entry_Response_ok {w0 : World} {H0 : Hp} (hw : Holds w0 H0) (hG : Tryz.Gl w0) (p_e : GEntry) (p_now : Int) (p_name : Str) {vp_e0 : Value} {vp_e1 : Value} {vp_e2 : Value} {vp_e4 : Value} (Rp_e0 : Sl (α := (List Str)) H0 vp_e0 p_e.fKeys) (Rp_e1 : Sl (α := Str) H0 vp_e1 p_e.fVary) (Rp_e2 : Sl (α := Str) H0 vp_e2 p_e.fSnapshot) (Rp_e4 : Sl (α := GField) H0 vp_e4 p_e.fFields) {r : GResponse} (h : entry_Response p_e p_now p_name = some r) :
  Con Tryz.prog 10 [(agg [vp_e0, vp_e1, vp_e2, (str p_e.fReason), vp_e4, (str p_e.fBody), (int p_e.fRequested), (int p_e.fReceived)]), (int p_now), (str p_name)] w0 H0 (fun H' v => ∃ u1 : Value, v = (agg [(int r.fMinor), (int r.fStatus), (str r.fReason), u1, (str r.fBody)]) ∧ Sl (α := GField) H' u1 r.fFields) := by
 refine Con.mk (N := 13) Tryz.func10 rfl rfl (by kernel_rfl) rfl ?_
 have S := St.start hw
 refine WP.s<|WP.g<|W.box [vp_e0, vp_e1, vp_e2, (str p_e.fReason), vp_e4, (str p_e.fBody), (int p_e.fRequested), (int p_e.fReceived)] S rfl rfl ?_
 intro b1 w2 S
 refine W.alloc [(int 0), (int 0), (str []), (.slice none 0 0), (str [])] S zer30 ?_
 intro b3 w4 S
 refine WL.e<|WP.s<|WP.quietTail 5 S (by kernel_rfl) (by kernel_rfl)<|WQ.val (fun w hw => by obtain ⟨_, hq, S⟩ := hw; exact (R.loadBN (i := 1) (vs := [vp_e0, vp_e1, vp_e2, (str p_e.fReason), vp_e4, (str p_e.fBody), (int p_e.fRequested), (int p_e.fReceived)]) S rfl rfl lay26 rfl rfl))<|WQ.val (fun w hw => by obtain ⟨_, hq, S⟩ := hw; exact (R.loadBN (i := 1) (vs := [vp_e0, vp_e1, vp_e2, (str p_e.fReason), vp_e4, (str p_e.fBody), (int p_e.fRequested), (int p_e.fReceived)]) S rfl rfl lay26 rfl rfl))<|WQ.val (fun _ _ => (R.mv (v := int p_now) rfl)) ?_
 obtain ⟨r8, hr8, h⟩ := bindE h
 refine WQ.call (v := int r8) rfl (fun w H' hq S => entry_Age_ok S.holds (hG.post S.post) p_e p_now (Sl.mono Rp_e0 hq) (Sl.mono Rp_e1 hq) (Sl.mono Rp_e2 hq) (Sl.mono Rp_e4 hq) hr8)<|WQ.val (fun _ _ => (R.mv (v := str p_name) rfl))<|WQ.nil ?_
 intro w5 H6 hle7 S
 have Rp_e0 := Sl.mono Rp_e0 hle7
 have Rp_e1 := Sl.mono Rp_e1 hle7
 have Rp_e2 := Sl.mono Rp_e2 hle7
 have Rp_e4 := Sl.mono Rp_e4 hle7
 obtain ⟨r13, hr13, h⟩ := bindE h
 refine W.call S rfl (entry_respond_ok S.holds (hG.post S.post) p_e r8 p_name Rp_e0 Rp_e1 Rp_e2 Rp_e4 hr13) ?_
 rintro v14 w15 H16 hle17 S ⟨u18, rfl, R19⟩
 refine W.store (i := 0) [(int r13.fMinor), (int r13.fStatus), (str r13.fReason), u18, (str r13.fBody)] S rfl rfl rfl lay30 rfl (AllOne.all (l := [(int r13.fMinor), (int r13.fStatus), (str r13.fReason), u18, (str r13.fBody)]) (.cons rfl (.cons rfl (.cons rfl (.cons (Sl.oneC R19) (.cons rfl .nil)))))) (Nat.le_of_ble_eq_true rfl) rfl ?_
 intro w20 S
 refine WL.e ?_
 obtain rfl := oi h
 refine WP.ret (Out.one rfl S (Res.cellB (i := 0) (cs := [(int r13.fMinor), (int r13.fStatus), (str r13.fReason), u18, (str r13.fBody)]) S rfl rfl lay30 rfl rfl) ?_)
 exact ⟨_, rfl, R19⟩
theorem entry_lengths_ok {w0 : World} {H0 : Hp} (hw : Holds w0 H0) (hG : Tryz.Gl w0) (p_l : (List Str)) {vp_l : Value} (Rp_l : Sl (α := Str) H0 vp_l p_l) {r : Int} (h : entry_lengths p_l = some r) :
  Con Tryz.prog 70 [vp_l] w0 H0 (fun H' v => v = (int r)) := by
 refine Con.mk (N := 19) Tryz.func70 rfl rfl (by kernel_rfl) rfl ?_
 have S := St.start hw
 refine WP.s<|WP.g<|WL.a (int 0) rfl<|WL.e<|WP.s<|WP.g<|WL.a (int 0) rfl<|WL.e<|WP.s<|WP.s<|WP.g<|WL.m (vp_l) rfl ?_
 refine WL.w (R.lenL (α := Str) (xs := p_l) (H := H0) Rp_l rfl Tryz.underlying23)<|WL.m (int 0) rfl<|WL.e ?_
 obtain ⟨n_9, hr15, h⟩ := bindE h
 refine WP.cut (fun f w => ∃ (H8 : Hp), f 3 = (int n_9) ∧ St w0 H0 w H8 []) ?_ ?_
 ·refine WP.block ?_
  refine WP.loopM (entry_lengths_L0 p_l) (fun s f w => match s with | (n_2, y_6) => ∃ (H1 : Hp), f 3 = (int n_2) ∧ f 6 = vp_l ∧ f 7 = (int (p_l.length : Int)) ∧ f 8 = (int y_6) ∧ Sl (α := Str) H1 vp_l p_l ∧ St w0 H0 w H1 []) (0, 0) n_9 hr15 ?_ ?_
  ·exact ⟨H0, rfl, rfl, rfl, rfl, Rp_l, S⟩
  ·intro s f w hI y11 hy12 hy13
   obtain ⟨n_2, y_6⟩ := s
   obtain ⟨H1, h3, h4, h5, h7, Rp_l, S⟩ := hI
   refine WP.s<|WP.g<|WL.w (R.lss h7 h5)<|WL.e<|WP.s ?_
   rcases condE hy12 with ⟨hc16, hy12⟩ | ⟨hc16, hy12⟩
   ·refine WP.condT rfl hc16<|WP.skip<|WP.s<|WP.block<|WP.s<|WP.g ?_
    obtain ⟨x17, hx17, hy12⟩ := bindE hy12
    refine W.idx (α := Str) Rp_l h4 h7 el23 hx17 ?_
    rintro a18 _ hA19 rfl
    refine WL.w (R.loadH (v := str x17) S rfl hA19 lay9 rfl)<|WL.a (str x17) rfl<|WL.e<|WP.g<|WL.m (int n_2) h3<|WL.m (str x17) rfl<|WL.w (R.lenS (a := x17) rfl Tryz.underlying9)<|WL.w (R.add rfl rfl)<|WL.w (R.add rfl rfl)<|WL.a (int (wr (n_2 + (wr (4 + (x17.length : Int)))))) rfl<|WL.e<|WP.g ?_
    refine WL.w (R.add h7 rfl)<|WL.m (int (wr (y_6 + 1))) rfl<|WL.e ?_
    obtain rfl := oi hy12
    exact ⟨rfl, ⟨H1, rfl, h4, h5, rfl, Rp_l, S⟩⟩
   ·refine WP.condF rfl hc16<|WP.exit ?_
    obtain rfl := oi hy12
    obtain rfl := hy13
    exact ⟨H1, h3, S⟩
 ·rintro f w ⟨H8, h10, S⟩
  refine WP.s<|WP.g<|WL.m (int n_9) h10<|WL.a (int n_9) rfl<|WL.e ?_
  obtain rfl := oi h
  refine WP.ret (Out.one rfl S rfl ?_)
  exact rfl
theorem entry_Size_ok {w0 : World} {H0 : Hp} (hw : Holds w0 H0) (hG : Tryz.Gl w0) (p_e : GEntry) {vp_e0 : Value} {vp_e1 : Value} {vp_e2 : Value} {vp_e4 : Value} (Rp_e0 : Sl (α := (List Str)) H0 vp_e0 p_e.fKeys) (Rp_e1 : Sl (α := Str) H0 vp_e1 p_e.fVary) (Rp_e2 : Sl (α := Str) H0 vp_e2 p_e.fSnapshot) (Rp_e4 : Sl (α := GField) H0 vp_e4 p_e.fFields) {r : Int} (h : entry_Size p_e = some r) :
  Con Tryz.prog 36 [(agg [vp_e0, vp_e1, vp_e2, (str p_e.fReason), vp_e4, (str p_e.fBody), (int p_e.fRequested), (int p_e.fReceived)])] w0 H0 (fun H' v => v = (int r)) := by
 refine Con.mk (N := 55) Tryz.func36 rfl rfl (by kernel_rfl) rfl ?_
 have S := St.start hw
 refine WP.s<|WP.g<|W.box [vp_e0, vp_e1, vp_e2, (str p_e.fReason), vp_e4, (str p_e.fBody), (int p_e.fRequested), (int p_e.fReceived)] S rfl rfl ?_
 intro b1 w2 S
 refine WL.a (int 0) rfl<|WL.e<|WP.s<|WP.quiet S (by kernel_rfl) (by kernel_rfl)<|WQ.val (fun _ _ => (R.fieldB rfl fld26_3))<|WQ.val (fun w hw => by obtain ⟨_, hq, S⟩ := hw; exact (R.loadB (i := 0) (v := str p_e.fReason) S rfl rfl lay9 rfl))<|WQ.val (fun _ _ => (R.lenS (a := p_e.fReason) rfl Tryz.underlying9))<|WQ.val (fun _ _ => (R.add rfl rfl))<|WQ.val (fun _ _ => (R.fieldB rfl fld26_5))<|WQ.val (fun w hw => by obtain ⟨_, hq, S⟩ := hw; exact (R.loadB (i := 0) (v := str p_e.fBody) S rfl rfl lay9 rfl))<|WQ.val (fun _ _ => (R.lenS (a := p_e.fBody) rfl Tryz.underlying9))<|WQ.val (fun _ _ => (R.add rfl rfl)) ?_
 refine WQ.val (fun _ _ => (R.fieldB rfl fld26_1))<|WQ.val (fun w hw => by obtain ⟨_, hq, S⟩ := hw; exact (R.loadB (i := 0) (v := vp_e1) S rfl rfl lay23 rfl)) ?_
 obtain ⟨r6, hr6, h⟩ := bindE h
 refine WQ.call (v := int r6) rfl (fun w H' hq S => entry_lengths_ok S.holds (hG.post S.post) p_e.fVary (Sl.mono Rp_e1 hq) hr6)<|WQ.val (fun _ _ => (R.add rfl rfl))<|WQ.val (fun _ _ => (R.fieldB rfl fld26_2))<|WQ.val (fun w hw => by obtain ⟨_, hq, S⟩ := hw; exact (R.loadB (i := 0) (v := vp_e2) S rfl rfl lay23 rfl)) ?_
 obtain ⟨r11, hr11, h⟩ := bindE h
 refine WQ.call (v := int r11) rfl (fun w H' hq S => entry_lengths_ok S.holds (hG.post S.post) p_e.fSnapshot (Sl.mono Rp_e2 hq) hr11)<|WQ.val (fun _ _ => (R.add rfl rfl))<|WQ.val (fun _ _ => (R.as (v := int (wr ((wr ((wr ((wr (100 + (p_e.fReason.length : Int))) + (p_e.fBody.length : Int))) + r6)) + r11))) rfl))<|WQ.nil ?_
 intro w3 H4 hle5 S
 have Rp_e0 := Sl.mono Rp_e0 hle5
 have Rp_e1 := Sl.mono Rp_e1 hle5
 have Rp_e2 := Sl.mono Rp_e2 hle5
 have Rp_e4 := Sl.mono Rp_e4 hle5
 refine WP.s<|WP.s<|WP.g<|WL.w (R.fieldB rfl fld26_4)<|WL.w (R.loadB (i := 0) (v := vp_e4) S rfl rfl lay24 rfl)<|WL.w (R.lenL (α := GField) (xs := p_e.fFields) (H := H4) Rp_e4 rfl Tryz.underlying24)<|WL.m (int 0) rfl<|WL.e ?_
 obtain ⟨n_26, hr32, h⟩ := bindE h
 refine WP.cut (fun f w => ∃ (H24 : Hp), f 1 = (ptr b1 0) ∧ f 3 = (int n_26) ∧ Sl (α := (List Str)) H24 vp_e0 p_e.fKeys ∧ Sl (α := Str) H24 vp_e1 p_e.fVary ∧ Sl (α := Str) H24 vp_e2 p_e.fSnapshot ∧ Sl (α := GField) H24 vp_e4 p_e.fFields ∧ St w0 H0 w H24 [.box b1 26 [vp_e0, vp_e1, vp_e2, (str p_e.fReason), vp_e4, (str p_e.fBody), (int p_e.fRequested), (int p_e.fReceived)]]) ?_ ?_
 ·refine WP.block ?_
  refine WP.loopM (entry_Size_L0 p_e) (fun s f w => match s with | (n_18, y_22) => ∃ (H16 : Hp), f 1 = (ptr b1 0) ∧ f 3 = (int n_18) ∧ f 25 = vp_e4 ∧ f 26 = (int (p_e.fFields.length : Int)) ∧ f 27 = (int y_22) ∧ Sl (α := GField) H16 vp_e4 p_e.fFields ∧ Sl (α := (List Str)) H16 vp_e0 p_e.fKeys ∧ Sl (α := Str) H16 vp_e1 p_e.fVary ∧ Sl (α := Str) H16 vp_e2 p_e.fSnapshot ∧ St w0 H0 w H16 [.box b1 26 [vp_e0, vp_e1, vp_e2, (str p_e.fReason), vp_e4, (str p_e.fBody), (int p_e.fRequested), (int p_e.fReceived)]]) (wr ((wr ((wr ((wr (100 + (p_e.fReason.length : Int))) + (p_e.fBody.length : Int))) + r6)) + r11), 0) n_26 hr32 ?_ ?_
  ·exact ⟨H4, rfl, rfl, rfl, rfl, rfl, Rp_e4, Rp_e0, Rp_e1, Rp_e2, S⟩
  ·intro s f w hI y28 hy29 hy30
   obtain ⟨n_18, y_22⟩ := s
   obtain ⟨H16, h17, h19, h20, h21, h23, Rp_e4, Rp_e0, Rp_e1, Rp_e2, S⟩ := hI
   refine WP.s<|WP.g<|WL.w (R.lss h23 h21)<|WL.e<|WP.s ?_
   rcases condE hy29 with ⟨hc33, hy29⟩ | ⟨hc33, hy29⟩
   ·refine WP.condT rfl hc33<|WP.skip<|WP.s<|WP.block<|WP.s<|WP.g ?_
    obtain ⟨x34, hx34, hy29⟩ := bindE hy29
    refine W.idx (α := GField) Rp_e4 h20 h23 el24 hx34 ?_
    rintro a35 _ hA36 rfl
    refine WL.w (R.loadHN (vs := [(str x34.fName), (str x34.fValue)]) S rfl hA36 lay53 rfl rfl)<|W.alloc [(str []), (str [])] S zer53 ?_
    intro b37 w38 S
    refine W.store (i := 0) [(str x34.fName), (str x34.fValue)] S rfl rfl rfl lay53 rfl rfl (Nat.le_of_ble_eq_true rfl) rfl ?_
    intro w39 S
    refine WL.e<|WP.g<|WL.m (int n_18) h19<|WL.w (R.fieldB rfl fld53_0)<|WL.w (R.loadB (i := 0) (v := str x34.fName) S rfl rfl lay9 rfl)<|WL.w (R.lenS (a := x34.fName) rfl Tryz.underlying9)<|WL.w (R.add rfl rfl)<|WL.w (R.fieldB rfl fld53_1)<|WL.w (R.loadB (i := 0) (v := str x34.fValue) S rfl rfl lay9 rfl)<|WL.w (R.lenS (a := x34.fValue) rfl Tryz.underlying9)<|WL.w (R.add rfl rfl)<|WL.w (R.add rfl rfl) ?_
    refine WL.a (int (wr (n_18 + (wr ((wr (4 + (x34.fName.length : Int))) + (x34.fValue.length : Int)))))) rfl<|WL.e<|WP.g<|WL.w (R.add h23 rfl)<|WL.m (int (wr (y_22 + 1))) rfl<|WL.e ?_
    obtain rfl := oi hy29
    exact ⟨rfl, ⟨H16, h17, rfl, h20, h21, rfl, Rp_e4, Rp_e0, Rp_e1, Rp_e2, (S.drop _ (.cons _ (.cons_cons _ .slnil)))⟩⟩
   ·refine WP.condF rfl hc33<|WP.exit ?_
    obtain rfl := oi hy29
    obtain rfl := hy30
    exact ⟨H16, h17, h19, Rp_e0, Rp_e1, Rp_e2, Rp_e4, S⟩
 ·rintro f w ⟨H24, h25, h27, Rp_e0, Rp_e1, Rp_e2, Rp_e4, S⟩
  refine WP.s<|WP.s<|WP.g<|WL.w (R.fieldB h25 fld26_0)<|WL.w (R.loadB (i := 0) (v := vp_e0) S rfl rfl lay22 rfl)<|WL.w (R.lenL (α := (List Str)) (xs := p_e.fKeys) (H := H24) Rp_e0 rfl Tryz.underlying22)<|WL.m (int 0) rfl<|WL.e ?_
  obtain ⟨n_48, hr54, h⟩ := bindE h
  refine WP.cut (fun f w => ∃ (H47 : Hp), f 3 = (int n_48) ∧ St w0 H0 w H47 []) ?_ ?_
  ·refine WP.block ?_
   refine WP.loopM (entry_Size_L1 p_e) (fun s f w => match s with | (n_41, y_45) => ∃ (H40 : Hp), f 3 = (int n_41) ∧ f 43 = vp_e0 ∧ f 44 = (int (p_e.fKeys.length : Int)) ∧ f 45 = (int y_45) ∧ Sl (α := (List Str)) H40 vp_e0 p_e.fKeys ∧ St w0 H0 w H40 []) (n_26, 0) n_48 hr54 ?_ ?_
   ·exact ⟨H24, h27, rfl, rfl, rfl, Rp_e0, (S.drop _ (.cons _ .slnil))⟩
   ·intro s f w hI y50 hy51 hy52
    obtain ⟨n_41, y_45⟩ := s
    obtain ⟨H40, h42, h43, h44, h46, Rp_e0, S⟩ := hI
    refine WP.s<|WP.g<|WL.w (R.lss h46 h44)<|WL.e<|WP.s ?_
    rcases condE hy51 with ⟨hc55, hy51⟩ | ⟨hc55, hy51⟩
    ·refine WP.condT rfl hc55<|WP.skip<|WP.s<|WP.block<|WP.s<|WP.g ?_
     obtain ⟨x56, hx56, hy51⟩ := bindE hy51
     refine W.idx (α := (List Str)) Rp_e0 h43 h46 el22 hx56 ?_
     rintro a57 _ hA58 ⟨v59, rfl, R60⟩
     refine WL.w (R.loadH (v := v59) S rfl hA58 lay23 rfl)<|WL.a (v59) rfl<|WL.e<|WP.g<|WL.m (int n_41) h42<|WL.m (v59) rfl ?_
     obtain ⟨r61, hr61, hy51⟩ := bindE hy51
     refine W.call S rfl (entry_lengths_ok S.holds (hG.post S.post) x56 R60 hr61) ?_
     rintro v62 w63 H64 hle65 S rfl
     have Rp_e0 := Sl.mono Rp_e0 hle65
     refine WL.w (R.add rfl rfl)<|WL.a (int (wr (n_41 + r61))) rfl<|WL.e<|WP.g<|WL.w (R.add h46 rfl)<|WL.m (int (wr (y_45 + 1))) rfl<|WL.e ?_
     obtain rfl := oi hy51
     exact ⟨rfl, ⟨H64, rfl, h43, h44, rfl, Rp_e0, S⟩⟩
    ·refine WP.condF rfl hc55<|WP.exit ?_
     obtain rfl := oi hy51
     obtain rfl := hy52
     exact ⟨H40, h42, S⟩
  ·rintro f w ⟨H47, h49, S⟩
   refine WP.s<|WP.g<|WL.m (int n_48) h49<|WL.a (int n_48) rfl<|WL.e ?_
   obtain rfl := oi h
   refine WP.ret (Out.one rfl S rfl ?_)
   exact rfl
theorem law26_awake_ok {w0 : World} {H0 : Hp} (hw : Holds w0 H0) (hG : Tryz.Gl w0) {r : Bool} (h : law26_awake = some r) :
  Con Tryz.prog 14 [] w0 H0 (fun H' v => v = (boo r)) := by
 refine Con.mk (N := 43) Tryz.func14 rfl rfl (by kernel_rfl) rfl ?_
 have S := St.start hw
 refine WP.s<|WP.g<|WL.a (boo false) rfl<|WL.e<|WP.s<|WP.g<|WL.w (R.build [(0, (str [97, 103, 101])), (1, (str [50]))] [(str [97, 103, 101]), (str [50])] bp53 zer53 rfl rfl)<|W.bslice (α := GField) [(agg [(str [97, 103, 101]), (str [50])])] ([(⟨[97, 103, 101], [50]⟩ : GField)] : List GField) S el24 rfl rfl rfl (by decide) (Go.Eng.encS ⟨rfl, rfl⟩ enc0) ?_
 intro u1 w2 H3 hle4 R5 S
 refine WL.w (R.build [(3, (str [79, 75])), (5, (str [120])), (4, u1)] [(.slice none 0 0), (.slice none 0 0), (.slice none 0 0), (str [79, 75]), u1, (str [120]), (int 0), (int 0)] bp26 zer26 rfl (by obtain ⟨_, _, rfl, _⟩ := R5; rfl))<|W.alloc [(.slice none 0 0), (.slice none 0 0), (.slice none 0 0), (str []), (.slice none 0 0), (str []), (int 0), (int 0)] S zer26 ?_
 intro b6 w7 S
 refine W.store (i := 0) [(.slice none 0 0), (.slice none 0 0), (.slice none 0 0), (str [79, 75]), u1, (str [120]), (int 0), (int 0)] S rfl rfl rfl lay26 rfl (AllOne.all (l := [(.slice none 0 0), (.slice none 0 0), (.slice none 0 0), (str [79, 75]), u1, (str [120]), (int 0), (int 0)]) (.cons rfl (.cons rfl (.cons rfl (.cons rfl (.cons (Sl.oneC R5) (.cons rfl (.cons rfl (.cons rfl .nil))))))))) (Nat.le_of_ble_eq_true rfl) rfl ?_
 intro w8 S
 refine WL.e<|WP.s<|WP.g<|WL.w (R.loadBN (i := 0) (vs := [(.slice none 0 0), (.slice none 0 0), (.slice none 0 0), (str [79, 75]), u1, (str [120]), (int 0), (int 0)]) S rfl rfl lay26 rfl rfl) ?_
 obtain ⟨r9, hr9, h⟩ := bindE h
 refine W.call S rfl (entry_Response_ok S.holds (hG.post S.post) (⟨([] : List (List Str)), ([] : List Str), ([] : List Str), [79, 75], ([(⟨[97, 103, 101], [50]⟩ : GField)] : List GField), [120], 0, 0⟩ : GEntry) 5 [112] Sl.nil Sl.nil Sl.nil R5 hr9) ?_
 rintro v10 w11 H12 hle13 S ⟨u14, rfl, R15⟩
 refine W.alloc [(int 0), (int 0), (str []), (.slice none 0 0), (str [])] S zer30 ?_
 intro b16 w17 S
 refine W.store (i := 0) [(int r9.fMinor), (int r9.fStatus), (str r9.fReason), u14, (str r9.fBody)] S rfl rfl rfl lay30 rfl (AllOne.all (l := [(int r9.fMinor), (int r9.fStatus), (str r9.fReason), u14, (str r9.fBody)]) (.cons rfl (.cons rfl (.cons rfl (.cons (Sl.oneC R15) (.cons rfl .nil)))))) (Nat.le_of_ble_eq_true rfl) rfl ?_
 intro w18 S
 refine WL.e<|WP.s<|WP.g<|WL.w (R.build [(3, (str [79, 75]))] [(.slice none 0 0), (.slice none 0 0), (.slice none 0 0), (str [79, 75]), (.slice none 0 0), (str []), (int 0), (int 0)] bp26 zer26 rfl rfl) ?_
 obtain ⟨r19, hr19, h⟩ := bindE h
 refine W.call S rfl (entry_Size_ok S.holds (hG.post S.post) (⟨([] : List (List Str)), ([] : List Str), ([] : List Str), [79, 75], ([] : List GField), [], 0, 0⟩ : GEntry) Sl.nil Sl.nil Sl.nil Sl.nil hr19) ?_
 rintro v20 w21 H22 hle23 S rfl
 have R15 := Sl.mono R15 hle23
 refine WL.w (R.eql rfl rfl)<|WL.m (boo (r19 == 102)) rfl ?_
 refine WL.grp 4 [12, 13, 14] 15 (boo ((r19 == 102) && (r9.fStatus == 200))) ?_ ?_
 ·rcases boolE (r19 == 102) with hb24 | hb24
  ·refine WL.y rfl rfl hb24<|WL.w (R.fieldB rfl fld30_1)<|WL.y rfl rfl hb24<|WL.w (R.loadB (i := 0) (v := int r9.fStatus) S rfl rfl lay3 rfl)<|WL.y rfl rfl hb24<|WL.w (R.eql rfl rfl)<|WL.w (R.pickT rfl hb24 rfl) ?_
   exact WL.e ⟨(andT hb24), ag, rfl⟩
  ·refine WL.n rfl rfl hb24<|WL.n rfl rfl hb24<|WL.n rfl rfl hb24<|WL.w (R.pickF rfl hb24 rfl) ?_
   exact WL.e ⟨(andF hb24), ag, rfl⟩
 ·intro us
  refine WL.m (boo ((r19 == 102) && (r9.fStatus == 200))) rfl ?_
  refine WL.grp 4 [17, 18, 19] 20 (boo (((r19 == 102) && (r9.fStatus == 200)) && (r9.fBody == [120]))) ?_ ?_
  ·rcases boolE ((r19 == 102) && (r9.fStatus == 200)) with hb26 | hb26
   ·refine WL.y rfl rfl hb26<|WL.w (R.fieldB rfl fld30_4)<|WL.y rfl rfl hb26<|WL.w (R.loadB (i := 0) (v := str r9.fBody) S rfl rfl lay9 rfl)<|WL.y rfl rfl hb26<|WL.w (R.eqlS (a := r9.fBody) (b := [120]) rfl rfl)<|WL.w (R.pickT rfl hb26 rfl) ?_
    exact WL.e ⟨(andT hb26), ag, rfl⟩
   ·refine WL.n rfl rfl hb26<|WL.n rfl rfl hb26<|WL.n rfl rfl hb26<|WL.w (R.pickF rfl hb26 rfl) ?_
    exact WL.e ⟨(andF hb26), ag, rfl⟩
  ·intro us
   refine WL.m (boo (((r19 == 102) && (r9.fStatus == 200)) && (r9.fBody == [120]))) rfl ?_
   refine WL.grp 5 [22, 23, 24, 25] 26 (boo ((((r19 == 102) && (r9.fStatus == 200)) && (r9.fBody == [120])) && ((r9.fFields.length : Int) == 2))) ?_ ?_
   ·rcases boolE (((r19 == 102) && (r9.fStatus == 200)) && (r9.fBody == [120])) with hb28 | hb28
    ·refine WL.y rfl rfl hb28<|WL.w (R.fieldB rfl fld30_3)<|WL.y rfl rfl hb28<|WL.w (R.loadB (i := 0) (v := u14) S rfl rfl lay24 rfl)<|WL.y rfl rfl hb28<|WL.w (R.lenL (α := GField) (xs := r9.fFields) (H := H22) R15 rfl Tryz.underlying24)<|WL.y rfl rfl hb28<|WL.w (R.eql rfl rfl)<|WL.w (R.pickT rfl hb28 rfl) ?_
     exact WL.e ⟨(andT hb28), ag, rfl⟩
    ·refine WL.n rfl rfl hb28<|WL.n rfl rfl hb28<|WL.n rfl rfl hb28<|WL.n rfl rfl hb28<|WL.w (R.pickF rfl hb28 rfl) ?_
     exact WL.e ⟨(andF hb28), ag, rfl⟩
   ·intro us
    refine WL.m (boo ((((r19 == 102) && (r9.fStatus == 200)) && (r9.fBody == [120])) && ((r9.fFields.length : Int) == 2))) rfl ?_
    obtain ⟨b36, hg31, h⟩ := bindE h
    refine WL.grp 7 [28, 29, 30, 31, 32, 33] 34 (boo b36) ?_ ?_
    ·rcases boolE ((((r19 == 102) && (r9.fStatus == 200)) && (r9.fBody == [120])) && ((r9.fFields.length : Int) == 2)) with hb30 | hb30
     ·replace hg31 := condT hg31 hb30
      refine WL.y rfl rfl hb30<|WL.w (R.fieldB rfl fld30_3)<|WL.y rfl rfl hb30<|WL.w (R.loadB (i := 0) (v := u14) S rfl rfl lay24 rfl)<|WL.y rfl rfl hb30 ?_
      obtain ⟨x32, hx32, hg31⟩ := bindE hg31
      refine W.idx (α := GField) R15 rfl rfl el24 hx32 ?_
      rintro a33 _ hA34 rfl
      refine WL.y rfl rfl hb30<|WL.w (R.field rfl fld53_1) ?_
      have hA35 := At.add hA34 1 (by simp)
      refine WL.y rfl rfl hb30<|WL.w (R.loadH (v := str x32.fValue) S rfl hA35 lay9 rfl)<|WL.y rfl rfl hb30<|WL.w (R.eqlS (a := x32.fValue) (b := [55]) rfl rfl)<|WL.w (R.pickT rfl hb30 rfl) ?_
      exact WL.e ⟨(congrArg boo (oi hg31)), ag, rfl⟩
     ·replace hg31 := condF hg31 hb30
      refine WL.n rfl rfl hb30<|WL.n rfl rfl hb30<|WL.n rfl rfl hb30<|WL.n rfl rfl hb30<|WL.n rfl rfl hb30<|WL.n rfl rfl hb30<|WL.w (R.pickF rfl hb30 rfl) ?_
      exact WL.e ⟨(congrArg boo (oi hg31)), ag, rfl⟩
    ·intro us
     refine WL.m (boo b36) rfl ?_
     obtain ⟨b43, hg38, h⟩ := bindE h
     refine WL.grp 7 [36, 37, 38, 39, 40, 41] 42 (boo b43) ?_ ?_
     ·rcases boolE b36 with hb37 | hb37
      ·replace hg38 := condT hg38 hb37
       refine WL.y rfl rfl hb37<|WL.w (R.fieldB rfl fld30_3)<|WL.y rfl rfl hb37<|WL.w (R.loadB (i := 0) (v := u14) S rfl rfl lay24 rfl)<|WL.y rfl rfl hb37 ?_
       obtain ⟨x39, hx39, hg38⟩ := bindE hg38
       refine W.idx (α := GField) R15 rfl rfl el24 hx39 ?_
       rintro a40 _ hA41 rfl
       refine WL.y rfl rfl hb37<|WL.w (R.field rfl fld53_1) ?_
       have hA42 := At.add hA41 1 (by simp)
       refine WL.y rfl rfl hb37<|WL.w (R.loadH (v := str x39.fValue) S rfl hA42 lay9 rfl)<|WL.y rfl rfl hb37<|WL.w (R.eqlS (a := x39.fValue) (b := [49, 46, 49, 32, 112]) rfl rfl)<|WL.w (R.pickT rfl hb37 rfl) ?_
       exact WL.e ⟨(congrArg boo (oi hg38)), ag, rfl⟩
      ·replace hg38 := condF hg38 hb37
       refine WL.n rfl rfl hb37<|WL.n rfl rfl hb37<|WL.n rfl rfl hb37<|WL.n rfl rfl hb37<|WL.n rfl rfl hb37<|WL.n rfl rfl hb37<|WL.w (R.pickF rfl hb37 rfl) ?_
       exact WL.e ⟨(congrArg boo (oi hg38)), ag, rfl⟩
     ·intro us
      refine WL.a (boo b43) rfl<|WL.e ?_
      obtain rfl := oi h
      refine WP.ret (Out.one rfl S rfl ?_)
      exact rfl
theorem law26_EntryMakes_ok {w0 : World} {H0 : Hp} (hw : Holds w0 H0) (hG : Tryz.Gl w0) (p_q : GRequest) (p_r : GResponse) (p_requested : Int) (p_received : Int) {vp_q3 : Value} {vp_r3 : Value} (Rp_q3 : Sl (α := GField) H0 vp_q3 p_q.fFields) (Rp_r3 : Sl (α := GField) H0 vp_r3 p_r.fFields) {r : Bool} (h : law26_EntryMakes p_q p_r p_requested p_received = some r) :
  Con Tryz.prog 5 [(agg [(str p_q.fMethod), (str p_q.fTarget), (int p_q.fMinor), vp_q3, (str p_q.fBody)]), (agg [(int p_r.fMinor), (int p_r.fStatus), (str p_r.fReason), vp_r3, (str p_r.fBody)]), (int p_requested), (int p_received)] w0 H0 (fun H' v => v = (boo r)) := by
 refine Con.mk (N := 48) Tryz.func5 rfl rfl (by kernel_rfl) rfl ?_
 have S := St.start hw
 refine WP.s<|WP.g<|W.box [(str p_q.fMethod), (str p_q.fTarget), (int p_q.fMinor), vp_q3, (str p_q.fBody)] S rfl rfl ?_
 intro b1 w2 S
 refine W.box [(int p_r.fMinor), (int p_r.fStatus), (str p_r.fReason), vp_r3, (str p_r.fBody)] S rfl rfl ?_
 intro b3 w4 S
 refine WL.a (boo false) rfl<|WL.e<|WP.s<|WP.s<|WP.g<|WL.w (R.loadBN (i := 1) (vs := [(str p_q.fMethod), (str p_q.fTarget), (int p_q.fMinor), vp_q3, (str p_q.fBody)]) S rfl rfl lay40 rfl rfl) ?_
 obtain ⟨r5, hr5, h⟩ := bindE h
 refine W.call S rfl (keep_Request_ok S.holds (hG.post S.post) p_q Rp_q3 hr5) ?_
 rintro v6 w7 H8 hle9 S rfl
 have Rp_q3 := Sl.mono Rp_q3 hle9
 have Rp_r3 := Sl.mono Rp_r3 hle9
 refine WL.w (R.not rfl)<|WL.m (boo (!r5)) rfl ?_
 obtain ⟨b17, hg11, h⟩ := bindE h
 refine WL.grpw 4 [17, 18, 19] 20 (boo b17) (fun w => ∃ H' : Hp, H8.le H' ∧ St w0 H0 w H' [.box b3 30 [(int p_r.fMinor), (int p_r.fStatus), (str p_r.fReason), vp_r3, (str p_r.fBody)], .box b1 40 [(str p_q.fMethod), (str p_q.fTarget), (int p_q.fMinor), vp_q3, (str p_q.fBody)]]) ?_ ?_
 ·rcases boolE (!r5) with hb10 | hb10
  ·replace hg11 := condT hg11 hb10
   refine WL.n rfl rfl hb10<|WL.n rfl rfl hb10<|WL.n rfl rfl hb10<|WL.w (R.pickT rfl hb10 rfl) ?_
   exact WL.e ⟨(congrArg boo (oi hg11)), ag, ⟨H8, (Hp.le.refl _), S⟩⟩
  ·replace hg11 := condF hg11 hb10
   refine WL.y rfl rfl hb10<|WL.w (R.loadBN (i := 0) (vs := [(int p_r.fMinor), (int p_r.fStatus), (str p_r.fReason), vp_r3, (str p_r.fBody)]) S rfl rfl lay30 rfl rfl)<|WL.y rfl rfl hb10 ?_
   obtain ⟨r12, hr12, hg11⟩ := bindE hg11
   refine W.call S rfl (keep_Response_ok S.holds (hG.post S.post) p_r Rp_r3 hr12) ?_
   rintro v13 w14 H15 hle16 S rfl
   have Rp_q3 := Sl.mono Rp_q3 hle16
   have Rp_r3 := Sl.mono Rp_r3 hle16
   refine WL.y rfl rfl hb10<|WL.w (R.not rfl)<|WL.w (R.pickF rfl hb10 rfl) ?_
   exact WL.e ⟨(congrArg boo (oi hg11)), ag, ⟨H15, hle16, S⟩⟩
 ·intro us w19 ⟨H18, hle20, S⟩
  have Rp_q3 := Sl.mono Rp_q3 hle20
  have Rp_r3 := Sl.mono Rp_r3 hle20
  refine WL.e ?_
  rcases condE h with ⟨hc21, h⟩ | ⟨hc21, h⟩
  ·refine WP.condT rfl hc21<|WP.s<|WP.g<|WL.a (boo true) rfl<|WL.e ?_
   obtain rfl := oi h
   refine WP.ret (Out.one rfl S rfl ?_)
   exact rfl
  ·refine WP.condF rfl hc21<|WP.skip<|WP.s<|WP.g<|WL.w (R.loadBN (i := 1) (vs := [(str p_q.fMethod), (str p_q.fTarget), (int p_q.fMinor), vp_q3, (str p_q.fBody)]) S rfl rfl lay40 rfl rfl)<|WL.w (R.loadBN (i := 0) (vs := [(int p_r.fMinor), (int p_r.fStatus), (str p_r.fReason), vp_r3, (str p_r.fBody)]) S rfl rfl lay30 rfl rfl)<|WL.m (int p_requested) rfl<|WL.m (int p_received) rfl ?_
   obtain ⟨r22, hr22, h⟩ := bindE h
   refine W.call S rfl (entry_Make_ok S.holds (hG.post S.post) p_q p_r p_requested p_received Rp_q3 Rp_r3 hr22) ?_
   rintro v23 w24 H25 hle26 S ⟨u27, u29, u31, u33, u35, rfl, R28, R30, R32, R34, R36⟩
   have Rp_q3 := Sl.mono Rp_q3 hle26
   have Rp_r3 := Sl.mono Rp_r3 hle26
   refine WL.m (.tuple ⟨[(agg [u27, u29, u31, (str r22.1.fReason), u33, (str r22.1.fBody), (int r22.1.fRequested), (int r22.1.fReceived)]), u35]⟩) rfl<|WL.w (R.ext rfl rfl)<|WL.w (R.ext rfl rfl)<|W.alloc [(.slice none 0 0), (.slice none 0 0), (.slice none 0 0), (str []), (.slice none 0 0), (str []), (int 0), (int 0)] S zer26 ?_
   intro b37 w38 S
   refine W.store (i := 0) [u27, u29, u31, (str r22.1.fReason), u33, (str r22.1.fBody), (int r22.1.fRequested), (int r22.1.fReceived)] S rfl rfl rfl lay26 rfl (AllOne.all (l := [u27, u29, u31, (str r22.1.fReason), u33, (str r22.1.fBody), (int r22.1.fRequested), (int r22.1.fReceived)]) (.cons (Sl.oneC R28) (.cons (Sl.oneC R30) (.cons (Sl.oneC R32) (.cons rfl (.cons (Sl.oneC R34) (.cons rfl (.cons rfl (.cons rfl .nil))))))))) (Nat.le_of_ble_eq_true rfl) rfl ?_
   intro w39 S
   refine WL.a (u35) rfl<|WL.e<|WP.s<|WP.g<|WL.w (R.loadBN (i := 2) (vs := [(str p_q.fMethod), (str p_q.fTarget), (int p_q.fMinor), vp_q3, (str p_q.fBody)]) S rfl rfl lay40 rfl rfl)<|WL.w (R.loadBN (i := 1) (vs := [(int p_r.fMinor), (int p_r.fStatus), (str p_r.fReason), vp_r3, (str p_r.fBody)]) S rfl rfl lay30 rfl rfl)<|WL.m (int p_requested) rfl<|WL.m (int p_received) rfl ?_
   obtain ⟨r40, hr40, h⟩ := bindE h
   refine W.call S rfl (ref26_Make_ok S.holds (hG.post S.post) p_q p_r p_requested p_received Rp_q3 Rp_r3 hr40) ?_
   rintro v41 w42 H43 hle44 S ⟨u45, u47, u49, u51, u53, rfl, R46, R48, R50, R52, R54⟩
   have R28 := Sl.mono R28 hle44
   have R30 := Sl.mono R30 hle44
   have R32 := Sl.mono R32 hle44
   have R34 := Sl.mono R34 hle44
   have R36 := Sl.mono R36 hle44
   refine WL.m (.tuple ⟨[(agg [u45, u47, u49, (str r40.1.fReason), u51, (str r40.1.fBody), (int r40.1.fRequested), (int r40.1.fReceived)]), u53]⟩) rfl<|WL.w (R.ext rfl rfl)<|WL.w (R.ext rfl rfl)<|W.alloc [(.slice none 0 0), (.slice none 0 0), (.slice none 0 0), (str []), (.slice none 0 0), (str []), (int 0), (int 0)] S zer26 ?_
   intro b55 w56 S
   refine W.store (i := 0) [u45, u47, u49, (str r40.1.fReason), u51, (str r40.1.fBody), (int r40.1.fRequested), (int r40.1.fReceived)] S rfl rfl rfl lay26 rfl (AllOne.all (l := [u45, u47, u49, (str r40.1.fReason), u51, (str r40.1.fBody), (int r40.1.fRequested), (int r40.1.fReceived)]) (.cons (Sl.oneC R46) (.cons (Sl.oneC R48) (.cons (Sl.oneC R50) (.cons rfl (.cons (Sl.oneC R52) (.cons rfl (.cons rfl (.cons rfl .nil))))))))) (Nat.le_of_ble_eq_true rfl) rfl ?_
   intro w57 S
   refine WL.a (u53) rfl<|WL.e<|WP.s<|WP.g<|WL.w (R.loadBN (i := 1) (vs := [u27, u29, u31, (str r22.1.fReason), u33, (str r22.1.fBody), (int r22.1.fRequested), (int r22.1.fReceived)]) S rfl rfl lay26 rfl rfl)<|WL.w (R.loadBN (i := 0) (vs := [u45, u47, u49, (str r40.1.fReason), u51, (str r40.1.fBody), (int r40.1.fRequested), (int r40.1.fReceived)]) S rfl rfl lay26 rfl rfl) ?_
   obtain ⟨r58, hr58, h⟩ := bindE h
   refine W.call S rfl (ref26_Equal_ok S.holds (hG.post S.post) r22.1 r40.1 R28 R30 R32 R34 R46 R48 R50 R52 hr58) ?_
   rintro v59 w60 H61 hle62 S rfl
   have R36 := Sl.mono R36 hle62
   have R54 := Sl.mono R54 hle62
   refine WL.m (boo r58) rfl ?_
   obtain ⟨b70, hg64, h⟩ := bindE h
   refine WL.grpw 4 [41, 42, 43] 44 (boo b70) (fun w => ∃ H' : Hp, H61.le H' ∧ St w0 H0 w H' [.box b55 26 [u45, u47, u49, (str r40.1.fReason), u51, (str r40.1.fBody), (int r40.1.fRequested), (int r40.1.fReceived)], .box b37 26 [u27, u29, u31, (str r22.1.fReason), u33, (str r22.1.fBody), (int r22.1.fRequested), (int r22.1.fReceived)], .box b3 30 [(int p_r.fMinor), (int p_r.fStatus), (str p_r.fReason), vp_r3, (str p_r.fBody)], .box b1 40 [(str p_q.fMethod), (str p_q.fTarget), (int p_q.fMinor), vp_q3, (str p_q.fBody)]]) ?_ ?_
   ·rcases boolE r58 with hb63 | hb63
    ·replace hg64 := condT hg64 hb63
     refine WL.y rfl rfl hb63<|WL.m (u35) rfl<|WL.y rfl rfl hb63<|WL.m (u53) rfl<|WL.y rfl rfl hb63 ?_
     obtain ⟨r65, hr65, hg64⟩ := bindE hg64
     refine W.call S rfl (ref10_Equal_ok S.holds (hG.post S.post) r22.2 r40.2 R36 R54 hr65) ?_
     rintro v66 w67 H68 hle69 S rfl
     refine WL.w (R.pickT rfl hb63 rfl) ?_
     exact WL.e ⟨(congrArg boo (oi hg64)), ag, ⟨H68, hle69, S⟩⟩
    ·replace hg64 := condF hg64 hb63
     refine WL.n rfl rfl hb63<|WL.n rfl rfl hb63<|WL.n rfl rfl hb63<|WL.w (R.pickF rfl hb63 rfl) ?_
     exact WL.e ⟨(congrArg boo (oi hg64)), ag, ⟨H61, (Hp.le.refl _), S⟩⟩
   ·intro us w72 ⟨H71, hle73, S⟩
    refine WL.m (boo b70) rfl ?_
    obtain ⟨b81, hg75, h⟩ := bindE h
    refine WL.grpw 2 [46] 47 (boo b81) (fun w => ∃ H' : Hp, H71.le H' ∧ St w0 H0 w H' [.box b55 26 [u45, u47, u49, (str r40.1.fReason), u51, (str r40.1.fBody), (int r40.1.fRequested), (int r40.1.fReceived)], .box b37 26 [u27, u29, u31, (str r22.1.fReason), u33, (str r22.1.fBody), (int r22.1.fRequested), (int r22.1.fReceived)], .box b3 30 [(int p_r.fMinor), (int p_r.fStatus), (str p_r.fReason), vp_r3, (str p_r.fBody)], .box b1 40 [(str p_q.fMethod), (str p_q.fTarget), (int p_q.fMinor), vp_q3, (str p_q.fBody)]]) ?_ ?_
    ·rcases boolE b70 with hb74 | hb74
     ·replace hg75 := condT hg75 hb74
      refine WL.y rfl rfl hb74 ?_
      obtain ⟨r76, hr76, hg75⟩ := bindE hg75
      refine W.call S rfl (law26_awake_ok S.holds (hG.post S.post)  hr76) ?_
      rintro v77 w78 H79 hle80 S rfl
      refine WL.w (R.pickT rfl hb74 rfl) ?_
      exact WL.e ⟨(congrArg boo (oi hg75)), ag, ⟨H79, hle80, S⟩⟩
     ·replace hg75 := condF hg75 hb74
      refine WL.n rfl rfl hb74<|WL.w (R.pickF rfl hb74 rfl) ?_
      exact WL.e ⟨(congrArg boo (oi hg75)), ag, ⟨H71, (Hp.le.refl _), S⟩⟩
    ·intro us w83 ⟨H82, hle84, S⟩
     refine WL.a (boo b81) rfl<|WL.e ?_
     obtain rfl := oi h
     refine WP.ret (Out.one rfl S rfl ?_)
     exact rfl
end Go.Proofs
