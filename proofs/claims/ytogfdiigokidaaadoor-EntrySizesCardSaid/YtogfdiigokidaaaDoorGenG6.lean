/- A part of the proof of laws of the seat: written by program over the translation. -/
import Derived.Test.YtogfdiigokidaaaDoorGenG5
namespace Go.Proofs
open Go.Eng Go.Eng.Pure
set_option linter.unusedVariables false
set_option maxRecDepth 10000 in
set_option maxHeartbeats 4000000 in
theorem entry_respond_ok {w0 : World} {H0 : Hp} (hw : Holds w0 H0) (hG : Tryd.Gl w0) (p_e : GEntry) (p_age : Int) (p_name : Str) {vp_e0 : Value} {vp_e1 : Value} {vp_e2 : Value} {vp_e4 : Value} (Rp_e0 : Sl (α := (List Str)) H0 vp_e0 p_e.fKeys) (Rp_e1 : Sl (α := Str) H0 vp_e1 p_e.fVary) (Rp_e2 : Sl (α := Str) H0 vp_e2 p_e.fSnapshot) (Rp_e4 : Sl (α := GField) H0 vp_e4 p_e.fFields) {r : GResponse} (h : entry_respond p_e p_age p_name = some r) :
    Con Tryd.prog 34 [(agg [vp_e0, vp_e1, vp_e2, (str p_e.fReason), vp_e4, (str p_e.fBody), (int p_e.fRequested), (int p_e.fReceived)]), (int p_age), (str p_name)] w0 H0 (fun H' v => ∃ u1 : Value, v = (agg [(int r.fMinor), (int r.fStatus), (str r.fReason), u1, (str r.fBody)]) ∧ Sl (α := GField) H' u1 r.fFields) := by
  refine Con.mk (N := 24) Tryd.func34 rfl rfl (by kernel_rfl) rfl ?_
  have S := St.start hw
  refine WP.seq ?_
  refine WP.region ?_
  refine W.box [vp_e0, vp_e1, vp_e2, (str p_e.fReason), vp_e4, (str p_e.fBody), (int p_e.fRequested), (int p_e.fReceived)] S rfl rfl ?_
  intro b1 w2 S
  refine W.alloc [(int 0), (int 0), (str []), (.slice none 0 0), (str [])] S zer46 ?_
  intro b3 w4 S
  refine WL.nil ?_
  refine WP.seq ?_
  refine WP.region ?_
  refine WL.valw (R.fieldB rfl fld26_4) ?_
  refine WL.valw (R.loadB (i := 1) (v := vp_e4) S rfl rfl lay24 rfl) ?_
  obtain ⟨r5, hr5, h⟩ := bindE h
  refine W.callS rfl (fieldline_Remove_okR hG p_e.fFields [65, 103, 101] S Rp_e4 hr5) ?_
  rintro v6 w7 H8 L12 hle9 S ⟨_, rfl, rfl, R11⟩
  replace S : St w0 H0 _ H8 [.row v6 39 2 r5.length, .box b3 46 [(int 0), (int 0), (str []), (.slice none 0 0), (str [])], .box b1 26 [vp_e0, vp_e1, vp_e2, (str p_e.fReason), vp_e4, (str p_e.fBody), (int p_e.fRequested), (int p_e.fReceived)]] := S
  have Rp_e0 := Sl.mono Rp_e0 hle9
  have Rp_e1 := Sl.mono Rp_e1 hle9
  have Rp_e2 := Sl.mono Rp_e2 hle9
  have Rp_e4 := Sl.mono Rp_e4 hle9
  refine WL.valw (R.mv (v := (int p_age)) rfl) ?_
  obtain ⟨r13, hr13, h⟩ := bindE h
  refine W.call S rfl (ascii_Decimal_ok S.holds (hG.post S.post) p_age hr13) ?_
  rintro v14 w15 H16 hle17 S rfl
  have Rp_e0 := Sl.mono Rp_e0 hle17
  have Rp_e1 := Sl.mono Rp_e1 hle17
  have Rp_e2 := Sl.mono Rp_e2 hle17
  have Rp_e4 := Sl.mono Rp_e4 hle17
  have R11 := Sl.mono R11 hle17
  refine WL.valw (R.build [(0, (str [65, 103, 101])), (1, (str r13))] [(str [65, 103, 101]), (str r13)] bp39 zer39 rfl rfl) ?_
  refine W.bslice (α := GField) [(agg [(str [65, 103, 101]), (str r13)])] ([(⟨[65, 103, 101], r13⟩ : GField)] : List GField) S el24 rfl rfl rfl (by decide) (Go.Eng.encS ⟨rfl, rfl⟩ enc0) ?_
  intro u18 w19 H20 hle21 R22 S
  have Rp_e0 := Sl.mono Rp_e0 hle21
  have Rp_e1 := Sl.mono Rp_e1 hle21
  have Rp_e2 := Sl.mono Rp_e2 hle21
  have Rp_e4 := Sl.mono Rp_e4 hle21
  have R11 := Sl.mono R11 hle21
  obtain ⟨l23, hl23, h⟩ := bindE h
  refine W.app (α := GField) (i := 1) S el24 rfl rfl rfl R11 R22 hl23 ?_
  intro v24 w25 H26 hle27 R28 S
  have Rp_e0 := Sl.mono Rp_e0 hle27
  have Rp_e1 := Sl.mono Rp_e1 hle27
  have Rp_e2 := Sl.mono Rp_e2 hle27
  have Rp_e4 := Sl.mono Rp_e4 hle27
  have R11 := Sl.mono R11 hle27
  have R22 := Sl.mono R22 hle27
  refine WL.valw (R.as (v := v24) rfl) ?_
  refine WL.nil ?_
  refine WP.seq ?_
  obtain ⟨r29, hr29, h⟩ := bindE h
  refine WP.cut (fun f w => ∃ (H36 : Hp) (v38 : Value), f 6 = (ptr b3 0) ∧ Sl (α := GField) H36 v38 r29 ∧ St w0 H0 w H36 [.box b3 46 [(int 1), (int 200), (str p_e.fReason), v38, (str p_e.fBody)]]) ?_ ?_
  · refine WP.drawC (Cl w0 H0 H26 [.box b1 26 [vp_e0, vp_e1, vp_e2, (str p_e.fReason), vp_e4, (str p_e.fBody), (int p_e.fRequested), (int p_e.fReceived)]]) (by kernel_rfl) 9 rfl #[false, false, false, false, false, false, false, false, false] rfl ?_
    have S := S.drew
    refine WC.take (i := 0) #[true, false, false, false, false, false, false, false, false] rfl (by kernel_rfl) (by kernel_rfl) (by kernel_rfl) rfl (fun _ _ => (R.fieldB rfl fld26_3)) ?_
    refine WC.take (i := 1) #[true, true, false, false, false, false, false, false, false] rfl (by kernel_rfl) (by kernel_rfl) (by kernel_rfl) rfl (fun w hw => by obtain ⟨_, hq, S⟩ := hw; exact (R.loadB (i := 0) (v := (str p_e.fReason)) S rfl rfl lay9 rfl)) ?_
    refine WC.take (i := 2) #[true, true, true, false, false, false, false, false, false] rfl (by kernel_rfl) (by kernel_rfl) (by kernel_rfl) rfl (fun _ _ => (R.mv (v := v24) rfl)) ?_
    refine WC.take (i := 3) #[true, true, true, true, false, false, false, false, false] rfl (by kernel_rfl) (by kernel_rfl) (by kernel_rfl) rfl (fun _ _ => (R.mv (v := (str p_name)) rfl)) ?_
    refine WC.take (i := 5) #[true, true, true, true, false, true, false, false, false] rfl (by kernel_rfl) (by kernel_rfl) (by kernel_rfl) rfl (fun _ _ => (R.fieldB rfl fld26_5)) ?_
    refine WC.take (i := 6) #[true, true, true, true, false, true, true, false, false] rfl (by kernel_rfl) (by kernel_rfl) (by kernel_rfl) rfl (fun w hw => by obtain ⟨_, hq, S⟩ := hw; exact (R.loadB (i := 0) (v := (str p_e.fBody)) S rfl rfl lay9 rfl)) ?_
    refine WC.next (rs := [4]) ⟨H26, (Hp.le.refl _), S.drop _ (.cons _ (.cons _ (.cons _ (.cons_cons _ .slnil))))⟩ (by kernel_rfl) (List.cons_ne_nil _ _) (all1 ?_)
    refine Nxt.mk (o := _) #[true, true, true, true, true, true, true, false, false] rfl rfl ?_
    refine W.call S rfl (hop_Via_ok S.holds (hG.post S.post) l23 1 p_name R28 hr29) ?_
    rintro v40 w41 H42 hle43 S R44
    have Rp_e0 := Sl.mono Rp_e0 hle43
    have Rp_e1 := Sl.mono Rp_e1 hle43
    have Rp_e2 := Sl.mono Rp_e2 hle43
    have Rp_e4 := Sl.mono Rp_e4 hle43
    have R11 := Sl.mono R11 hle43
    have R22 := Sl.mono R22 hle43
    have R28 := Sl.mono R28 hle43
    refine WL.nil ?_
    refine WC.take (i := 7) #[true, true, true, true, true, true, true, true, false] rfl (by kernel_rfl) (by kernel_rfl) (by kernel_rfl) rfl (fun _ _ => (R.build [(0, (int 1)), (1, (int 200)), (2, (str p_e.fReason)), (3, v40), (4, (str p_e.fBody))] [(int 1), (int 200), (str p_e.fReason), v40, (str p_e.fBody)] bp46 zer46 (by kernel_rfl) (by obtain ⟨_, _, rfl, _⟩ := R44; rfl))) ?_
    refine WC.next (rs := [8]) ⟨H42, hle43, S.drop _ (.cons _ (.cons _ (.cons _ (.cons_cons _ .slnil))))⟩ (by kernel_rfl) (List.cons_ne_nil _ _) (all1 ?_)
    refine Nxt.mk (o := _) #[true, true, true, true, true, true, true, true, true] rfl rfl ?_
    refine W.store (i := 2) [(int 1), (int 200), (str p_e.fReason), v40, (str p_e.fBody)] S rfl rfl rfl lay46 rfl (AllOne.all (l := [(int 1), (int 200), (str p_e.fReason), v40, (str p_e.fBody)]) (.cons rfl (.cons rfl (.cons rfl (.cons (Sl.oneC R44) (.cons rfl .nil)))))) (Nat.le_of_ble_eq_true rfl) rfl ?_
    intro w45 S
    refine WL.nil ?_
    refine WC.done ⟨H42, hle43, S.drop _ (.cons _ (.cons _ (.cons _ (.cons_cons _ .slnil))))⟩ (by kernel_rfl) ?_
    have S3 := S
    replace S3 := S3.front 2 rfl
    replace S3 : St w0 H0 _ H42 [.box b3 46 [(int 1), (int 200), (str p_e.fReason), v40, (str p_e.fBody)], .row u18 39 2 ([(⟨[65, 103, 101], r13⟩ : GField)] : List GField).length, .row v24 39 2 l23.length, .box b1 26 [vp_e0, vp_e1, vp_e2, (str p_e.fReason), vp_e4, (str p_e.fBody), (int p_e.fRequested), (int p_e.fReceived)]] := S3
    replace S3 : St w0 H0 _ H42 [.box b3 46 [(int 1), (int 200), (str p_e.fReason), v40, (str p_e.fBody)]] := S3.drop _ (.cons_cons _ (.cons _ (.cons _ (.cons _ .slnil))))
    exact ⟨H42, v40, rfl, R44, S3⟩
  · rintro f w ⟨H36, v38, h37, R39, S⟩
    obtain rfl := Option.some.inj h
    refine WP.ret (Out.one rfl S (Res.cellB (i := 0) (cs := [(int 1), (int 200), (str p_e.fReason), v38, (str p_e.fBody)]) S h37 rfl lay46 rfl rfl) ?_)
    exact ⟨_, rfl, R39⟩
set_option maxRecDepth 10000 in
set_option maxHeartbeats 4000000 in
theorem entry_Response_ok {w0 : World} {H0 : Hp} (hw : Holds w0 H0) (hG : Tryd.Gl w0) (p_e : GEntry) (p_now : Int) (p_name : Str) {vp_e0 : Value} {vp_e1 : Value} {vp_e2 : Value} {vp_e4 : Value} (Rp_e0 : Sl (α := (List Str)) H0 vp_e0 p_e.fKeys) (Rp_e1 : Sl (α := Str) H0 vp_e1 p_e.fVary) (Rp_e2 : Sl (α := Str) H0 vp_e2 p_e.fSnapshot) (Rp_e4 : Sl (α := GField) H0 vp_e4 p_e.fFields) {r : GResponse} (h : entry_Response p_e p_now p_name = some r) :
    Con Tryd.prog 26 [(agg [vp_e0, vp_e1, vp_e2, (str p_e.fReason), vp_e4, (str p_e.fBody), (int p_e.fRequested), (int p_e.fReceived)]), (int p_now), (str p_name)] w0 H0 (fun H' v => ∃ u1 : Value, v = (agg [(int r.fMinor), (int r.fStatus), (str r.fReason), u1, (str r.fBody)]) ∧ Sl (α := GField) H' u1 r.fFields) := by
  refine Con.mk (N := 13) Tryd.func26 rfl rfl (by kernel_rfl) rfl ?_
  have S := St.start hw
  refine WP.seq ?_
  refine WP.region ?_
  refine W.box [vp_e0, vp_e1, vp_e2, (str p_e.fReason), vp_e4, (str p_e.fBody), (int p_e.fRequested), (int p_e.fReceived)] S rfl rfl ?_
  intro b1 w2 S
  refine W.alloc [(int 0), (int 0), (str []), (.slice none 0 0), (str [])] S zer46 ?_
  intro b3 w4 S
  refine WL.nil ?_
  refine WP.seq ?_
  refine WP.quietTail 5 S (by kernel_rfl) (by kernel_rfl) ?_
  refine WQ.val (fun w hw => by obtain ⟨_, hq, S⟩ := hw; exact (R.loadBN (i := 1) (vs := [vp_e0, vp_e1, vp_e2, (str p_e.fReason), vp_e4, (str p_e.fBody), (int p_e.fRequested), (int p_e.fReceived)]) S rfl rfl lay26 rfl rfl)) ?_
  refine WQ.val (fun w hw => by obtain ⟨_, hq, S⟩ := hw; exact (R.loadBN (i := 1) (vs := [vp_e0, vp_e1, vp_e2, (str p_e.fReason), vp_e4, (str p_e.fBody), (int p_e.fRequested), (int p_e.fReceived)]) S rfl rfl lay26 rfl rfl)) ?_
  refine WQ.val (fun _ _ => (R.mv (v := (int p_now)) rfl)) ?_
  obtain ⟨r8, hr8, h⟩ := bindE h
  refine WQ.call (v := (int r8)) rfl (fun w H' hq S => entry_Age_ok S.holds (hG.post S.post) p_e p_now (Sl.mono Rp_e0 hq) (Sl.mono Rp_e1 hq) (Sl.mono Rp_e2 hq) (Sl.mono Rp_e4 hq) hr8) ?_
  refine WQ.val (fun _ _ => (R.mv (v := (str p_name)) rfl)) ?_
  refine WQ.nil ?_
  intro w5 H6 hle7 S
  have Rp_e0 := Sl.mono Rp_e0 hle7
  have Rp_e1 := Sl.mono Rp_e1 hle7
  have Rp_e2 := Sl.mono Rp_e2 hle7
  have Rp_e4 := Sl.mono Rp_e4 hle7
  obtain ⟨r13, hr13, h⟩ := bindE h
  refine W.call S rfl (entry_respond_ok S.holds (hG.post S.post) p_e r8 p_name Rp_e0 Rp_e1 Rp_e2 Rp_e4 hr13) ?_
  rintro v14 w15 H16 hle17 S ⟨u18, rfl, R19⟩
  have Rp_e0 := Sl.mono Rp_e0 hle17
  have Rp_e1 := Sl.mono Rp_e1 hle17
  have Rp_e2 := Sl.mono Rp_e2 hle17
  have Rp_e4 := Sl.mono Rp_e4 hle17
  refine W.store (i := 0) [(int r13.fMinor), (int r13.fStatus), (str r13.fReason), u18, (str r13.fBody)] S rfl rfl rfl lay46 rfl (AllOne.all (l := [(int r13.fMinor), (int r13.fStatus), (str r13.fReason), u18, (str r13.fBody)]) (.cons rfl (.cons rfl (.cons rfl (.cons (Sl.oneC R19) (.cons rfl .nil)))))) (Nat.le_of_ble_eq_true rfl) rfl ?_
  intro w20 S
  refine WL.nil ?_
  obtain rfl := Option.some.inj h
  refine WP.ret (Out.one rfl S (Res.cellB (i := 0) (cs := [(int r13.fMinor), (int r13.fStatus), (str r13.fReason), u18, (str r13.fBody)]) S rfl rfl lay46 rfl rfl) ?_)
  exact ⟨_, rfl, R19⟩
set_option maxRecDepth 10000 in
set_option maxHeartbeats 4000000 in
theorem law26_awake_ok {w0 : World} {H0 : Hp} (hw : Holds w0 H0) (hG : Tryd.Gl w0) {r : Bool} (h : law26_awake = some r) :
    Con Tryd.prog 12 [] w0 H0 (fun H' v => v = (boo r)) := by
  refine Con.mk (N := 43) Tryd.func12 rfl rfl (by kernel_rfl) rfl ?_
  have S := St.start hw
  refine WP.seq ?_
  refine WP.region ?_
  refine WL.valw (R.as (v := (boo false)) rfl) ?_
  refine WL.nil ?_
  refine WP.seq ?_
  refine WP.region ?_
  refine WL.valw (R.build [(0, (str [97, 103, 101])), (1, (str [50]))] [(str [97, 103, 101]), (str [50])] bp39 zer39 rfl rfl) ?_
  refine W.bslice (α := GField) [(agg [(str [97, 103, 101]), (str [50])])] ([(⟨[97, 103, 101], [50]⟩ : GField)] : List GField) S el24 rfl rfl rfl (by decide) (Go.Eng.encS ⟨rfl, rfl⟩ enc0) ?_
  intro u1 w2 H3 hle4 R5 S
  refine WL.valw (R.build [(3, (str [79, 75])), (5, (str [120])), (4, u1)] [(.slice none 0 0), (.slice none 0 0), (.slice none 0 0), (str [79, 75]), u1, (str [120]), (int 0), (int 0)] bp26 zer26 rfl (by obtain ⟨_, _, rfl, _⟩ := R5; rfl)) ?_
  refine W.alloc [(.slice none 0 0), (.slice none 0 0), (.slice none 0 0), (str []), (.slice none 0 0), (str []), (int 0), (int 0)] S zer26 ?_
  intro b6 w7 S
  refine W.store (i := 0) [(.slice none 0 0), (.slice none 0 0), (.slice none 0 0), (str [79, 75]), u1, (str [120]), (int 0), (int 0)] S rfl rfl rfl lay26 rfl (AllOne.all (l := [(.slice none 0 0), (.slice none 0 0), (.slice none 0 0), (str [79, 75]), u1, (str [120]), (int 0), (int 0)]) (.cons rfl (.cons rfl (.cons rfl (.cons rfl (.cons (Sl.oneC R5) (.cons rfl (.cons rfl (.cons rfl .nil))))))))) (Nat.le_of_ble_eq_true rfl) rfl ?_
  intro w8 S
  refine WL.nil ?_
  refine WP.seq ?_
  refine WP.region ?_
  refine WL.valw (R.loadBN (i := 0) (vs := [(.slice none 0 0), (.slice none 0 0), (.slice none 0 0), (str [79, 75]), u1, (str [120]), (int 0), (int 0)]) S rfl rfl lay26 rfl rfl) ?_
  obtain ⟨r9, hr9, h⟩ := bindE h
  refine W.call S rfl (entry_Response_ok S.holds (hG.post S.post) (⟨([] : List (List Str)), ([] : List Str), ([] : List Str), [79, 75], ([(⟨[97, 103, 101], [50]⟩ : GField)] : List GField), [120], 0, 0⟩ : GEntry) 5 [112] Sl.nil Sl.nil Sl.nil R5 hr9) ?_
  rintro v10 w11 H12 hle13 S ⟨u14, rfl, R15⟩
  have R5 := Sl.mono R5 hle13
  refine W.alloc [(int 0), (int 0), (str []), (.slice none 0 0), (str [])] S zer46 ?_
  intro b16 w17 S
  refine W.store (i := 0) [(int r9.fMinor), (int r9.fStatus), (str r9.fReason), u14, (str r9.fBody)] S rfl rfl rfl lay46 rfl (AllOne.all (l := [(int r9.fMinor), (int r9.fStatus), (str r9.fReason), u14, (str r9.fBody)]) (.cons rfl (.cons rfl (.cons rfl (.cons (Sl.oneC R15) (.cons rfl .nil)))))) (Nat.le_of_ble_eq_true rfl) rfl ?_
  intro w18 S
  refine WL.nil ?_
  refine WP.seq ?_
  refine WP.region ?_
  refine WL.valw (R.build [(3, (str [79, 75]))] [(.slice none 0 0), (.slice none 0 0), (.slice none 0 0), (str [79, 75]), (.slice none 0 0), (str []), (int 0), (int 0)] bp26 zer26 rfl rfl) ?_
  obtain ⟨r19, hr19, h⟩ := bindE h
  refine W.call S rfl (entry_Size_ok S.holds (hG.post S.post) (⟨([] : List (List Str)), ([] : List Str), ([] : List Str), [79, 75], ([] : List GField), [], 0, 0⟩ : GEntry) Sl.nil Sl.nil Sl.nil Sl.nil hr19) ?_
  rintro v20 w21 H22 hle23 S rfl
  have R5 := Sl.mono R5 hle23
  have R15 := Sl.mono R15 hle23
  refine WL.valw (R.eql rfl rfl) ?_
  refine WL.valw (R.mv (v := (boo (r19 == 102))) rfl) ?_
  refine WL.grp 4 [12, 13, 14] 15 (boo ((r19 == 102) && (r9.fStatus == 200))) ?_ ?_
  · rcases boolE (r19 == 102) with hb24 | hb24
    · refine WL.gyes rfl rfl hb24 ?_
      refine WL.valw (R.fieldB rfl fld46_1) ?_
      refine WL.gyes rfl rfl hb24 ?_
      refine WL.valw (R.loadB (i := 0) (v := (int r9.fStatus)) S rfl rfl lay3 rfl) ?_
      refine WL.gyes rfl rfl hb24 ?_
      refine WL.valw (R.eql rfl rfl) ?_
      refine WL.valw (R.pickT rfl hb24 rfl) ?_
      exact WL.nil ⟨(andT hb24), (by repeat (first | refine agree_upd rfl ?_ | refine agree_upds' rfl ?_ | exact agree_refl)), rfl⟩
    · refine WL.gno rfl rfl hb24 ?_
      refine WL.gno rfl rfl hb24 ?_
      refine WL.gno rfl rfl hb24 ?_
      refine WL.valw (R.pickF rfl hb24 rfl) ?_
      exact WL.nil ⟨(andF hb24), (by repeat (first | refine agree_upd rfl ?_ | refine agree_upds' rfl ?_ | exact agree_refl)), rfl⟩
  · intro us
    refine WL.valw (R.mv (v := (boo ((r19 == 102) && (r9.fStatus == 200)))) rfl) ?_
    refine WL.grp 4 [17, 18, 19] 20 (boo (((r19 == 102) && (r9.fStatus == 200)) && (r9.fBody == [120]))) ?_ ?_
    · rcases boolE ((r19 == 102) && (r9.fStatus == 200)) with hb26 | hb26
      · refine WL.gyes rfl rfl hb26 ?_
        refine WL.valw (R.fieldB rfl fld46_4) ?_
        refine WL.gyes rfl rfl hb26 ?_
        refine WL.valw (R.loadB (i := 0) (v := (str r9.fBody)) S rfl rfl lay9 rfl) ?_
        refine WL.gyes rfl rfl hb26 ?_
        refine WL.valw (R.eqlS (a := r9.fBody) (b := [120]) rfl rfl) ?_
        refine WL.valw (R.pickT rfl hb26 rfl) ?_
        exact WL.nil ⟨(andT hb26), (by repeat (first | refine agree_upd rfl ?_ | refine agree_upds' rfl ?_ | exact agree_refl)), rfl⟩
      · refine WL.gno rfl rfl hb26 ?_
        refine WL.gno rfl rfl hb26 ?_
        refine WL.gno rfl rfl hb26 ?_
        refine WL.valw (R.pickF rfl hb26 rfl) ?_
        exact WL.nil ⟨(andF hb26), (by repeat (first | refine agree_upd rfl ?_ | refine agree_upds' rfl ?_ | exact agree_refl)), rfl⟩
    · intro us
      refine WL.valw (R.mv (v := (boo (((r19 == 102) && (r9.fStatus == 200)) && (r9.fBody == [120])))) rfl) ?_
      refine WL.grp 5 [22, 23, 24, 25] 26 (boo ((((r19 == 102) && (r9.fStatus == 200)) && (r9.fBody == [120])) && ((r9.fFields.length : Int) == 2))) ?_ ?_
      · rcases boolE (((r19 == 102) && (r9.fStatus == 200)) && (r9.fBody == [120])) with hb28 | hb28
        · refine WL.gyes rfl rfl hb28 ?_
          refine WL.valw (R.fieldB rfl fld46_3) ?_
          refine WL.gyes rfl rfl hb28 ?_
          refine WL.valw (R.loadB (i := 0) (v := u14) S rfl rfl lay24 rfl) ?_
          refine WL.gyes rfl rfl hb28 ?_
          refine WL.valw (R.lenL (α := GField) (xs := r9.fFields) (H := H22) R15 rfl Tryd.underlying24) ?_
          refine WL.gyes rfl rfl hb28 ?_
          refine WL.valw (R.eql rfl rfl) ?_
          refine WL.valw (R.pickT rfl hb28 rfl) ?_
          exact WL.nil ⟨(andT hb28), (by repeat (first | refine agree_upd rfl ?_ | refine agree_upds' rfl ?_ | exact agree_refl)), rfl⟩
        · refine WL.gno rfl rfl hb28 ?_
          refine WL.gno rfl rfl hb28 ?_
          refine WL.gno rfl rfl hb28 ?_
          refine WL.gno rfl rfl hb28 ?_
          refine WL.valw (R.pickF rfl hb28 rfl) ?_
          exact WL.nil ⟨(andF hb28), (by repeat (first | refine agree_upd rfl ?_ | refine agree_upds' rfl ?_ | exact agree_refl)), rfl⟩
      · intro us
        refine WL.valw (R.mv (v := (boo ((((r19 == 102) && (r9.fStatus == 200)) && (r9.fBody == [120])) && ((r9.fFields.length : Int) == 2)))) rfl) ?_
        obtain ⟨b36, hg31, h⟩ := bindE h
        refine WL.grp 7 [28, 29, 30, 31, 32, 33] 34 (boo b36) ?_ ?_
        · rcases boolE ((((r19 == 102) && (r9.fStatus == 200)) && (r9.fBody == [120])) && ((r9.fFields.length : Int) == 2)) with hb30 | hb30
          · replace hg31 := condT hg31 hb30
            refine WL.gyes rfl rfl hb30 ?_
            refine WL.valw (R.fieldB rfl fld46_3) ?_
            refine WL.gyes rfl rfl hb30 ?_
            refine WL.valw (R.loadB (i := 0) (v := u14) S rfl rfl lay24 rfl) ?_
            refine WL.gyes rfl rfl hb30 ?_
            obtain ⟨x32, hx32, hg31⟩ := bindE hg31
            refine W.idx (α := GField) R15 rfl rfl el24 hx32 ?_
            rintro a33 _ hA34 rfl
            refine WL.gyes rfl rfl hb30 ?_
            refine WL.valw (R.field rfl fld39_1) ?_
            have hA35 := At.add hA34 1 (by simp)
            refine WL.gyes rfl rfl hb30 ?_
            refine WL.valw (R.loadH (v := (str x32.fValue)) S rfl hA35 lay9 rfl) ?_
            refine WL.gyes rfl rfl hb30 ?_
            refine WL.valw (R.eqlS (a := x32.fValue) (b := [55]) rfl rfl) ?_
            refine WL.valw (R.pickT rfl hb30 rfl) ?_
            exact WL.nil ⟨(congrArg boo (Option.some.inj hg31)), (by repeat (first | refine agree_upd rfl ?_ | refine agree_upds' rfl ?_ | exact agree_refl)), rfl⟩
          · replace hg31 := condF hg31 hb30
            refine WL.gno rfl rfl hb30 ?_
            refine WL.gno rfl rfl hb30 ?_
            refine WL.gno rfl rfl hb30 ?_
            refine WL.gno rfl rfl hb30 ?_
            refine WL.gno rfl rfl hb30 ?_
            refine WL.gno rfl rfl hb30 ?_
            refine WL.valw (R.pickF rfl hb30 rfl) ?_
            exact WL.nil ⟨(congrArg boo (Option.some.inj hg31)), (by repeat (first | refine agree_upd rfl ?_ | refine agree_upds' rfl ?_ | exact agree_refl)), rfl⟩
        · intro us
          refine WL.valw (R.mv (v := (boo b36)) rfl) ?_
          obtain ⟨b43, hg38, h⟩ := bindE h
          refine WL.grp 7 [36, 37, 38, 39, 40, 41] 42 (boo b43) ?_ ?_
          · rcases boolE b36 with hb37 | hb37
            · replace hg38 := condT hg38 hb37
              refine WL.gyes rfl rfl hb37 ?_
              refine WL.valw (R.fieldB rfl fld46_3) ?_
              refine WL.gyes rfl rfl hb37 ?_
              refine WL.valw (R.loadB (i := 0) (v := u14) S rfl rfl lay24 rfl) ?_
              refine WL.gyes rfl rfl hb37 ?_
              obtain ⟨x39, hx39, hg38⟩ := bindE hg38
              refine W.idx (α := GField) R15 rfl rfl el24 hx39 ?_
              rintro a40 _ hA41 rfl
              refine WL.gyes rfl rfl hb37 ?_
              refine WL.valw (R.field rfl fld39_1) ?_
              have hA42 := At.add hA41 1 (by simp)
              refine WL.gyes rfl rfl hb37 ?_
              refine WL.valw (R.loadH (v := (str x39.fValue)) S rfl hA42 lay9 rfl) ?_
              refine WL.gyes rfl rfl hb37 ?_
              refine WL.valw (R.eqlS (a := x39.fValue) (b := [49, 46, 49, 32, 112]) rfl rfl) ?_
              refine WL.valw (R.pickT rfl hb37 rfl) ?_
              exact WL.nil ⟨(congrArg boo (Option.some.inj hg38)), (by repeat (first | refine agree_upd rfl ?_ | refine agree_upds' rfl ?_ | exact agree_refl)), rfl⟩
            · replace hg38 := condF hg38 hb37
              refine WL.gno rfl rfl hb37 ?_
              refine WL.gno rfl rfl hb37 ?_
              refine WL.gno rfl rfl hb37 ?_
              refine WL.gno rfl rfl hb37 ?_
              refine WL.gno rfl rfl hb37 ?_
              refine WL.gno rfl rfl hb37 ?_
              refine WL.valw (R.pickF rfl hb37 rfl) ?_
              exact WL.nil ⟨(congrArg boo (Option.some.inj hg38)), (by repeat (first | refine agree_upd rfl ?_ | refine agree_upds' rfl ?_ | exact agree_refl)), rfl⟩
          · intro us
            refine WL.valw (R.as (v := (boo b43)) rfl) ?_
            refine WL.nil ?_
            obtain rfl := Option.some.inj h
            refine WP.ret (Out.one rfl S rfl ?_)
            exact rfl
end Go.Proofs
