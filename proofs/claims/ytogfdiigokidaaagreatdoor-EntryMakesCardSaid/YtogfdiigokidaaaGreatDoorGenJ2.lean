/- A part of the proof of laws of the seat: written by program over the translation. -/
import Derived.Test.YtogfdiigokidaaaGreatDoorEng31
import Derived.Test.YtogfdiigokidaaaGreatDoorGenJ1
namespace Go.Proofs
set_option maxHeartbeats 4000000
set_option maxRecDepth 10000
open Go.Eng Go.Eng.Pure
set_option linter.unusedVariables false
theorem strings_SplitSeq_okM {w0 ws : World} {H0 Hs : Hp} {L2 : List Ent} (S : St w0 H0 ws Hs L2) (s sep : Str) :
  ConS Tryz.prog 84 [str s, str sep] w0 H0 ws Hs L2 (fun H' v L' => ∃ b0 b1 b2 : Nat, L' = [.box b0 9 [str sep], .box b1 9 [str s], .box b2 3 [int 0]] ∧ v = .func (.func 169) #[] [ptr b0 0, ptr b1 0, ptr b2 0].toArray) := by
 refine ConS.mk (N := 8) Tryz.func84 rfl rfl (by kernel_rfl) rfl<|WP.s<|WP.g<|WL.a (.nilFunc) rfl<|WL.e<|WP.s<|WP.g<|WL.m (str s) rfl<|WL.m (str sep) rfl<|W.callS rfl (strings_splitSeq_okM S s sep 0) ?_
 rintro _ w2 H2 _ hle S ⟨b0, b1, b2, rfl, rfl⟩
 refine WL.w (R.as rfl)<|WL.e ?_
 refine WP.ret (OutS.one rfl hle S rfl ?_)
 exact ⟨_, _, _, rfl, rfl⟩
theorem hop_Strip_ok {w0 : World} {H0 : Hp} (hw : Holds w0 H0) (hG : Tryz.Gl w0) (p_l : (List GField)) {vp_l : Value} (Rp_l : Sl (α := GField) H0 vp_l p_l) {r : (List GField)} (h : hop_Strip p_l = some r) :
  Con Tryz.prog 45 [vp_l] w0 H0 (fun H' v => Sl (α := GField) H' v r) := by
 refine Con.mkR (N := 49) Tryz.func45 rfl rfl (by kernel_rfl) rfl ?_
 have S := St.start hw
 refine WPR.seq<|WPR.of<|WP.g<|WL.a (.slice none 0 0) rfl<|WL.e<|WPR.seq<|WPR.of<|WP.g<|W.makeMap S ?_
 intro b1 w2 S
 refine W.alloc [(.map none)] S zer107 ?_
 intro b3 w4 S
 refine W.store (i := 0) [(mapv b1)] S rfl rfl rfl lay107 rfl rfl (Nat.le_of_ble_eq_true rfl) rfl ?_
 intro w5 S
 refine WL.e<|WPR.seq<|WPR.of<|WP.s<|WP.g<|WL.m (vp_l) rfl ?_
 obtain ⟨r6, hr6, h⟩ := bindE h
 refine W.call S rfl (list_All_ok S.holds (hG.post S.post) p_l [67, 111, 110, 110, 101, 99, 116, 105, 111, 110] Rp_l hr6) ?_
 rintro v7 w8 H9 hle10 S R11
 have Rp_l := Sl.mono Rp_l hle10
 refine WL.w (R.lenL (α := Str) (xs := r6) (H := H9) R11 rfl Tryz.underlying23)<|WL.m (int 0) rfl<|WL.e ?_
 obtain ⟨m23, hr28, h⟩ := bindE h
 refine WP.cut (fun f w => ∃ (H20 : Hp), f 0 = vp_l ∧ f 3 = (ptr b3 0) ∧ Sl (α := GField) H20 vp_l p_l ∧ St w0 H0 w H20 [.box b3 107 [(mapv b1)], .mp b1 (encm boo m23)]) ?_ ?_
 ·refine WP.block ?_
  refine WP.loopM (hop_Strip_L0 r6) (fun s f w => match s with | (y_17, m19) => ∃ (H12 : Hp), f 0 = vp_l ∧ f 3 = (ptr b3 0) ∧ f 13 = v7 ∧ f 14 = (int (r6.length : Int)) ∧ f 15 = (int y_17) ∧ Sl (α := GField) H12 vp_l p_l ∧ Sl (α := Str) H12 v7 r6 ∧ St w0 H0 w H12 [.box b3 107 [(mapv b1)], .mp b1 (encm boo m19)]) (0, ([] : List (Str × Bool))) m23 hr28 ?_ ?_
  ·exact ⟨H9, rfl, rfl, rfl, rfl, rfl, Rp_l, R11, S⟩
  ·intro s f w hI y24 hy25 hy26
   obtain ⟨y_17, m19⟩ := s
   obtain ⟨H12, h13, h14, h15, h16, h18, Rp_l, R11, S⟩ := hI
   refine WP.s<|WP.g<|WL.w (R.lss h18 h16)<|WL.e<|WP.s ?_
   rcases condE hy25 with ⟨hc29, hy25⟩ | ⟨hc29, hy25⟩
   ·refine WP.condT rfl hc29<|WP.skip<|WP.s<|WP.block<|WP.s<|WP.g ?_
    obtain ⟨x30, hx30, hy25⟩ := bindE hy25
    refine W.idx (α := Str) R11 h15 h18 el23 hx30 ?_
    rintro a31 _ hA32 rfl
    refine WL.w (R.loadH (v := str x30) S rfl hA32 lay9 rfl)<|WL.a (str x30) rfl<|WL.e<|WP.quietTail 3 S (by kernel_rfl) (by kernel_rfl)<|WQ.val (fun w hw => by obtain ⟨_, hq, S⟩ := hw; exact (R.loadB (i := 0) (v := mapv b1) S h14 rfl lay107 rfl))<|WQ.val (fun _ _ => (R.mv (v := str x30) rfl)) ?_
    obtain ⟨r36, hr36, hy25⟩ := bindE hy25
    refine WQ.call (v := str r36) rfl (fun w H' hq S => ascii_Lower_ok S.holds (hG.post S.post) x30 hr36)<|WQ.nil ?_
    intro w33 H34 hle35 S
    have Rp_l := Sl.mono Rp_l hle35
    have R11 := Sl.mono R11 hle35
    refine W.mapUpdate boo (i := 1) (m := m19) true S rfl rfl rfl rfl rfl Tryz.underlying107 Tryz.underlying9 ?_
    intro w41 S
    refine WL.e<|WP.g<|WL.w (R.add h18 rfl)<|WL.m (int (wr (y_17 + 1))) rfl<|WL.e ?_
    obtain rfl := oi hy25
    exact ⟨rfl, ⟨H34, h13, h14, h15, h16, rfl, Rp_l, R11, S⟩⟩
   ·refine WP.condF rfl hc29<|WP.exit ?_
    obtain rfl := oi hy25
    obtain rfl := hy26
    exact ⟨H12, h13, h14, Rp_l, S⟩
 ·rintro f w ⟨H20, h21, h22, Rp_l, S⟩
  refine WPR.seq<|WPR.seq<|WPR.of<|WP.g<|W.callS rfl (strings_SplitSeq_okM S [104, 111, 115, 116, 32, 99, 97, 99, 104, 101, 45, 99, 111, 110, 116, 114, 111, 108, 32, 118, 97, 114, 121, 32, 118, 97, 114, 105, 97, 110, 116, 115, 32, 118, 97, 114, 105, 97, 110, 116, 45, 107, 101, 121, 32, 118, 105, 97] [32]) ?_
  rintro _ w42 H43 _ hle44 S ⟨b45, b46, b47, rfl, rfl⟩
  replace S : St w0 H0 _ H43 [.box b45 9 [(str [32])], .box b46 9 [(str [104, 111, 115, 116, 32, 99, 97, 99, 104, 101, 45, 99, 111, 110, 116, 114, 111, 108, 32, 118, 97, 114, 121, 32, 118, 97, 114, 105, 97, 110, 116, 115, 32, 118, 97, 114, 105, 97, 110, 116, 45, 107, 101, 121, 32, 118, 105, 97])], .box b47 3 [(int 0)], .box b3 107 [(mapv b1)], .mp b1 (encm boo m23)] := S
  have Rp_l := Sl.mono Rp_l hle44
  refine WL.e<|WPR.block ?_
  replace S := S.front 2 rfl
  replace S := S.front 2 rfl
  replace S := S.front 2 rfl
  replace S := S.front 4 rfl
  replace S := S.front 4 rfl
  replace S : St w0 H0 _ H43 [.box b3 107 [(mapv b1)], .mp b1 (encm boo m23), .box b45 9 [(str [32])], .box b46 9 [(str [104, 111, 115, 116, 32, 99, 97, 99, 104, 101, 45, 99, 111, 110, 116, 114, 111, 108, 32, 118, 97, 114, 121, 32, 118, 97, 114, 105, 97, 110, 116, 115, 32, 118, 97, 114, 105, 97, 110, 116, 45, 107, 101, 121, 32, 118, 105, 97])], .box b47 3 [(int 0)]] := S
  obtain ⟨m48, hm48, h⟩ := bindE h
  refine WPR.range (caps := [(ptr b45 0), (ptr b46 0), (ptr b47 0)]) S rfl (enter_of Tryz.func169 rfl (by kernel_rfl)) ?_
  intro fn D49 w50 S
  replace S := S.front 3 rfl
  replace S := S.front 3 rfl
  replace S := S.front 2 rfl
  replace S := S.front 6 rfl
  replace S := S.front 6 rfl
  replace S := S.front 6 rfl
  replace S := S.front 5 rfl
  replace S := S.front 5 rfl
  replace S := S.front 5 rfl
  refine Calls.mono (strings_splitSeq_1_okY hG (fun m k => mdel m k) (Nat.le_of_ble_eq_true rfl) rfl (by exact fun k m w H L S => Round.del S ⟨rfl, h22, rfl, rfl, rfl⟩ (i1 := 0) (i2 := 1) rfl rfl lay107 rfl Tryz.underlying107 Tryz.underlying9) S).2 ?_
  rintro _ w51 ⟨v, H53, L3, rfl, hle54, S, s9, rfl, rfl⟩
  refine ⟨_, rfl, H53, _, S, ?_⟩
  intro w52 S
  rw [oi hm48] at S
  replace S : St w0 H0 _ H53 [.box b3 107 [(mapv b1)], .mp b1 (encm boo m48), .box b45 9 [(str [32])], .box b46 9 [(str s9)], .box b47 3 [(int 0)], .obj D49 (.deferred (some []))] := S
  replace S := S.drop _ (.cons_cons _ (.cons_cons _ (.cons _ (.cons _ (.cons _ (.cons_cons _ .slnil))))))
  have Rp_l := Sl.mono Rp_l hle54
  refine WPR.seq<|WPR.seq<|WPR.of<|WP.g<|W.callS rfl (strings_SplitSeq_okM S [99, 111, 110, 110, 101, 99, 116, 105, 111, 110, 32, 107, 101, 101, 112, 45, 97, 108, 105, 118, 101, 32, 112, 114, 111, 120, 121, 45, 99, 111, 110, 110, 101, 99, 116, 105, 111, 110, 32, 112, 114, 111, 120, 121, 45, 97, 117, 116, 104, 101, 110, 116, 105, 99, 97, 116, 101, 32, 112, 114, 111, 120, 121, 45, 97, 117, 116, 104, 111, 114, 105, 122, 97, 116, 105, 111, 110, 32, 116, 101, 32, 116, 114, 97, 105, 108, 101, 114, 32, 116, 114, 97, 110, 115, 102, 101, 114, 45, 101, 110, 99, 111, 100, 105, 110, 103, 32, 99, 111, 110, 116, 101, 110, 116, 45, 108, 101, 110, 103, 116, 104, 32, 117, 112, 103, 114, 97, 100, 101] [32]) ?_
  rintro _ w55 H56 _ hle57 S ⟨b58, b59, b60, rfl, rfl⟩
  replace S : St w0 H0 _ H56 [.box b58 9 [(str [32])], .box b59 9 [(str [99, 111, 110, 110, 101, 99, 116, 105, 111, 110, 32, 107, 101, 101, 112, 45, 97, 108, 105, 118, 101, 32, 112, 114, 111, 120, 121, 45, 99, 111, 110, 110, 101, 99, 116, 105, 111, 110, 32, 112, 114, 111, 120, 121, 45, 97, 117, 116, 104, 101, 110, 116, 105, 99, 97, 116, 101, 32, 112, 114, 111, 120, 121, 45, 97, 117, 116, 104, 111, 114, 105, 122, 97, 116, 105, 111, 110, 32, 116, 101, 32, 116, 114, 97, 105, 108, 101, 114, 32, 116, 114, 97, 110, 115, 102, 101, 114, 45, 101, 110, 99, 111, 100, 105, 110, 103, 32, 99, 111, 110, 116, 101, 110, 116, 45, 108, 101, 110, 103, 116, 104, 32, 117, 112, 103, 114, 97, 100, 101])], .box b60 3 [(int 0)], .box b3 107 [(mapv b1)], .mp b1 (encm boo m48), .obj D49 (.deferred (some []))] := S
  have Rp_l := Sl.mono Rp_l hle57
  refine WL.e<|WPR.block ?_
  replace S := S.front 5 rfl
  replace S := S.front 3 rfl
  replace S := S.front 3 rfl
  replace S := S.front 3 rfl
  replace S := S.front 5 rfl
  replace S := S.front 5 rfl
  replace S : St w0 H0 _ H56 [.box b3 107 [(mapv b1)], .mp b1 (encm boo m48), .box b58 9 [(str [32])], .box b59 9 [(str [99, 111, 110, 110, 101, 99, 116, 105, 111, 110, 32, 107, 101, 101, 112, 45, 97, 108, 105, 118, 101, 32, 112, 114, 111, 120, 121, 45, 99, 111, 110, 110, 101, 99, 116, 105, 111, 110, 32, 112, 114, 111, 120, 121, 45, 97, 117, 116, 104, 101, 110, 116, 105, 99, 97, 116, 101, 32, 112, 114, 111, 120, 121, 45, 97, 117, 116, 104, 111, 114, 105, 122, 97, 116, 105, 111, 110, 32, 116, 101, 32, 116, 114, 97, 105, 108, 101, 114, 32, 116, 114, 97, 110, 115, 102, 101, 114, 45, 101, 110, 99, 111, 100, 105, 110, 103, 32, 99, 111, 110, 116, 101, 110, 116, 45, 108, 101, 110, 103, 116, 104, 32, 117, 112, 103, 114, 97, 100, 101])], .box b60 3 [(int 0)], .obj D49 (.deferred (some []))] := S
  obtain ⟨m61, hm61, h⟩ := bindE h
  refine WPR.range (caps := [(ptr b58 0), (ptr b59 0), (ptr b60 0)]) S rfl (enter_of Tryz.func169 rfl (by kernel_rfl)) ?_
  intro fn D62 w63 S
  replace S := S.front 3 rfl
  replace S := S.front 3 rfl
  replace S := S.front 2 rfl
  replace S := S.front 6 rfl
  replace S := S.front 6 rfl
  replace S := S.front 6 rfl
  replace S := S.front 5 rfl
  replace S := S.front 5 rfl
  replace S := S.front 5 rfl
  refine Calls.mono (strings_splitSeq_1_okY hG (fun m k => mset m k true) (Nat.le_of_ble_eq_true rfl) rfl (by exact fun k m w H L S => Round.set S ⟨rfl, h22, rfl, rfl, rfl⟩ (i1 := 0) (i2 := 1) rfl rfl lay107 Tryz.underlying107 Tryz.underlying9) S).2 ?_
  rintro _ w64 ⟨v, H66, L3, rfl, hle67, S, s9, rfl, rfl⟩
  refine ⟨_, rfl, H66, _, S, ?_⟩
  intro w65 S
  rw [oi hm61] at S
  replace S : St w0 H0 _ H66 [.box b3 107 [(mapv b1)], .mp b1 (encm boo m61), .box b58 9 [(str [32])], .box b59 9 [(str s9)], .box b60 3 [(int 0)], .obj D62 (.deferred (some [])), .obj D49 (.deferred (some []))] := S
  replace S := S.drop _ (.cons_cons _ (.cons_cons _ (.cons _ (.cons _ (.cons _ (.cons_cons _ (.cons_cons _ .slnil)))))))
  have Rp_l := Sl.mono Rp_l hle67
  refine WPR.of<|WP.s<|WP.g<|WL.a (.slice none 0 0) rfl<|WL.e<|WP.s<|WP.s<|WP.g<|WL.m (vp_l) h21<|WL.w (R.lenL (α := GField) (xs := p_l) (H := H66) Rp_l rfl Tryz.underlying24)<|WL.m (int 0) rfl<|WL.e ?_
  have S := S.addNil 53 2
  obtain ⟨out_79, hr87, h⟩ := bindE h
  refine WP.cut (fun f w => ∃ (H78 : Hp) (v80 : Value), f 8 = v80 ∧ Sl (α := GField) H78 v80 out_79 ∧ St w0 H0 w H78 [.row v80 53 2 out_79.length, .obj D62 (.deferred (some [])), .obj D49 (.deferred (some []))]) ?_ ?_
  ·refine WP.block ?_
   refine WP.loopM (hop_Strip_L1 p_l m61) (fun s f w => match s with | (out_70, y_76) => ∃ (H68 : Hp) (v71 : Value), f 3 = (ptr b3 0) ∧ f 8 = v71 ∧ f 31 = vp_l ∧ f 32 = (int (p_l.length : Int)) ∧ f 33 = (int y_76) ∧ Sl (α := GField) H68 v71 out_70 ∧ Sl (α := GField) H68 vp_l p_l ∧ St w0 H0 w H68 [.row v71 53 2 out_70.length, .box b3 107 [(mapv b1)], .mp b1 (encm boo m61), .obj D62 (.deferred (some [])), .obj D49 (.deferred (some []))]) (([] : List GField), 0) out_79 hr87 ?_ ?_
   ·exact ⟨H66, .slice none 0 0, h22, rfl, rfl, rfl, rfl, Sl.nil, Rp_l, S⟩
   ·intro s f w hI y83 hy84 hy85
    obtain ⟨out_70, y_76⟩ := s
    obtain ⟨H68, v71, h69, h73, h74, h75, h77, R72, Rp_l, S⟩ := hI
    refine WP.s<|WP.g<|WL.w (R.lss h77 h75)<|WL.e<|WP.s ?_
    rcases condE hy84 with ⟨hc88, hy84⟩ | ⟨hc88, hy84⟩
    ·refine WP.condT rfl hc88<|WP.skip<|WP.s<|WP.block<|WP.s<|WP.g ?_
     obtain ⟨x89, hx89, hy84⟩ := bindE hy84
     refine W.idx (α := GField) Rp_l h74 h77 el24 hx89 ?_
     rintro a90 _ hA91 rfl
     refine WL.w (R.loadHN (vs := [(str x89.fName), (str x89.fValue)]) S rfl hA91 lay53 rfl rfl)<|W.alloc [(str []), (str [])] S zer53 ?_
     intro b92 w93 S
     refine W.store (i := 0) [(str x89.fName), (str x89.fValue)] S rfl rfl rfl lay53 rfl rfl (Nat.le_of_ble_eq_true rfl) rfl ?_
     intro w94 S
     refine WL.e<|WP.s<|WP.quiet S (by kernel_rfl) (by kernel_rfl)<|WQ.val (fun w hw => by obtain ⟨_, hq, S⟩ := hw; exact (R.loadB (i := 2) (v := mapv b1) S h69 rfl lay107 rfl))<|WQ.val (fun _ _ => (R.fieldB rfl fld53_0))<|WQ.val (fun w hw => by obtain ⟨_, hq, S⟩ := hw; exact (R.loadB (i := 0) (v := str x89.fName) S rfl rfl lay9 rfl)) ?_
     obtain ⟨r98, hr98, hy84⟩ := bindE hy84
     refine WQ.call (v := str r98) rfl (fun w H' hq S => ascii_Lower_ok S.holds (hG.post S.post) x89.fName hr98) ?_
     obtain ⟨g103, hg103, hy84⟩ := bindE hy84
     refine WQ.val (v := boo g103.1) (fun w hw => by obtain ⟨_, hq, S⟩ := hw; exact (R.ofEq (R.lookup1 boo (i := 3) (m := m61) (z := false) S rfl rfl rfl Tryz.underlying107 Tryz.underlying9 mz4 rfl) (by rw [oi hg103])))<|WQ.val (fun _ _ => (R.not rfl))<|WQ.nil ?_
     intro w95 H96 hle97 S
     have R72 := Sl.mono R72 hle97
     have Rp_l := Sl.mono Rp_l hle97
     rcases condE hy84 with ⟨hc104, hy84⟩ | ⟨hc104, hy84⟩
     ·refine WP.condT rfl hc104<|WP.g<|WL.m (v71) h73<|WL.w (R.loadBN (i := 0) (vs := [(str x89.fName), (str x89.fValue)]) S rfl rfl lay53 rfl rfl)<|W.bslice (α := GField) [(agg [(str x89.fName), (str x89.fValue)])] ([x89] : List GField) S el24 rfl rfl rfl (by decide) (Go.Eng.encS ⟨rfl, rfl⟩ enc0) ?_
      intro u105 w106 H107 hle108 R109 S
      have R72 := Sl.mono R72 hle108
      have Rp_l := Sl.mono Rp_l hle108
      obtain ⟨l110, hl110, hy84⟩ := bindE hy84
      refine W.app (α := GField) (i := 2) S el24 rfl rfl rfl R72 R109 hl110 ?_
      intro v111 w112 H113 hle114 R115 S
      have R72 := Sl.mono R72 hle114
      have Rp_l := Sl.mono Rp_l hle114
      refine WL.a (v111) rfl<|WL.e<|WP.g<|WL.w (R.add h77 rfl)<|WL.m (int (wr (y_76 + 1))) rfl<|WL.e ?_
      obtain rfl := oi hy84
      exact ⟨rfl, ⟨H113, v111, h69, rfl, h74, h75, rfl, R115, Rp_l, (S.drop _ (.cons _ (.cons _ (.cons_cons _ (.cons_cons _ (.cons_cons _ (.cons_cons _ (.cons_cons _ .slnil))))))))⟩⟩
     ·refine WP.condF rfl hc104<|WP.skip<|WP.g<|WL.w (R.add h77 rfl)<|WL.m (int (wr (y_76 + 1))) rfl<|WL.e ?_
      obtain rfl := oi hy84
      exact ⟨rfl, ⟨H96, v71, h69, h73, h74, h75, rfl, R72, Rp_l, (S.drop _ (.cons _ (.cons_cons _ (.cons_cons _ (.cons_cons _ (.cons_cons _ (.cons_cons _ .slnil)))))))⟩⟩
    ·refine WP.condF rfl hc88<|WP.exit ?_
     obtain rfl := oi hy84
     obtain rfl := hy85
     exact ⟨H68, v71, h73, R72, (S.drop _ (.cons_cons _ (.cons _ (.cons _ (.cons_cons _ (.cons_cons _ .slnil))))))⟩
  ·rintro f w ⟨H78, v80, h82, R81, S⟩
   refine WP.s<|WP.g<|WL.m (v80) h82<|WL.a (v80) rfl<|WL.e ?_
   obtain rfl := oi h
   replace S := S.front 2 rfl
   replace S := S.front 2 rfl
   refine WP.ret (OutR.one [D62, D49] rfl rfl S rfl ?_)
   exact R81
theorem fieldline_Has_ok {w0 : World} {H0 : Hp} (hw : Holds w0 H0) (hG : Tryz.Gl w0) (p_l : (List GField)) (p_name : Str) {vp_l : Value} (Rp_l : Sl (α := GField) H0 vp_l p_l) {r : Bool} (h : fieldline_Has p_l p_name = some r) :
  Con Tryz.prog 85 [vp_l, (str p_name)] w0 H0 (fun H' v => v = (boo r)) := by
 refine Con.mk (N := 11) Tryz.func85 rfl rfl (by kernel_rfl) rfl ?_
 have S := St.start hw
 refine WP.s<|WP.g<|WL.a (boo false) rfl<|WL.e<|WP.s<|WP.g<|WL.m (vp_l) rfl<|WL.m (str p_name) rfl ?_
 obtain ⟨r1, hr1, h⟩ := bindE h
 refine W.call S rfl (fieldline_named_ok S.holds (hG.post S.post) p_name hr1) ?_
 rintro v2 w3 H4 hle5 S ⟨kr1, cr1, rfl, Fr1⟩
 have Rp_l := Sl.mono Rp_l hle5
 obtain ⟨r6, hr6, h⟩ := bindE h
 refine W.call S rfl (fieldline_filter_ok S.holds (hG.post S.post) p_l r1 Rp_l (fun hle => Fr1 (Hp.le.trans (Hp.le.refl _) hle)) hr6) ?_
 rintro v7 w8 H9 hle10 S R11
 refine WL.w (R.lenL (α := GField) (xs := r6) (H := H9) R11 rfl Tryz.underlying24)<|WL.w (R.gtr rfl rfl)<|WL.a (boo (decide (0 < (r6.length : Int)))) rfl<|WL.e ?_
 obtain rfl := oi h
 refine WP.ret (Out.one rfl S rfl ?_)
 exact rfl
theorem stringslite_Cut_ok {w0 : World} {H0 : Hp} (hw : Holds w0 H0) (hG : Tryz.Gl w0) (p_s : Str) (p_sep : Str) {r : (Str × Str × Bool)} (h : stringslite_Cut p_s p_sep = some r) :
  Con Tryz.prog 129 [(str p_s), (str p_sep)] w0 H0 (fun H' v => v = (.tuple ⟨[(str r.1), (str r.2.1), (boo r.2.2)]⟩)) := by
 refine Con.mk (N := 23) Tryz.func129 rfl rfl (by kernel_rfl) rfl ?_
 have S := St.start hw
 refine WP.s<|WP.g<|WL.a (str []) rfl<|WL.a (str []) rfl<|WL.a (boo false) rfl<|WL.e<|WP.s<|WP.s<|WP.g<|WL.m (str p_s) rfl<|WL.m (str p_sep) rfl ?_
 obtain ⟨r1, hr1, h⟩ := bindE h
 refine W.call S rfl (stringslite_Index_ok S.holds p_s p_sep hr1) ?_
 rintro v2 w3 H4 hle5 S rfl
 refine WL.a (int r1) rfl<|WL.e<|WP.s<|WP.g<|WL.m (int r1) rfl<|WL.w (R.geq rfl rfl)<|WL.e ?_
 rcases condE h with ⟨hc6, h⟩ | ⟨hc6, h⟩
 ·refine WP.condT rfl hc6<|WP.s<|WP.quiet S (by kernel_rfl) (by kernel_rfl)<|WQ.val (fun _ _ => (R.mv (v := str p_s) rfl))<|WQ.val (fun _ _ => (R.mv (v := int r1) rfl)) ?_
  obtain ⟨s10, hs10, h⟩ := bindE h
  refine WQ.val (fun _ _ => (R.subShi rfl rfl Tryz.underlying9 hs10))<|WQ.val (fun _ _ => (R.mv (v := str p_s) rfl))<|WQ.val (fun _ _ => (R.mv (v := int r1) rfl))<|WQ.val (fun _ _ => (R.mv (v := str p_sep) rfl))<|WQ.val (fun _ _ => (R.lenS (a := p_sep) rfl Tryz.underlying9))<|WQ.val (fun _ _ => (R.add rfl rfl)) ?_
  obtain ⟨s11, hs11, h⟩ := bindE h
  refine WQ.val (fun _ _ => (R.subSlo rfl rfl Tryz.underlying9 hs11))<|WQ.val (fun _ _ => (R.as (v := str s10) rfl))<|WQ.val (fun _ _ => (R.as (v := str s11) rfl))<|WQ.val (fun _ _ => (R.as (v := boo true) rfl))<|WQ.nil ?_
  intro w7 H8 hle9 S
  obtain rfl := oi h
  refine WP.ret (Out.three rfl S rfl rfl rfl ?_)
  exact rfl
 ·refine WP.condF rfl hc6<|WP.skip<|WP.s<|WP.g<|WL.m (str p_s) rfl<|WL.a (str p_s) rfl<|WL.a (str []) rfl<|WL.a (boo false) rfl<|WL.e ?_
  obtain rfl := oi h
  refine WP.ret (Out.three rfl S rfl rfl rfl ?_)
  exact rfl
theorem strings_Cut_ok {w0 : World} {H0 : Hp} (hw : Holds w0 H0) (hG : Tryz.Gl w0) (p_s : Str) (p_sep : Str) {r : (Str × Str × Bool)} (h : strings_Cut p_s p_sep = some r) :
  Con Tryz.prog 86 [(str p_s), (str p_sep)] w0 H0 (fun H' v => v = (.tuple ⟨[(str r.1), (str r.2.1), (boo r.2.2)]⟩)) := by
 refine Con.mk (N := 13) Tryz.func86 rfl rfl (by kernel_rfl) rfl ?_
 have S := St.start hw
 refine WP.s<|WP.g<|WL.a (str []) rfl<|WL.a (str []) rfl<|WL.a (boo false) rfl<|WL.e<|WP.s<|WP.g<|WL.m (str p_s) rfl<|WL.m (str p_sep) rfl ?_
 obtain ⟨r1, hr1, h⟩ := bindE h
 refine W.call S rfl (stringslite_Cut_ok S.holds (hG.post S.post) p_s p_sep hr1) ?_
 rintro v2 w3 H4 hle5 S rfl
 refine WL.w (R.ext rfl rfl)<|WL.w (R.ext rfl rfl)<|WL.w (R.ext rfl rfl)<|WL.a (str r1.1) rfl<|WL.a (str r1.2.1) rfl<|WL.a (boo r1.2.2) rfl<|WL.e ?_
 obtain rfl := oi h
 refine WP.ret (Out.three rfl S rfl rfl rfl ?_)
 exact rfl
theorem strings_TrimLeft_ok {w0 : World} {H0 : Hp} (hw : Holds w0 H0) (hG : Tryz.Gl w0) (p_s : Str) (p_cutset : Str) {r : Str} (h : strings_TrimLeft p_s p_cutset = some r) :
  Con Tryz.prog 130 [(str p_s), (str p_cutset)] w0 H0 (fun H' v => v = (str r)) := by
 refine Con.mk (N := 37) Tryz.func130 rfl rfl (by kernel_rfl) rfl ?_
 have S := St.start hw
 refine WP.s<|WP.g<|WL.a (str []) rfl<|WL.e<|WP.s<|WP.s<|WP.g<|WL.m (str p_s) rfl<|WL.w (R.eqlS (a := p_s) (b := []) rfl rfl)<|WL.m (boo (p_s == [])) rfl ?_
 refine WL.grp 3 [10, 11] 12 (boo ((p_s == []) || (p_cutset == []))) ?_ ?_
 ·rcases boolE (p_s == []) with hb1 | hb1
  ·refine WL.n rfl rfl hb1<|WL.n rfl rfl hb1<|WL.w (R.pickT rfl hb1 rfl) ?_
   exact WL.e ⟨(orT hb1), ag, rfl⟩
  ·refine WL.y rfl rfl hb1<|WL.m (str p_cutset) rfl<|WL.y rfl rfl hb1<|WL.w (R.eqlS (a := p_cutset) (b := []) rfl rfl)<|WL.w (R.pickF rfl hb1 rfl) ?_
   exact WL.e ⟨(orF hb1), ag, rfl⟩
 ·intro us
  refine WL.e ?_
  rcases condE h with ⟨hc3, h⟩ | ⟨hc3, h⟩
  ·refine WP.condT rfl hc3<|WP.s<|WP.g<|WL.m (str p_s) rfl<|WL.a (str p_s) rfl<|WL.e ?_
   obtain rfl := oi h
   refine WP.ret (Out.one rfl S rfl ?_)
   exact rfl
  ·refine WP.condF rfl hc3<|WP.skip<|WP.s<|WP.s<|WP.g<|WL.m (str p_cutset) rfl<|WL.w (R.lenS (a := p_cutset) rfl Tryz.underlying9)<|WL.w (R.eql rfl rfl)<|WL.m (boo ((p_cutset.length : Int) == 1)) rfl ?_
   obtain ⟨b7, hg5, h⟩ := bindE h
   refine WL.grp 4 [18, 19, 20] 21 (boo b7) ?_ ?_
   ·rcases boolE ((p_cutset.length : Int) == 1) with hb4 | hb4
    ·replace hg5 := condT hg5 hb4
     refine WL.y rfl rfl hb4<|WL.m (str p_cutset) rfl<|WL.y rfl rfl hb4 ?_
     obtain ⟨c6, hc6, hg5⟩ := bindE hg5
     refine WL.w (R.idxS rfl rfl Tryz.underlying9 hc6)<|WL.y rfl rfl hb4<|WL.w (R.lss8 (a := c6) (b := 128) rfl rfl)<|WL.w (R.pickT rfl hb4 rfl) ?_
     exact WL.e ⟨(congrArg boo (oi hg5)), ag, rfl⟩
    ·replace hg5 := condF hg5 hb4
     refine WL.n rfl rfl hb4<|WL.n rfl rfl hb4<|WL.n rfl rfl hb4<|WL.w (R.pickF rfl hb4 rfl) ?_
     exact WL.e ⟨(congrArg boo (oi hg5)), ag, rfl⟩
   ·intro us
    refine WL.e ?_
    rcases condE h with ⟨hc8, h⟩ | ⟨hc8, h⟩
    ·refine WP.condT rfl hc8<|WP.s<|WP.g<|WL.m (str p_s) rfl<|WL.m (str p_cutset) rfl ?_
     obtain ⟨c9, hc9, h⟩ := bindE h
     refine WL.w (R.idxS rfl rfl Tryz.underlying9 hc9) ?_
     obtain ⟨r10, hr10, h⟩ := bindE h
     refine W.call S rfl (strings_trimLeftByte_ok S.holds (hG.post S.post) p_s c9 hr10) ?_
     rintro v11 w12 H13 hle14 S rfl
     refine WL.a (str r10) rfl<|WL.e ?_
     obtain rfl := oi h
     refine WP.ret (Out.one rfl S rfl ?_)
     exact rfl
    ·refine WP.condF rfl hc8<|WP.skip<|WP.s<|WP.s<|WP.g<|WL.m (str p_cutset) rfl ?_
     obtain ⟨r15, hr15, h⟩ := bindE h
     refine W.call S rfl (strings_makeASCIISet_ok S.holds p_cutset hr15) ?_
     rintro v16 w17 H18 hle19 S rfl
     refine WL.m (.tuple ⟨[(.agg (Lib.setCells p_cutset)), (boo true)]⟩) rfl<|WL.w (R.ext rfl rfl)<|WL.w (R.ext rfl rfl)<|W.alloc (List.replicate 256 (boo false)) S zer170 ?_
     intro b20 w21 S
     refine W.store (i := 0) (setc p_cutset) S rfl rfl rfl lay170 (show (Lib.setCells p_cutset).size = 256 by have := setc_len p_cutset; simpa [setc] using this) (setc_one p_cutset) (Nat.le_of_eq (by rw [List.length_replicate])) (splice_all ((setc_len p_cutset).trans (by rw [List.length_replicate]))) ?_
     intro w22 S
     obtain ⟨H23, hle24, hs25, _, S⟩ := S.settle (i := 0) rfl
     replace S : St w0 H0 _ H23 [] := S
     have hA26 : At H23 ⟨b20, 0, none⟩ (setc p_cutset) := ⟨_, _, rfl, hs25, [], by simp⟩
     refine WL.a (boo true) rfl<|WL.e<|WP.s<|WP.g<|WL.m (boo true) rfl<|WL.e<|WP.condT (b := true) rfl rfl<|WP.s<|WP.g<|WL.m (str p_s) rfl ?_
     obtain ⟨r27, hr27, h⟩ := bindE h
     refine W.call S rfl (strings_trimLeftASCII_ok S.holds (hG.post S.post) p_s p_cutset hA26 hr27) ?_
     rintro v28 w29 H30 hle31 S rfl
     refine WL.a (str r27) rfl<|WL.e ?_
     obtain rfl := oi h
     refine WP.ret (Out.one rfl S rfl ?_)
     exact rfl
theorem group_bare_ok {w0 : World} {H0 : Hp} (hw : Holds w0 H0) (hG : Tryz.Gl w0) (p_s : Str) {r : Int} (h : group_bare p_s = some r) :
  Con Tryz.prog 131 [(str p_s)] w0 H0 (fun H' v => v = (int r)) := by
 refine Con.mk (N := 11) Tryz.func131 rfl rfl (by kernel_rfl) rfl ?_
 have S := St.start hw
 refine WP.s<|WP.g<|WL.a (int 0) rfl<|WL.e<|WP.s<|WP.s<|WP.g<|WL.m (str p_s) rfl ?_
 obtain ⟨r1, hr1, h⟩ := bindE h
 refine W.call S rfl (strings_IndexAny_ok S.holds p_s [32, 9, 40, 41, 44, 34] hr1) ?_
 rintro v2 w3 H4 hle5 S rfl
 refine WL.a (int r1) rfl<|WL.e<|WP.s<|WP.g<|WL.m (int r1) rfl<|WL.w (R.geq rfl rfl)<|WL.e ?_
 rcases condE h with ⟨hc6, h⟩ | ⟨hc6, h⟩
 ·refine WP.condT rfl hc6<|WP.s<|WP.g<|WL.m (int r1) rfl<|WL.a (int r1) rfl<|WL.e ?_
  obtain rfl := oi h
  refine WP.ret (Out.one rfl S rfl ?_)
  exact rfl
 ·refine WP.condF rfl hc6<|WP.skip<|WP.s<|WP.g<|WL.m (str p_s) rfl<|WL.w (R.lenS (a := p_s) rfl Tryz.underlying9)<|WL.a (int (p_s.length : Int)) rfl<|WL.e ?_
  obtain rfl := oi h
  refine WP.ret (Out.one rfl S rfl ?_)
  exact rfl
theorem group_quoted_ok {w0 : World} {H0 : Hp} (hw : Holds w0 H0) (hG : Tryz.Gl w0) (p_s : Str) {r : Int} (h : group_quoted p_s = some r) :
  Con Tryz.prog 132 [(str p_s)] w0 H0 (fun H' v => v = (int r)) := by
 refine Con.mk (N := 21) Tryz.func132 rfl rfl (by kernel_rfl) rfl ?_
 have S := St.start hw
 refine WP.s<|WP.g<|WL.a (int 0) rfl<|WL.e<|WP.s<|WP.s<|WP.g<|WL.a (int 1) rfl<|WL.e ?_
 obtain ⟨r9, hr10, h⟩ := bindE h
 refine WP.cut (fun f w => match r9 with | .inl _ => ∃ (H5 : Hp), St w0 H0 w H5 [] | .inr _ => False) ?_ ?_
 ·refine WP.block ?_
  refine WP.loopM (group_quoted_L0 p_s) (fun s f w => match s with | i_3 => ∃ (H1 : Hp), f 0 = (str p_s) ∧ f 3 = (int i_3) ∧ St w0 H0 w H1 []) 1 r9 hr10 ?_ ?_
  ·exact ⟨H0, rfl, rfl, S⟩
  ·intro i_3 f w hI y6 hy7 hy8
   obtain ⟨H1, h2, h4, S⟩ := hI
   refine WP.s<|WP.s<|WP.g<|WL.m (int i_3) h4<|WL.m (str p_s) h2<|WL.w (R.lenS (a := p_s) rfl Tryz.underlying9)<|WL.w (R.lss rfl rfl)<|WL.e ?_
   rcases condE hy7 with ⟨hc11, hy7⟩ | ⟨hc11, hy7⟩
   ·refine WP.condT rfl hc11<|WP.skip<|WP.s<|WP.block<|WP.s<|WP.g<|WL.m (str p_s) h2<|WL.m (int i_3) h4 ?_
    obtain ⟨c12, hc12, hy7⟩ := bindE hy7
    refine WL.w (R.idxS rfl rfl Tryz.underlying9 hc12)<|WL.e<|WP.block<|WP.s<|WP.g<|WL.w (R.eql8 (a := c12) (b := 92) rfl rfl)<|WL.a (boo (c12 == 92)) rfl<|WL.e ?_
    rcases condE hy7 with ⟨hc13, hy7⟩ | ⟨hc13, hy7⟩
    ·refine WP.condT rfl hc13<|WP.g<|WL.m (int i_3) h4<|WL.w (R.add rfl rfl)<|WL.a (int (wr (i_3 + 1))) rfl<|WL.e<|WP.g<|WL.m (int (wr (i_3 + 1))) rfl<|WL.w (R.add rfl rfl)<|WL.a (int (wr ((wr (i_3 + 1)) + 1))) rfl<|WL.e ?_
     obtain rfl := oi hy7
     exact ⟨rfl, ⟨H1, h2, rfl, S⟩⟩
    ·refine WP.condF rfl hc13<|WP.s<|WP.g<|WL.w (R.eql8 (a := c12) (b := 34) rfl rfl)<|WL.a (boo (c12 == 34)) rfl<|WL.e ?_
     rcases condE hy7 with ⟨hc14, hy7⟩ | ⟨hc14, hy7⟩
     ·refine WP.condT rfl hc14<|WP.s<|WP.g<|WL.m (int i_3) h4<|WL.w (R.add rfl rfl)<|WL.a (int (wr (i_3 + 1))) rfl<|WL.e ?_
      obtain rfl := oi hy7
      obtain rfl := hy8
      obtain rfl := oi h
      refine WP.ret (Out.one rfl S rfl ?_)
      exact rfl
     ·refine WP.condF rfl hc14<|WP.skip<|WP.g<|WL.m (int i_3) h4<|WL.w (R.add rfl rfl)<|WL.a (int (wr (i_3 + 1))) rfl<|WL.e ?_
      obtain rfl := oi hy7
      exact ⟨rfl, ⟨H1, h2, rfl, S⟩⟩
   ·refine WP.condF rfl hc11<|WP.exit ?_
    obtain rfl := oi hy7
    obtain rfl := hy8
    exact ⟨H1, S⟩
 ·intro f w hM
  rcases r9 with _ | e
  ·obtain ⟨H5, S⟩ := hM
   refine WP.s<|WP.g<|WL.a (int 0) rfl<|WL.e ?_
   obtain rfl := oi h
   refine WP.ret (Out.one rfl S rfl ?_)
   exact rfl
  ·exact hM.elim
theorem ascii_Text_ok {w0 : World} {H0 : Hp} (hw : Holds w0 H0) (hG : Tryz.Gl w0) (p_s : Str) {r : Bool} (h : ascii_Text p_s = some r) :
  Con Tryz.prog 159 [(str p_s)] w0 H0 (fun H' v => v = (boo r)) := by
 refine Con.mk (N := 26) Tryz.func159 rfl rfl (by kernel_rfl) rfl ?_
 have S := St.start hw
 refine WP.s<|WP.g<|WL.a (boo false) rfl<|WL.e<|WP.s<|WP.s<|WP.g<|WL.m (str p_s) rfl<|WL.w (R.lenS (a := p_s) rfl Tryz.underlying9)<|WL.m (int 0) rfl<|WL.e ?_
 obtain ⟨r10, hr11, h⟩ := bindE h
 refine WP.cut (fun f w => match r10 with | .inl _ => ∃ (H6 : Hp), St w0 H0 w H6 [] | .inr _ => False) ?_ ?_
 ·refine WP.block ?_
  refine WP.loopM (ascii_Text_L0 p_s) (fun s f w => match s with | y_4 => ∃ (H1 : Hp), f 0 = (str p_s) ∧ f 5 = (int (p_s.length : Int)) ∧ f 6 = (int y_4) ∧ St w0 H0 w H1 []) 0 r10 hr11 ?_ ?_
  ·exact ⟨H0, rfl, rfl, rfl, S⟩
  ·intro y_4 f w hI y7 hy8 hy9
   obtain ⟨H1, h2, h3, h5, S⟩ := hI
   refine WP.s<|WP.g<|WL.w (R.lss h5 h3)<|WL.e<|WP.s ?_
   rcases condE hy8 with ⟨hc12, hy8⟩ | ⟨hc12, hy8⟩
   ·refine WP.condT rfl hc12<|WP.skip<|WP.s<|WP.block<|WP.s<|WP.g<|WL.m (int y_4) h5<|WL.a (int y_4) rfl<|WL.e<|WP.s<|WP.g<|WL.m (str p_s) h2 ?_
    refine WL.m (int y_4) rfl ?_
    obtain ⟨c13, hc13, hy8⟩ := bindE hy8
    refine WL.w (R.idxS rfl rfl Tryz.underlying9 hc13)<|WL.w (R.lss8 (a := c13) (b := 32) rfl rfl)<|WL.m (boo (decide (c13 < 32))) rfl ?_
    obtain ⟨b17, hg15, hy8⟩ := bindE hy8
    refine WL.grp 5 [14, 15, 16, 17] 18 (boo b17) ?_ ?_
    ·rcases boolE (decide (c13 < 32)) with hb14 | hb14
     ·replace hg15 := condT hg15 hb14
      refine WL.y rfl rfl hb14<|WL.m (str p_s) h2<|WL.y rfl rfl hb14<|WL.m (int y_4) rfl<|WL.y rfl rfl hb14 ?_
      obtain ⟨c16, hc16, hg15⟩ := bindE hg15
      refine WL.w (R.idxS rfl rfl Tryz.underlying9 hc16)<|WL.y rfl rfl hb14<|WL.w (R.neq8 (a := c16) (b := 9) rfl rfl)<|WL.w (R.pickT rfl hb14 rfl) ?_
      exact WL.e ⟨(congrArg boo (oi hg15)), ag, rfl⟩
     ·replace hg15 := condF hg15 hb14
      refine WL.n rfl rfl hb14<|WL.n rfl rfl hb14<|WL.n rfl rfl hb14<|WL.n rfl rfl hb14<|WL.w (R.pickF rfl hb14 rfl) ?_
      exact WL.e ⟨(congrArg boo (oi hg15)), ag, rfl⟩
    ·intro us
     refine WL.m (boo b17) rfl ?_
     obtain ⟨b21, hg19, hy8⟩ := bindE hy8
     refine WL.grp 5 [20, 21, 22, 23] 24 (boo b21) ?_ ?_
     ·rcases boolE b17 with hb18 | hb18
      ·replace hg19 := condT hg19 hb18
       refine WL.n rfl rfl hb18<|WL.n rfl rfl hb18<|WL.n rfl rfl hb18<|WL.n rfl rfl hb18<|WL.w (R.pickT rfl hb18 rfl) ?_
       exact WL.e ⟨(congrArg boo (oi hg19)), ag, rfl⟩
      ·replace hg19 := condF hg19 hb18
       refine WL.y rfl rfl hb18<|WL.m (str p_s) h2<|WL.y rfl rfl hb18<|WL.m (int y_4) rfl<|WL.y rfl rfl hb18 ?_
       obtain ⟨c20, hc20, hg19⟩ := bindE hg19
       refine WL.w (R.idxS rfl rfl Tryz.underlying9 hc20)<|WL.y rfl rfl hb18<|WL.w (R.eql8 (a := c20) (b := 127) rfl rfl)<|WL.w (R.pickF rfl hb18 rfl) ?_
       exact WL.e ⟨(congrArg boo (oi hg19)), ag, rfl⟩
     ·intro us
      refine WL.e ?_
      rcases condE hy8 with ⟨hc22, hy8⟩ | ⟨hc22, hy8⟩
      ·refine WP.condT rfl hc22<|WP.s<|WP.g<|WL.a (boo false) rfl<|WL.e ?_
       obtain rfl := oi hy8
       obtain rfl := hy9
       obtain rfl := oi h
       refine WP.ret (Out.one rfl S rfl ?_)
       exact rfl
      ·refine WP.condF rfl hc22<|WP.skip<|WP.g<|WL.w (R.add h5 rfl)<|WL.m (int (wr (y_4 + 1))) rfl<|WL.e ?_
       obtain rfl := oi hy8
       exact ⟨rfl, ⟨H1, h2, h3, rfl, S⟩⟩
   ·refine WP.condF rfl hc12<|WP.exit ?_
    obtain rfl := oi hy8
    obtain rfl := hy9
    exact ⟨H1, S⟩
 ·intro f w hM
  rcases r10 with _ | e
  ·obtain ⟨H6, S⟩ := hM
   refine WP.s<|WP.g<|WL.a (boo true) rfl<|WL.e ?_
   obtain rfl := oi h
   refine WP.ret (Out.one rfl S rfl ?_)
   exact rfl
  ·exact hM.elim
theorem ascii_Unquote_ok {w0 : World} {H0 : Hp} (hw : Holds w0 H0) (hG : Tryz.Gl w0) (p_s : Str) {r : (Str × Bool)} (h : ascii_Unquote p_s = some r) :
  Con Tryz.prog 133 [(str p_s)] w0 H0 (fun H' v => v = (.tuple ⟨[(str r.1), (boo r.2)]⟩)) := by
 refine Con.mk (N := 64) Tryz.func133 rfl rfl (by kernel_rfl) rfl ?_
 have S := St.start hw
 refine WP.s<|WP.g<|WL.a (str []) rfl<|WL.a (boo false) rfl<|WL.e<|WP.s<|WP.s<|WP.g<|WL.m (str p_s) rfl<|WL.w (R.lenS (a := p_s) rfl Tryz.underlying9)<|WL.w (R.lss rfl rfl)<|WL.m (boo (decide ((p_s.length : Int) < 2))) rfl ?_
 obtain ⟨b4, hg2, h⟩ := bindE h
 refine WL.grp 4 [11, 12, 13] 14 (boo b4) ?_ ?_
 ·rcases boolE (decide ((p_s.length : Int) < 2)) with hb1 | hb1
  ·replace hg2 := condT hg2 hb1
   refine WL.n rfl rfl hb1<|WL.n rfl rfl hb1<|WL.n rfl rfl hb1<|WL.w (R.pickT rfl hb1 rfl) ?_
   exact WL.e ⟨(congrArg boo (oi hg2)), ag, rfl⟩
  ·replace hg2 := condF hg2 hb1
   refine WL.y rfl rfl hb1<|WL.m (str p_s) rfl<|WL.y rfl rfl hb1 ?_
   obtain ⟨c3, hc3, hg2⟩ := bindE hg2
   refine WL.w (R.idxS rfl rfl Tryz.underlying9 hc3)<|WL.y rfl rfl hb1<|WL.w (R.neq8 (a := c3) (b := 34) rfl rfl)<|WL.w (R.pickF rfl hb1 rfl) ?_
   exact WL.e ⟨(congrArg boo (oi hg2)), ag, rfl⟩
 ·intro us
  refine WL.m (boo b4) rfl ?_
  obtain ⟨b8, hg6, h⟩ := bindE h
  refine WL.grp 7 [16, 17, 18, 19, 20, 21] 22 (boo b8) ?_ ?_
  ·rcases boolE b4 with hb5 | hb5
   ·replace hg6 := condT hg6 hb5
    refine WL.n rfl rfl hb5<|WL.n rfl rfl hb5<|WL.n rfl rfl hb5<|WL.n rfl rfl hb5<|WL.n rfl rfl hb5<|WL.n rfl rfl hb5<|WL.w (R.pickT rfl hb5 rfl) ?_
    exact WL.e ⟨(congrArg boo (oi hg6)), ag, rfl⟩
   ·replace hg6 := condF hg6 hb5
    refine WL.y rfl rfl hb5<|WL.m (str p_s) rfl<|WL.y rfl rfl hb5<|WL.m (str p_s) rfl<|WL.y rfl rfl hb5<|WL.w (R.lenS (a := p_s) rfl Tryz.underlying9)<|WL.y rfl rfl hb5<|WL.w (R.sub rfl rfl)<|WL.y rfl rfl hb5 ?_
    obtain ⟨c7, hc7, hg6⟩ := bindE hg6
    refine WL.w (R.idxS rfl rfl Tryz.underlying9 hc7)<|WL.y rfl rfl hb5<|WL.w (R.neq8 (a := c7) (b := 34) rfl rfl)<|WL.w (R.pickF rfl hb5 rfl) ?_
    exact WL.e ⟨(congrArg boo (oi hg6)), ag, rfl⟩
  ·intro us
   refine WL.m (boo b8) rfl ?_
   obtain ⟨b17, hg10, h⟩ := bindE h
   refine WL.grpw 8 [24, 25, 26, 27, 28, 29, 30] 31 (boo b17) (fun w => ∃ H' : Hp, H0.le H' ∧ St w0 H0 w H' []) ?_ ?_
   ·rcases boolE b8 with hb9 | hb9
    ·replace hg10 := condT hg10 hb9
     refine WL.n rfl rfl hb9<|WL.n rfl rfl hb9<|WL.n rfl rfl hb9<|WL.n rfl rfl hb9<|WL.n rfl rfl hb9<|WL.n rfl rfl hb9<|WL.n rfl rfl hb9<|WL.w (R.pickT rfl hb9 rfl) ?_
     exact WL.e ⟨(congrArg boo (oi hg10)), ag, ⟨H0, (Hp.le.refl _), S⟩⟩
    ·replace hg10 := condF hg10 hb9
     refine WL.y rfl rfl hb9<|WL.m (str p_s) rfl<|WL.y rfl rfl hb9<|WL.m (str p_s) rfl<|WL.y rfl rfl hb9<|WL.w (R.lenS (a := p_s) rfl Tryz.underlying9)<|WL.y rfl rfl hb9<|WL.w (R.sub rfl rfl)<|WL.y rfl rfl hb9 ?_
     obtain ⟨s11, hs11, hg10⟩ := bindE hg10
     refine WL.w (R.subS rfl rfl rfl Tryz.underlying9 hs11)<|WL.y rfl rfl hb9 ?_
     obtain ⟨r12, hr12, hg10⟩ := bindE hg10
     refine W.call S rfl (ascii_Text_ok S.holds (hG.post S.post) s11 hr12) ?_
     rintro v13 w14 H15 hle16 S rfl
     refine WL.y rfl rfl hb9<|WL.w (R.not rfl)<|WL.w (R.pickF rfl hb9 rfl) ?_
     exact WL.e ⟨(congrArg boo (oi hg10)), ag, ⟨H15, hle16, S⟩⟩
   ·intro us w19 ⟨H18, hle20, S⟩
    refine WL.e ?_
    rcases condE h with ⟨hc21, h⟩ | ⟨hc21, h⟩
    ·refine WP.condT rfl hc21<|WP.s<|WP.g<|WL.a (str []) rfl<|WL.a (boo false) rfl<|WL.e ?_
     obtain rfl := oi h
     refine WP.ret (Out.two rfl S rfl rfl ?_)
     exact rfl
    ·refine WP.condF rfl hc21<|WP.skip<|WP.s<|WP.g<|WL.m (str p_s) rfl<|WL.m (str p_s) rfl<|WL.w (R.lenS (a := p_s) rfl Tryz.underlying9)<|WL.w (R.sub rfl rfl) ?_
     obtain ⟨s22, hs22, h⟩ := bindE h
     refine WL.w (R.subS rfl rfl rfl Tryz.underlying9 hs22)<|WL.a (str s22) rfl<|WL.e<|WP.s<|WP.g<|WL.a (.slice none 0 0) rfl<|WL.e<|WP.s<|WP.s<|WP.g<|WL.a (int 0) rfl<|WL.e ?_
     have S := S.addNil 5 1
     obtain ⟨r39, hr40, h⟩ := bindE h
     refine WP.cut (fun f w => match r39 with | .inl out_32 => ∃ (H31 : Hp) (v33 : Value), f 5 = v33 ∧ Sl (α := UInt8) H31 v33 out_32 ∧ St w0 H0 w H31 [.row v33 5 1 out_32.length] | .inr _ => False) ?_ ?_
     ·refine WP.block ?_
      refine WP.loopM (ascii_Unquote_L0 s22) (fun s f w => match s with | (out_25, i_29) => ∃ (H23 : Hp) (v26 : Value), f 4 = (str s22) ∧ f 5 = v26 ∧ f 6 = (int i_29) ∧ Sl (α := UInt8) H23 v26 out_25 ∧ St w0 H0 w H23 [.row v26 5 1 out_25.length]) (([] : List UInt8), 0) r39 hr40 ?_ ?_
      ·exact ⟨H18, .slice none 0 0, rfl, rfl, rfl, Sl.nil, S⟩
      ·intro s f w hI y36 hy37 hy38
       obtain ⟨out_25, i_29⟩ := s
       obtain ⟨H23, v26, h24, h28, h30, R27, S⟩ := hI
       refine WP.s<|WP.s<|WP.g<|WL.m (int i_29) h30<|WL.m (str s22) h24<|WL.w (R.lenS (a := s22) rfl Tryz.underlying9)<|WL.w (R.lss rfl rfl)<|WL.e ?_
       rcases condE hy37 with ⟨hc41, hy37⟩ | ⟨hc41, hy37⟩
       ·refine WP.condT rfl hc41<|WP.skip<|WP.s<|WP.block<|WP.s<|WP.s<|WP.g<|WL.m (str s22) h24<|WL.m (int i_29) h30 ?_
        obtain ⟨c42, hc42, hy37⟩ := bindE hy37
        refine WL.w (R.idxS rfl rfl Tryz.underlying9 hc42)<|WL.e ?_
        obtain ⟨j49, hj48, hy37⟩ := bindE hy37
        refine WP.cut (fun f w => match j49 with | .inl i_46 => ∃ (H43 : Hp), f 4 = (str s22) ∧ f 5 = v26 ∧ f 6 = (int i_46) ∧ Sl (α := UInt8) H43 v26 out_25 ∧ St w0 H0 w H43 [.row v26 5 1 out_25.length] | .inr _ => False) ?_ ?_
        ·refine WP.block<|WP.s<|WP.g<|WL.w (R.eql8 (a := c42) (b := 34) rfl rfl)<|WL.a (boo (c42 == 34)) rfl<|WL.e ?_
         rcases condE hj48 with ⟨hc50, hj48⟩ | ⟨hc50, hj48⟩
         ·refine WP.condT rfl hc50<|WP.s<|WP.g<|WL.a (str []) rfl<|WL.a (boo false) rfl<|WL.e ?_
          obtain rfl := oi hj48
          obtain rfl := oi hy37
          obtain rfl := hy38
          obtain rfl := oi h
          refine WP.ret (Out.two rfl S rfl rfl ?_)
          exact rfl
         ·refine WP.condF rfl hc50<|WP.s<|WP.g<|WL.w (R.eql8 (a := c42) (b := 92) rfl rfl)<|WL.a (boo (c42 == 92)) rfl<|WL.e ?_
          rcases condE hj48 with ⟨hc51, hj48⟩ | ⟨hc51, hj48⟩
          ·refine WP.condT rfl hc51<|WP.s<|WP.g<|WL.m (int i_29) h30<|WL.w (R.add rfl rfl)<|WL.a (int (wr (i_29 + 1))) rfl<|WL.e<|WP.s<|WP.g<|WL.m (int (wr (i_29 + 1))) rfl<|WL.m (str s22) h24<|WL.w (R.lenS (a := s22) rfl Tryz.underlying9) ?_
           refine WL.w (R.eql rfl rfl)<|WL.e ?_
           rcases condE hj48 with ⟨hc52, hj48⟩ | ⟨hc52, hj48⟩
           ·refine WP.condT rfl hc52<|WP.s<|WP.g<|WL.a (str []) rfl<|WL.a (boo false) rfl<|WL.e ?_
            obtain rfl := oi hj48
            obtain rfl := oi hy37
            obtain rfl := hy38
            obtain rfl := oi h
            refine WP.ret (Out.two rfl S rfl rfl ?_)
            exact rfl
           ·refine WP.condF rfl hc52<|WP.skip ?_
            obtain rfl := oi hj48
            exact ⟨H23, h24, h28, rfl, R27, S⟩
          ·refine WP.condF rfl hc51<|WP.skip ?_
           obtain rfl := oi hj48
           exact ⟨H23, h24, h28, h30, R27, S⟩
        ·intro f w hM
         rcases j49 with i_46 | e
         ·obtain ⟨H43, h44, h45, h47, R27, S⟩ := hM
          refine WP.g<|WL.m (v26) h45<|WL.m (str s22) h44<|WL.m (int i_46) h47 ?_
          obtain ⟨c53, hc53, hy37⟩ := bindE hy37
          refine WL.w (R.idxS rfl rfl Tryz.underlying9 hc53)<|W.bslice (α := UInt8) [(byt c53)] ([c53] : List UInt8) S el130 rfl rfl rfl (by decide) (Go.Eng.encS ⟨rfl, rfl⟩ enc0) ?_
          intro u54 w55 H56 hle57 R58 S
          have R27 := Sl.mono R27 hle57
          obtain ⟨l59, hl59, hy37⟩ := bindE hy37
          refine W.app (α := UInt8) (i := 1) S el130 rfl rfl rfl R27 R58 hl59 ?_
          intro v60 w61 H62 hle63 R64 S
          have R27 := Sl.mono R27 hle63
          refine WL.a (v60) rfl<|WL.e<|WP.g<|WL.m (int i_46) h47<|WL.w (R.add rfl rfl)<|WL.a (int (wr (i_46 + 1))) rfl<|WL.e ?_
          obtain rfl := oi hy37
          exact ⟨rfl, ⟨H62, v60, h44, rfl, rfl, R64, (S.drop _ (.cons _ (.cons_cons _ .slnil)))⟩⟩
         ·exact hM.elim
       ·refine WP.condF rfl hc41<|WP.exit ?_
        obtain rfl := oi hy37
        obtain rfl := hy38
        exact ⟨H23, v26, h28, R27, S⟩
     ·intro f w hM
      rcases r39 with out_32 | e
      ·obtain ⟨H31, v33, h35, R34, S⟩ := hM
       refine WP.s<|WP.g<|WL.m (v33) h35<|WL.w (R.strL S R34 rfl Tryz.underlying130 Tryz.underlying9 Tryz.underlying5)<|WL.a (str out_32) rfl<|WL.a (boo true) rfl<|WL.e ?_
       obtain rfl := oi h
       refine WP.ret (Out.two rfl S rfl rfl ?_)
       exact rfl
      ·exact hM.elim
theorem group_Read_ok {w0 : World} {H0 : Hp} (hw : Holds w0 H0) (hG : Tryz.Gl w0) (p_ppend : Str) {r : ((List Str) × Bool)} (h : group_Read p_ppend = some r) :
  Con Tryz.prog 87 [(str p_ppend)] w0 H0 (fun H' v => ∃ u1 : Value, v = (.tuple ⟨[u1, (boo r.2)]⟩) ∧ Sl (α := Str) H' u1 r.1) := by
 refine Con.mk (N := 75) Tryz.func87 rfl rfl (by kernel_rfl) rfl ?_
 have S := St.start hw
 refine WP.s<|WP.g<|WL.a (.slice none 0 0) rfl<|WL.a (boo false) rfl<|WL.e<|WP.s<|WP.s<|WP.g<|WL.m (str p_ppend) rfl<|WL.w (R.lenS (a := p_ppend) rfl Tryz.underlying9)<|WL.w (R.lss rfl rfl)<|WL.m (boo (decide ((p_ppend.length : Int) < 2))) rfl ?_
 obtain ⟨b4, hg2, h⟩ := bindE h
 refine WL.grp 4 [12, 13, 14] 15 (boo b4) ?_ ?_
 ·rcases boolE (decide ((p_ppend.length : Int) < 2)) with hb1 | hb1
  ·replace hg2 := condT hg2 hb1
   refine WL.n rfl rfl hb1<|WL.n rfl rfl hb1<|WL.n rfl rfl hb1<|WL.w (R.pickT rfl hb1 rfl) ?_
   exact WL.e ⟨(congrArg boo (oi hg2)), ag, rfl⟩
  ·replace hg2 := condF hg2 hb1
   refine WL.y rfl rfl hb1<|WL.m (str p_ppend) rfl<|WL.y rfl rfl hb1 ?_
   obtain ⟨c3, hc3, hg2⟩ := bindE hg2
   refine WL.w (R.idxS rfl rfl Tryz.underlying9 hc3)<|WL.y rfl rfl hb1<|WL.w (R.neq8 (a := c3) (b := 40) rfl rfl)<|WL.w (R.pickF rfl hb1 rfl) ?_
   exact WL.e ⟨(congrArg boo (oi hg2)), ag, rfl⟩
 ·intro us
  refine WL.m (boo b4) rfl ?_
  obtain ⟨b8, hg6, h⟩ := bindE h
  refine WL.grp 7 [17, 18, 19, 20, 21, 22] 23 (boo b8) ?_ ?_
  ·rcases boolE b4 with hb5 | hb5
   ·replace hg6 := condT hg6 hb5
    refine WL.n rfl rfl hb5<|WL.n rfl rfl hb5<|WL.n rfl rfl hb5<|WL.n rfl rfl hb5<|WL.n rfl rfl hb5<|WL.n rfl rfl hb5<|WL.w (R.pickT rfl hb5 rfl) ?_
    exact WL.e ⟨(congrArg boo (oi hg6)), ag, rfl⟩
   ·replace hg6 := condF hg6 hb5
    refine WL.y rfl rfl hb5<|WL.m (str p_ppend) rfl<|WL.y rfl rfl hb5<|WL.m (str p_ppend) rfl<|WL.y rfl rfl hb5<|WL.w (R.lenS (a := p_ppend) rfl Tryz.underlying9)<|WL.y rfl rfl hb5<|WL.w (R.sub rfl rfl)<|WL.y rfl rfl hb5 ?_
    obtain ⟨c7, hc7, hg6⟩ := bindE hg6
    refine WL.w (R.idxS rfl rfl Tryz.underlying9 hc7)<|WL.y rfl rfl hb5<|WL.w (R.neq8 (a := c7) (b := 41) rfl rfl)<|WL.w (R.pickF rfl hb5 rfl) ?_
    exact WL.e ⟨(congrArg boo (oi hg6)), ag, rfl⟩
  ·intro us
   refine WL.e ?_
   rcases condE h with ⟨hc9, h⟩ | ⟨hc9, h⟩
   ·refine WP.condT rfl hc9<|WP.s<|WP.g<|WL.a (.slice none 0 0) rfl<|WL.a (boo false) rfl<|WL.e ?_
    obtain rfl := oi h
    refine WP.ret (Out.two rfl S rfl rfl ?_)
    exact ⟨_, rfl, Sl.nil⟩
   ·refine WP.condF rfl hc9<|WP.skip<|WP.s<|WP.g<|WL.a (.slice none 0 0) rfl<|WL.e<|WP.s<|WP.g<|WL.m (str p_ppend) rfl<|WL.m (str p_ppend) rfl<|WL.w (R.lenS (a := p_ppend) rfl Tryz.underlying9)<|WL.w (R.sub rfl rfl) ?_
    obtain ⟨s10, hs10, h⟩ := bindE h
    refine WL.w (R.subS rfl rfl rfl Tryz.underlying9 hs10)<|WL.a (str s10) rfl<|WL.e ?_
    have S := S.addNil 9 1
    obtain ⟨r21, hr22, h⟩ := bindE h
    refine WP.cut (fun _ _ => False) ?_ (fun _ _ h => h.elim)
    refine WP.block ?_
    refine WP.loopM (group_Read_L0) (fun s f w => match s with | (ppend_12, y_14) => ∃ (H11 : Hp) (v15 : Value), f 0 = (str ppend_12) ∧ f 4 = v15 ∧ Sl (α := Str) H11 v15 y_14 ∧ St w0 H0 w H11 [.row v15 9 1 y_14.length]) (s10, ([] : List Str)) r21 hr22 ?_ ?_
    ·exact ⟨H0, .slice none 0 0, rfl, rfl, Sl.nil, S⟩
    ·intro s f w hI y18 hy19 hy20
     obtain ⟨ppend_12, y_14⟩ := s
     obtain ⟨H11, v15, h13, h17, R16, S⟩ := hI
     refine WP.block<|WP.s<|WP.g<|WL.m (str ppend_12) h13 ?_
     obtain ⟨r23, hr23, hy19⟩ := bindE hy19
     refine W.call S rfl (strings_TrimLeft_ok S.holds (hG.post S.post) ppend_12 [32] hr23) ?_
     rintro v24 w25 H26 hle27 S rfl
     have R16 := Sl.mono R16 hle27
     refine WL.a (str r23) rfl<|WL.e<|WP.s<|WP.s<|WP.g<|WL.m (str r23) rfl<|WL.w (R.eqlS (a := r23) (b := []) rfl rfl)<|WL.e ?_
     rcases condE hy19 with ⟨hc28, hy19⟩ | ⟨hc28, hy19⟩
     ·refine WP.condT rfl hc28<|WP.s<|WP.g<|WL.m (v15) h17<|WL.a (v15) rfl<|WL.a (boo true) rfl<|WL.e ?_
      obtain rfl := oi hy19
      obtain rfl := hy20
      obtain rfl := oi h
      refine WP.ret (Out.two rfl S rfl rfl ?_)
      exact ⟨_, rfl, R16⟩
     ·refine WP.condF rfl hc28<|WP.skip<|WP.s<|WP.g<|WL.m (str r23) rfl ?_
      obtain ⟨r29, hr29, hy19⟩ := bindE hy19
      refine W.call S rfl (group_bare_ok S.holds (hG.post S.post) r23 hr29) ?_
      rintro v30 w31 H32 hle33 S rfl
      have R16 := Sl.mono R16 hle33
      refine WL.a (int r29) rfl<|WL.e<|WP.s<|WP.s<|WP.g<|WL.m (str r23) rfl ?_
      obtain ⟨c34, hc34, hy19⟩ := bindE hy19
      refine WL.w (R.idxS rfl rfl Tryz.underlying9 hc34)<|WL.w (R.eql8 (a := c34) (b := 34) rfl rfl)<|WL.e ?_
      obtain ⟨y_38, hj40, hy19⟩ := bindE hy19
      refine WP.cut (fun f w => ∃ (H35 : Hp), f 0 = (str r23) ∧ f 4 = v15 ∧ f 5 = (int y_38) ∧ Sl (α := Str) H35 v15 y_14 ∧ St w0 H0 w H35 [.row v15 9 1 y_14.length]) ?_ ?_
      ·rcases condE hj40 with ⟨hc42, hj40⟩ | ⟨hc42, hj40⟩
       ·refine WP.condT rfl hc42<|WP.g<|WL.m (str r23) rfl ?_
        obtain ⟨r43, hr43, hj40⟩ := bindE hj40
        refine W.call S rfl (group_quoted_ok S.holds (hG.post S.post) r23 hr43) ?_
        rintro v44 w45 H46 hle47 S rfl
        have R16 := Sl.mono R16 hle47
        refine WL.a (int r43) rfl<|WL.e ?_
        obtain rfl := oi hj40
        exact ⟨H46, rfl, h17, rfl, R16, S⟩
       ·refine WP.condF rfl hc42<|WP.skip ?_
        obtain rfl := oi hj40
        exact ⟨H32, rfl, h17, rfl, R16, S⟩
      ·rintro f w ⟨H35, h36, h37, h39, R16, S⟩
       refine WP.s<|WP.s<|WP.g<|WL.m (int y_38) h39<|WL.w (R.eql rfl rfl)<|WL.m (boo (y_38 == 0)) rfl ?_
       obtain ⟨b54, hg49, hy19⟩ := bindE hy19
       refine WL.grp 11 [44, 45, 46, 47, 48, 49, 50, 51, 52, 53] 54 (boo b54) ?_ ?_
       ·rcases boolE (y_38 == 0) with hb48 | hb48
        ·replace hg49 := condT hg49 hb48
         refine WL.n rfl rfl hb48<|WL.n rfl rfl hb48<|WL.n rfl rfl hb48<|WL.n rfl rfl hb48<|WL.n rfl rfl hb48<|WL.gund rfl rfl<|WL.gund rfl rfl<|WL.gund rfl rfl<|WL.gund rfl rfl<|WL.n rfl rfl hb48<|WL.w (R.pickT rfl hb48 rfl) ?_
         exact WL.e ⟨(congrArg boo (oi hg49)), ag, rfl⟩
        ·replace hg49 := condF hg49 hb48
         refine WL.y rfl rfl hb48<|WL.m (int y_38) h39<|WL.y rfl rfl hb48<|WL.m (str r23) h36<|WL.y rfl rfl hb48<|WL.w (R.lenS (a := r23) rfl Tryz.underlying9)<|WL.y rfl rfl hb48<|WL.w (R.lss rfl rfl)<|WL.y rfl rfl hb48<|WL.m (boo (decide (y_38 < (r23.length : Int)))) rfl ?_
         obtain ⟨b53, hg51, hg49⟩ := bindE hg49
         refine WL.grp 5 [49, 50, 51, 52] 53 (boo b53) ?_ ?_
         ·rcases boolE (decide (y_38 < (r23.length : Int))) with hb50 | hb50
          ·replace hg51 := condT hg51 hb50
           refine WL.y rfl rfl hb50<|WL.m (str r23) h36<|WL.y rfl rfl hb50<|WL.m (int y_38) h39<|WL.y rfl rfl hb50 ?_
           obtain ⟨c52, hc52, hg51⟩ := bindE hg51
           refine WL.w (R.idxS rfl rfl Tryz.underlying9 hc52)<|WL.y rfl rfl hb50<|WL.w (R.neq8 (a := c52) (b := 32) rfl rfl)<|WL.y rfl rfl hb48<|WL.w (R.pickT rfl hb50 rfl) ?_
           exact WL.e ⟨(congrArg boo (oi hg51)), ag, rfl⟩
          ·replace hg51 := condF hg51 hb50
           refine WL.n rfl rfl hb50<|WL.n rfl rfl hb50<|WL.n rfl rfl hb50<|WL.n rfl rfl hb50<|WL.y rfl rfl hb48<|WL.w (R.pickF rfl hb50 rfl) ?_
           exact WL.e ⟨(congrArg boo (oi hg51)), ag, rfl⟩
         ·intro us
          refine WL.w (R.pickF rfl hb48 rfl) ?_
          exact WL.e ⟨(congrArg boo (oi hg49)), ag, rfl⟩
       ·intro us
        refine WL.e ?_
        rcases condE hy19 with ⟨hc55, hy19⟩ | ⟨hc55, hy19⟩
        ·refine WP.condT rfl hc55<|WP.s<|WP.g<|WL.a (.slice none 0 0) rfl<|WL.a (boo false) rfl<|WL.e ?_
         obtain rfl := oi hy19
         obtain rfl := hy20
         obtain rfl := oi h
         refine WP.ret (Out.two rfl S rfl rfl ?_)
         exact ⟨_, rfl, Sl.nil⟩
        ·refine WP.condF rfl hc55<|WP.skip<|WP.s<|WP.g<|WL.m (str r23) h36<|WL.m (int y_38) h39 ?_
         obtain ⟨s56, hs56, hy19⟩ := bindE hy19
         refine WL.w (R.subShi rfl rfl Tryz.underlying9 hs56)<|WL.a (str s56) rfl<|WL.e<|WP.s<|WP.s<|WP.g<|WL.m (str r23) h36 ?_
         obtain ⟨c57, hc57, hy19⟩ := bindE hy19
         refine WL.w (R.idxS rfl rfl Tryz.underlying9 hc57)<|WL.w (R.eql8 (a := c57) (b := 34) rfl rfl)<|WL.e ?_
         obtain ⟨j65, hj64, hy19⟩ := bindE hy19
         refine WP.cut (fun f w => match j65 with | .inl y_62 => ∃ (H58 : Hp), f 0 = (str r23) ∧ f 4 = v15 ∧ f 5 = (int y_38) ∧ f 6 = (str y_62) ∧ Sl (α := Str) H58 v15 y_14 ∧ St w0 H0 w H58 [.row v15 9 1 y_14.length] | .inr _ => False) ?_ ?_
         ·rcases condE hj64 with ⟨hc66, hj64⟩ | ⟨hc66, hj64⟩
          ·refine WP.condT rfl hc66<|WP.s<|WP.g<|WL.a (boo false) rfl<|WL.e<|WP.s<|WP.g<|WL.m (str s56) rfl ?_
           obtain ⟨r67, hr67, hj64⟩ := bindE hj64
           refine W.call S rfl (ascii_Unquote_ok S.holds (hG.post S.post) s56 hr67) ?_
           rintro v68 w69 H70 hle71 S rfl
           have R16 := Sl.mono R16 hle71
           refine WL.m (.tuple ⟨[(str r67.1), (boo r67.2)]⟩) rfl<|WL.w (R.ext rfl rfl)<|WL.w (R.ext rfl rfl)<|WL.a (str r67.1) rfl<|WL.a (boo r67.2) rfl<|WL.e<|WP.s<|WP.g<|WL.m (boo r67.2) rfl<|WL.w (R.not rfl)<|WL.e ?_
           rcases condE hj64 with ⟨hc72, hj64⟩ | ⟨hc72, hj64⟩
           ·refine WP.condT rfl hc72<|WP.s<|WP.g<|WL.a (.slice none 0 0) rfl<|WL.a (boo false) rfl<|WL.e ?_
            obtain rfl := oi hj64
            obtain rfl := oi hy19
            obtain rfl := hy20
            obtain rfl := oi h
            refine WP.ret (Out.two rfl S rfl rfl ?_)
            exact ⟨_, rfl, Sl.nil⟩
           ·refine WP.condF rfl hc72<|WP.skip ?_
            obtain rfl := oi hj64
            exact ⟨H70, h36, h37, h39, rfl, R16, S⟩
          ·refine WP.condF rfl hc66<|WP.skip ?_
           obtain rfl := oi hj64
           exact ⟨H35, h36, h37, h39, rfl, R16, S⟩
         ·intro f w hM
          rcases j65 with y_62 | e
          ·obtain ⟨H58, h59, h60, h61, h63, R16, S⟩ := hM
           refine WP.s<|WP.g<|WL.m (v15) h60<|WL.m (str y_62) h63<|W.bslice (α := Str) [(str y_62)] ([y_62] : List Str) S el23 rfl rfl rfl (by decide) (Go.Eng.encS ⟨rfl, rfl⟩ enc0) ?_
           intro u73 w74 H75 hle76 R77 S
           have R16 := Sl.mono R16 hle76
           obtain ⟨l78, hl78, hy19⟩ := bindE hy19
           refine W.app (α := Str) (i := 1) S el23 rfl rfl rfl R16 R77 hl78 ?_
           intro v79 w80 H81 hle82 R83 S
           refine WL.a (v79) rfl<|WL.e<|WP.g<|WL.m (str r23) h59<|WL.m (int y_38) h61 ?_
           obtain ⟨s84, hs84, hy19⟩ := bindE hy19
           refine WL.w (R.subSlo rfl rfl Tryz.underlying9 hs84)<|WL.a (str s84) rfl<|WL.e ?_
           obtain rfl := oi hy19
           exact ⟨rfl, ⟨H81, v79, rfl, rfl, R83, (S.drop _ (.cons _ (.cons_cons _ .slnil)))⟩⟩
          ·exact hM.elim
end Go.Proofs
