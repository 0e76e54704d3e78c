/- A part of the proof of laws of the seat: written by program over the translation. -/
import Derived.Test.YtipgfplekgdoiaaGreatDoorEng38
import Derived.Test.YtipgfplekgdoiaaGreatDoorEng32
import Derived.Test.YtipgfplekgdoiaaGreatDoorGenK16
namespace Go.Proofs
set_option maxHeartbeats 4000000
set_option maxRecDepth 10000
open Go.Eng Go.Eng.Pure
set_option linter.unusedVariables false
theorem zIV {w0:World} {H0:Hp} (hw:Holds w0 H0) (p_t:GTable) (p_e:GEntry) (p_axes:(List GAxis)) (p_limit:Int) {vp_t0:Value} {vp_t1:Value} {vp_e0:Value} {vp_e1:Value} {vp_e2:Value} {vp_e4:Value} {vp_axes:Value} (Rp_t0:Sl (α:=GAxis) H0 vp_t0 p_t.fAxes) (Rp_t1:Sl (α:=GEntry) H0 vp_t1 p_t.fEntries) (Rp_e0:Sl (α:=(List Str)) H0 vp_e0 p_e.fKeys) (Rp_e1:Sl (α:=Str) H0 vp_e1 p_e.fVary) (Rp_e2:Sl (α:=Str) H0 vp_e2 p_e.fSnapshot) (Rp_e4:Sl (α:=GField) H0 vp_e4 p_e.fFields) (Rp_axes:Sl (α:=GAxis) H0 vp_axes p_axes) {r:GTable} (h:zFB p_t p_e p_axes p_limit=some r) :
  Con Tryz.prog 17 [(agg [vp_t0,vp_t1]),(agg [vp_e0,vp_e1,vp_e2,(str p_e.fReason),vp_e4,(str p_e.fBody),(int p_e.fRequested),(int p_e.fReceived)]),vp_axes,(int p_limit)] w0 H0 (fun H' v=>∃ u1 u2:Value,v=(agg [u1,u2])∧Sl (α:=GAxis) H' u1 r.fAxes∧Sl (α:=GEntry) H' u2 r.fEntries):=by
 refine Con.mk (N:=44) Tryz.func17 rfl rfl kr rfl ?_
 have S:=St.start hw
 refine Ws<|Wg ?_
 refine W.box [vp_t0,vp_t1] S rfl rfl ?_
 intro b1 w2 S
 refine W.box [vp_e0,vp_e1,vp_e2,(str p_e.fReason),vp_e4,(str p_e.fBody),(int p_e.fRequested),(int p_e.fReceived)] S rfl rfl ?_
 intro b3 w4 S
 refine W.box [vp_axes] S rfl (congrArg Array.toList (Sl.cellsOne Rp_axes)) ?_
 intro b5 w6 S
 refine W.alloc [(.slice none 0 0),(.slice none 0 0)] S zer25 ?_
 intro b7 w8 S
 refine We<|Ws<|Wg ?_
 refine WL.w (R.loadBN (i:=3) (vs:=[vp_t0,vp_t1]) S rfl rfl lay25 rfl rfl)<|B h fun r9 hr9 h=>W.callS rfl (zJa p_t S Rp_t0 Rp_t1 hr9) ?_
 rintro v10 w11 H12 L18 hle13 S ⟨u14,u16,en19,rfl,rfl,R15,RM20⟩
 replace S:St w0 H0 _ H12 [en19,.box b7 25 [(.slice none 0 0),(.slice none 0 0)],.box b5 22 [vp_axes],.box b3 36 [vp_e0,vp_e1,vp_e2,(str p_e.fReason),vp_e4,(str p_e.fBody),(int p_e.fRequested),(int p_e.fReceived)],.box b1 25 [vp_t0,vp_t1]]:=S
 have Rp_t0:=Sl.mono Rp_t0 hle13
 have Rp_e0:=Sl.mono Rp_e0 hle13
 have Rp_e1:=Sl.mono Rp_e1 hle13
 have Rp_e2:=Sl.mono Rp_e2 hle13
 have Rp_e4:=Sl.mono Rp_e4 hle13
 have Rp_axes:=Sl.mono Rp_axes hle13
 refine W.alloc [(.slice none 0 0),(.slice none 0 0)] S zer25 ?_
 intro b21 w22 S
 refine W.store (i:=0) [u14,u16] S rfl rfl rfl lay25 rfl (AllOne.all (l:=[u14,u16]) (.cons (Sl.oneC R15) (.cons (MR.oneC RM20) .nil))) (Nat.le_of_ble_eq_true rfl) rfl ?_
 intro w23 S
 refine We<|Ws<|Ws<|Wg<|Fb ?_
 refine Lo 5 S ?_
 refine Lo 3 S<|B h fun r24 hr24 h=>W.call S rfl (zIN S.holds p_t.fAxes p_axes Rp_t0 Rp_axes hr24) ?_
 rintro v25 w26 H27 hle28 S rfl
 have Rp_e0:=Sl.mono Rp_e0 hle28
 have Rp_e1:=Sl.mono Rp_e1 hle28
 have Rp_e2:=Sl.mono Rp_e2 hle28
 have Rp_e4:=Sl.mono Rp_e4 hle28
 have Rp_axes:=Sl.mono Rp_axes hle28
 have R15:=Sl.mono R15 hle28
 have RM20:=MR.mono RM20 hle28
 refine No<|We ?_
 obtain ⟨⟨m35,m38⟩,hj42,h⟩:=bindE h
 refine WP.cut (fun f w=>∃ (H29:Hp) (v36:Value) (v39:Value) (en41:Ent),f 3=(int p_limit)∧f 5=(ptr b3 0)∧f 6=(ptr b5 0)∧f 8=(ptr b7 0)∧f 9=(ptr b21 0)∧Sl (α:=GAxis) H29 v36 m35∧MR (α:=GEntry) H29 en41 36 v39 m38∧Sl (α:=GAxis) H29 vp_axes p_axes∧Sl (α:=(List Str)) H29 vp_e0 p_e.fKeys∧Sl (α:=Str) H29 vp_e1 p_e.fVary∧Sl (α:=Str) H29 vp_e2 p_e.fSnapshot∧Sl (α:=GField) H29 vp_e4 p_e.fFields∧St w0 H0 w H29 [.box b21 25 [v36,v39],en41,.box b7 25 [(.slice none 0 0),(.slice none 0 0)],.box b5 22 [vp_axes],.box b3 36 [vp_e0,vp_e1,vp_e2,(str p_e.fReason),vp_e4,(str p_e.fBody),(int p_e.fRequested),(int p_e.fReceived)]]) ?_ ?_
 ·rcases condE hj42 with ⟨hc44,hj42⟩ | ⟨hc44,hj42⟩
  ·refine CT hc44<|Wg ?_
   refine Lo 3 S<|B hj42 fun r45 hr45 hj42=>W.call S rfl (zH3 S.holds p_axes Rp_axes hr45) ?_
   rintro v46 w47 H48 hle49 S R50
   have Rp_e0:=Sl.mono Rp_e0 hle49
   have Rp_e1:=Sl.mono Rp_e1 hle49
   have Rp_e2:=Sl.mono Rp_e2 hle49
   have Rp_e4:=Sl.mono Rp_e4 hle49
   have Rp_axes:=Sl.mono Rp_axes hle49
   have R15:=Sl.mono R15 hle49
   have RM20:=MR.mono RM20 hle49
   refine WL.w (R.build [(0,v46)] [v46,(.slice none 0 0)] bp25 zer25 rfl (by obtain ⟨_,_,rfl,_⟩:=R50; rfl)) ?_
   refine W.store (i:=0) [v46,(.slice none 0 0)] S rfl rfl rfl lay25 rfl (AllOne.all (l:=[v46,(.slice none 0 0)]) (.cons (Sl.oneC R50) (.cons rfl .nil))) (Nat.le_of_ble_eq_true rfl) rfl ?_
   intro w51 S
   refine We ?_
   cases oi hj42
   exact ⟨H48,v46,.slice none 0 0,(.row (.slice none 0 0) 36 8 0),rfl,rfl,rfl,rfl,rfl,R50,MR.nil,Rp_axes,Rp_e0,Rp_e1,Rp_e2,Rp_e4,((((S.addNil 36 8).front 2 rfl).front 2 rfl).drop _ (.cons_cons _ (.cons _ (.cons_cons _ (.cons_cons _ (.cons_cons _ (.cons_cons _ (.cons _ .slnil))))))))⟩
  refine CF hc44<|Wk ?_
  cases oi hj42
  exact ⟨H27,u14,u16,(en19),rfl,rfl,rfl,rfl,rfl,R15,RM20,Rp_axes,Rp_e0,Rp_e1,Rp_e2,Rp_e4,(S.drop _ (.cons_cons _ (.cons_cons _ (.cons_cons _ (.cons_cons _ (.cons_cons _ (.cons _ .slnil)))))))⟩
 rintro f w ⟨H29,v36,v39,en41,h30,h31,h32,h33,h34,R37,RM40,Rp_axes,Rp_e0,Rp_e1,Rp_e2,Rp_e4,S⟩
 refine Ws<|Wg<|Fb' h34 ?_
 refine Lo 0 S ?_
 obtain ⟨H52,hle53,hs54,_,S⟩:=S.settle (i:=3) rfl
 replace S:St w0 H0 _ H52 [.box b21 25 [v36,v39],en41,.box b7 25 [(.slice none 0 0),(.slice none 0 0)],.box b3 36 [vp_e0,vp_e1,vp_e2,(str p_e.fReason),vp_e4,(str p_e.fBody),(int p_e.fRequested),(int p_e.fReceived)]]:=S
 have hA55:At H52 ⟨b5,0,none⟩ [vp_axes]:=⟨_,_,rfl,hs54,[],by simp⟩
 have RM40:=MR.mono RM40 hle53
 have R37:=Sl.mono R37 hle53
 have Rp_axes:=Sl.mono Rp_axes hle53
 have Rp_e0:=Sl.mono Rp_e0 hle53
 have Rp_e1:=Sl.mono Rp_e1 hle53
 have Rp_e2:=Sl.mono Rp_e2 hle53
 have Rp_e4:=Sl.mono Rp_e4 hle53
 obtain ⟨H56,hle57,hs58,_,S⟩:=S.settle (i:=3) rfl
 replace S:St w0 H0 _ H56 [.box b21 25 [v36,v39],en41,.box b7 25 [(.slice none 0 0),(.slice none 0 0)]]:=S
 have hA59:At H56 ⟨b3,0,none⟩ [vp_e0,vp_e1,vp_e2,(str p_e.fReason),vp_e4,(str p_e.fBody),(int p_e.fRequested),(int p_e.fReceived)]:=⟨_,_,rfl,hs58,[],by simp⟩
 have hA55:=At.mono hA55 hle57 (by simp)
 have Rp_axes:=Sl.mono Rp_axes hle57
 have RM40:=MR.mono RM40 hle57
 have R37:=Sl.mono R37 hle57
 have Rp_e0:=Sl.mono Rp_e0 hle57
 have Rp_e1:=Sl.mono Rp_e1 hle57
 have Rp_e2:=Sl.mono Rp_e2 hle57
 have Rp_e4:=Sl.mono Rp_e4 hle57
 refine WL.w (R.mkFunc (vs:=[(.pointer (some ⟨b5,0,none⟩)),(.pointer (some ⟨b3,0,none⟩))]) (mapC h32 (mapC h31 mapN)))<|B h fun l60 hl60 h=>?_
 have S:=S.front 1 rfl
 replace S:St w0 H0 _ H56 (en41 :: [.box b21 25 [v36,v39],.box b7 25 [(.slice none 0 0),(.slice none 0 0)]]):=S
 refine W.callS rfl (zCS m38 (fun x0=>zFG x0 p_axes p_e) S RM40 (fun hle hw x0=>fun q0_0 q0_1 q0_2 q0_4 r h=>zJe hw x0 p_axes p_e q0_0 q0_1 q0_2 q0_4 (At.mono hA55 hle (by simp)) (Sl.mono Rp_axes hle) (At.mono hA59 hle (by simp)) (Sl.mono Rp_e0 hle) (Sl.mono Rp_e1 hle) (Sl.mono Rp_e2 hle) (Sl.mono Rp_e4 hle) h) hl60) ?_
 rintro v61 w62 H63 L65 hle64 S ⟨en66,rfl,RM67⟩
 replace S:St w0 H0 _ H63 [en66,.box b21 25 [v36,v39],.box b7 25 [(.slice none 0 0),(.slice none 0 0)]]:=S
 have hA59:=At.mono hA59 hle64 (by simp)
 have Rp_e0:=Sl.mono Rp_e0 hle64
 have Rp_e1:=Sl.mono Rp_e1 hle64
 have Rp_e2:=Sl.mono Rp_e2 hle64
 have Rp_e4:=Sl.mono Rp_e4 hle64
 have R37:=Sl.mono R37 hle64
 refine Fb' h34 ?_
 refine W.storeMR (α:=GEntry) (i:=1) [v36,v61] S RM67 rfl rfl rfl lay23 (Nat.le_of_ble_eq_true rfl) rfl ?_
 intro w68 S
 refine We<|Ws<|WP.draw kr 8 rfl (bm 8 0) rfl ?_
 have S:=S.drew
 refine WA.take (i:=0) (bm 8 1) rfl kr kr kr rfl (fun _=>(R.fieldB h34 zE9)) ?_
 refine WA.two (i:=1) (j:=2) (bm 8 3) (bm 8 5) rfl rfl kr rfl rfl ?_ ?_
 ·refine Lo 1 S<|We<|WA.one (i:=2) (bm 8 7) rfl kr rfl ?_
  refine WL.w (R.loadHN (vs:=[vp_e0,vp_e1,vp_e2,(str p_e.fReason),vp_e4,(str p_e.fBody),(int p_e.fRequested),(int p_e.fReceived)]) S h31 hA59 lay36 rfl rfl)<|We<|WA.one (i:=3) (bm 8 15) rfl kr rfl<|B h fun r69 hr69 h=>W.call S rfl (zCQ S.holds p_e Rp_e0 Rp_e1 Rp_e2 Rp_e4 hr69) ?_
  rintro v70 w71 H72 hle73 S ⟨u74,u76,u78,u80,rfl,R75,R77,R79,R81⟩
  have hA59:=At.mono hA59 hle73 (by simp)
  have Rp_e0:=Sl.mono Rp_e0 hle73
  have Rp_e1:=Sl.mono Rp_e1 hle73
  have Rp_e2:=Sl.mono Rp_e2 hle73
  have Rp_e4:=Sl.mono Rp_e4 hle73
  have RM67:=MR.mono RM67 hle73
  have R37:=Sl.mono R37 hle73
  refine We<|WA.one (i:=4) (bm 8 31) rfl kr rfl<|W.bslice (α:=GEntry) [(agg [u74,u76,u78,(str r69.fReason),u80,(str r69.fBody),(int r69.fRequested),(int r69.fReceived)])] ([r69]:List GEntry) S el23 rfl rfl rfl (by decide) (Go.Eng.encS ⟨rfl,_,_,_,_,rfl,R75,R77,R79,R81⟩ enc0) ?_
  intro u82 w83 H84 hle85 R86 S
  have hA59:=At.mono hA59 hle85 (by simp)
  have Rp_e0:=Sl.mono Rp_e0 hle85
  have Rp_e1:=Sl.mono Rp_e1 hle85
  have Rp_e2:=Sl.mono Rp_e2 hle85
  have Rp_e4:=Sl.mono Rp_e4 hle85
  have RM67:=MR.mono RM67 hle85
  have R75:=Sl.mono R75 hle85
  have R77:=Sl.mono R77 hle85
  have R79:=Sl.mono R79 hle85
  have R81:=Sl.mono R81 hle85
  have R37:=Sl.mono R37 hle85
  refine We<|WA.one (i:=5) (bm 8 63) rfl kr rfl<|B h fun l87 hl87 h=>W.appM (α:=GEntry) (i:=1) S el23 rfl rfl rfl RM67 R86 hl87 ?_
  intro v88 en90 w89 RM91 S
  refine We ?_
  refine WA.take (i:=6) (bm 8 127) rfl kr kr kr rfl (fun _=>(R.fieldB h34 zE9))<|WA.one (i:=7) (bm 8 255) rfl kr rfl ?_
  refine W.storeMR (α:=GEntry) (i:=2) [v36,v88] S RM91 rfl rfl rfl lay23 (Nat.le_of_ble_eq_true rfl) rfl ?_
  intro w92 S
  refine We<|WA.done kr<|Ws<|Wg<|Fb' h34 ?_
  refine Lo 2 S<|Fb' h34 ?_
  refine Lo 2 S ?_
  obtain ⟨H93,hle94,R95,S⟩:=S.settleM (i:=1) rfl RM91
  replace S:St w0 H0 _ H93 [.row u82 36 8 ([r69]:List GEntry).length,.box b21 25 [v36,v88],.box b7 25 [(.slice none 0 0),(.slice none 0 0)]]:=S
  have hA59:=At.mono hA59 hle94 (by simp)
  have Rp_e0:=Sl.mono Rp_e0 hle94
  have Rp_e1:=Sl.mono Rp_e1 hle94
  have Rp_e2:=Sl.mono Rp_e2 hle94
  have Rp_e4:=Sl.mono Rp_e4 hle94
  have RM67:=MR.mono RM67 hle94
  have R75:=Sl.mono R75 hle94
  have R77:=Sl.mono R77 hle94
  have R79:=Sl.mono R79 hle94
  have R81:=Sl.mono R81 hle94
  have R86:=Sl.mono R86 hle94
  have R37:=Sl.mono R37 hle94
  refine Nq R95<|M' h30<|Nj<|Lh<|Nj<|B h fun l96 hl96 h=>W.subLo (α:=GEntry) R95 rfl rfl el23 hl96 ?_
  intro v97 R98
  refine Fb' h34 ?_
  refine W.storeSl (α:=GEntry) (i:=1) [v36,v97] S R98 rfl rfl rfl lay23 (Nat.le_of_ble_eq_true rfl) rfl ?_
  intro w99 S
  refine We<|Ws<|Wg ?_
  refine WL.w (R.loadBN (i:=1) (vs:=[v36,v97]) S h34 rfl lay25 rfl rfl) ?_
  refine W.store (i:=2) [v36,v97] S h33 rfl rfl lay25 rfl (AllOne.all (l:=[v36,v97]) (.cons (Sl.oneC R37) (.cons (Sl.oneC R98) .nil))) (Nat.le_of_ble_eq_true rfl) rfl ?_
  intro w100 S
  refine We ?_
  obtain rfl:=oi h
  refine WP.ret (Out.one rfl S (Res.cellB (i:=2) (cs:=[v36,v97]) S h33 rfl lay25 rfl rfl) ?_)
  exact ⟨_,_,rfl,R37,R98⟩
 refine WL.w (R.loadHN (vs:=[vp_e0,vp_e1,vp_e2,(str p_e.fReason),vp_e4,(str p_e.fBody),(int p_e.fRequested),(int p_e.fReceived)]) S h31 hA59 lay36 rfl rfl)<|We ?_
 refine WA.two (i:=1) (j:=3) (bm 8 7) (bm 8 13) rfl rfl kr rfl rfl ?_ ?_
 ·refine Lo 1 S<|We<|WA.one (i:=3) (bm 8 15) rfl kr rfl<|B h fun r69 hr69 h=>W.call S rfl (zCQ S.holds p_e Rp_e0 Rp_e1 Rp_e2 Rp_e4 hr69) ?_
  rintro v70 w71 H72 hle73 S ⟨u74,u76,u78,u80,rfl,R75,R77,R79,R81⟩
  have Rp_e0:=Sl.mono Rp_e0 hle73
  have Rp_e1:=Sl.mono Rp_e1 hle73
  have Rp_e2:=Sl.mono Rp_e2 hle73
  have Rp_e4:=Sl.mono Rp_e4 hle73
  have RM67:=MR.mono RM67 hle73
  have R37:=Sl.mono R37 hle73
  refine We<|WA.one (i:=4) (bm 8 31) rfl kr rfl<|W.bslice (α:=GEntry) [(agg [u74,u76,u78,(str r69.fReason),u80,(str r69.fBody),(int r69.fRequested),(int r69.fReceived)])] ([r69]:List GEntry) S el23 rfl rfl rfl (by decide) (Go.Eng.encS ⟨rfl,_,_,_,_,rfl,R75,R77,R79,R81⟩ enc0) ?_
  intro u82 w83 H84 hle85 R86 S
  have Rp_e0:=Sl.mono Rp_e0 hle85
  have Rp_e1:=Sl.mono Rp_e1 hle85
  have Rp_e2:=Sl.mono Rp_e2 hle85
  have Rp_e4:=Sl.mono Rp_e4 hle85
  have RM67:=MR.mono RM67 hle85
  have R75:=Sl.mono R75 hle85
  have R77:=Sl.mono R77 hle85
  have R79:=Sl.mono R79 hle85
  have R81:=Sl.mono R81 hle85
  have R37:=Sl.mono R37 hle85
  refine We<|WA.one (i:=5) (bm 8 63) rfl kr rfl<|B h fun l87 hl87 h=>W.appM (α:=GEntry) (i:=1) S el23 rfl rfl rfl RM67 R86 hl87 ?_
  intro v88 en90 w89 RM91 S
  refine We ?_
  refine WA.take (i:=6) (bm 8 127) rfl kr kr kr rfl (fun _=>(R.fieldB h34 zE9))<|WA.one (i:=7) (bm 8 255) rfl kr rfl ?_
  refine W.storeMR (α:=GEntry) (i:=2) [v36,v88] S RM91 rfl rfl rfl lay23 (Nat.le_of_ble_eq_true rfl) rfl ?_
  intro w92 S
  refine We<|WA.done kr<|Ws<|Wg<|Fb' h34 ?_
  refine Lo 2 S<|Fb' h34 ?_
  refine Lo 2 S ?_
  obtain ⟨H93,hle94,R95,S⟩:=S.settleM (i:=1) rfl RM91
  replace S:St w0 H0 _ H93 [.row u82 36 8 ([r69]:List GEntry).length,.box b21 25 [v36,v88],.box b7 25 [(.slice none 0 0),(.slice none 0 0)]]:=S
  have Rp_e0:=Sl.mono Rp_e0 hle94
  have Rp_e1:=Sl.mono Rp_e1 hle94
  have Rp_e2:=Sl.mono Rp_e2 hle94
  have Rp_e4:=Sl.mono Rp_e4 hle94
  have RM67:=MR.mono RM67 hle94
  have R75:=Sl.mono R75 hle94
  have R77:=Sl.mono R77 hle94
  have R79:=Sl.mono R79 hle94
  have R81:=Sl.mono R81 hle94
  have R86:=Sl.mono R86 hle94
  have R37:=Sl.mono R37 hle94
  refine Nq R95<|M' h30<|Nj<|Lh<|Nj<|B h fun l96 hl96 h=>W.subLo (α:=GEntry) R95 rfl rfl el23 hl96 ?_
  intro v97 R98
  refine Fb' h34 ?_
  refine W.storeSl (α:=GEntry) (i:=1) [v36,v97] S R98 rfl rfl rfl lay23 (Nat.le_of_ble_eq_true rfl) rfl ?_
  intro w99 S
  refine We<|Ws<|Wg ?_
  refine WL.w (R.loadBN (i:=1) (vs:=[v36,v97]) S h34 rfl lay25 rfl rfl) ?_
  refine W.store (i:=2) [v36,v97] S h33 rfl rfl lay25 rfl (AllOne.all (l:=[v36,v97]) (.cons (Sl.oneC R37) (.cons (Sl.oneC R98) .nil))) (Nat.le_of_ble_eq_true rfl) rfl ?_
  intro w100 S
  refine We ?_
  obtain rfl:=oi h
  refine WP.ret (Out.one rfl S (Res.cellB (i:=2) (cs:=[v36,v97]) S h33 rfl lay25 rfl rfl) ?_)
  exact ⟨_,_,rfl,R37,R98⟩
 refine B h fun r69 hr69 h=>W.call S rfl (zCQ S.holds p_e Rp_e0 Rp_e1 Rp_e2 Rp_e4 hr69) ?_
 rintro v70 w71 H72 hle73 S ⟨u74,u76,u78,u80,rfl,R75,R77,R79,R81⟩
 have RM67:=MR.mono RM67 hle73
 have R37:=Sl.mono R37 hle73
 refine We ?_
 refine WA.two (i:=1) (j:=4) (bm 8 15) (bm 8 29) rfl rfl kr rfl rfl ?_ ?_
 ·refine Lo 1 S<|We<|WA.one (i:=4) (bm 8 31) rfl kr rfl<|W.bslice (α:=GEntry) [(agg [u74,u76,u78,(str r69.fReason),u80,(str r69.fBody),(int r69.fRequested),(int r69.fReceived)])] ([r69]:List GEntry) S el23 rfl rfl rfl (by decide) (Go.Eng.encS ⟨rfl,_,_,_,_,rfl,R75,R77,R79,R81⟩ enc0) ?_
  intro u82 w83 H84 hle85 R86 S
  have RM67:=MR.mono RM67 hle85
  have R75:=Sl.mono R75 hle85
  have R77:=Sl.mono R77 hle85
  have R79:=Sl.mono R79 hle85
  have R81:=Sl.mono R81 hle85
  have R37:=Sl.mono R37 hle85
  refine We<|WA.one (i:=5) (bm 8 63) rfl kr rfl<|B h fun l87 hl87 h=>W.appM (α:=GEntry) (i:=1) S el23 rfl rfl rfl RM67 R86 hl87 ?_
  intro v88 en90 w89 RM91 S
  refine We ?_
  refine WA.take (i:=6) (bm 8 127) rfl kr kr kr rfl (fun _=>(R.fieldB h34 zE9))<|WA.one (i:=7) (bm 8 255) rfl kr rfl ?_
  refine W.storeMR (α:=GEntry) (i:=2) [v36,v88] S RM91 rfl rfl rfl lay23 (Nat.le_of_ble_eq_true rfl) rfl ?_
  intro w92 S
  refine We<|WA.done kr<|Ws<|Wg<|Fb' h34 ?_
  refine Lo 2 S<|Fb' h34 ?_
  refine Lo 2 S ?_
  obtain ⟨H93,hle94,R95,S⟩:=S.settleM (i:=1) rfl RM91
  replace S:St w0 H0 _ H93 [.row u82 36 8 ([r69]:List GEntry).length,.box b21 25 [v36,v88],.box b7 25 [(.slice none 0 0),(.slice none 0 0)]]:=S
  have RM67:=MR.mono RM67 hle94
  have R75:=Sl.mono R75 hle94
  have R77:=Sl.mono R77 hle94
  have R79:=Sl.mono R79 hle94
  have R81:=Sl.mono R81 hle94
  have R86:=Sl.mono R86 hle94
  have R37:=Sl.mono R37 hle94
  refine Nq R95<|M' h30<|Nj<|Lh<|Nj<|B h fun l96 hl96 h=>W.subLo (α:=GEntry) R95 rfl rfl el23 hl96 ?_
  intro v97 R98
  refine Fb' h34 ?_
  refine W.storeSl (α:=GEntry) (i:=1) [v36,v97] S R98 rfl rfl rfl lay23 (Nat.le_of_ble_eq_true rfl) rfl ?_
  intro w99 S
  refine We<|Ws<|Wg ?_
  refine WL.w (R.loadBN (i:=1) (vs:=[v36,v97]) S h34 rfl lay25 rfl rfl) ?_
  refine W.store (i:=2) [v36,v97] S h33 rfl rfl lay25 rfl (AllOne.all (l:=[v36,v97]) (.cons (Sl.oneC R37) (.cons (Sl.oneC R98) .nil))) (Nat.le_of_ble_eq_true rfl) rfl ?_
  intro w100 S
  refine We ?_
  obtain rfl:=oi h
  refine WP.ret (Out.one rfl S (Res.cellB (i:=2) (cs:=[v36,v97]) S h33 rfl lay25 rfl rfl) ?_)
  exact ⟨_,_,rfl,R37,R98⟩
 refine W.bslice (α:=GEntry) [(agg [u74,u76,u78,(str r69.fReason),u80,(str r69.fBody),(int r69.fRequested),(int r69.fReceived)])] ([r69]:List GEntry) S el23 rfl rfl rfl (by decide) (Go.Eng.encS ⟨rfl,_,_,_,_,rfl,R75,R77,R79,R81⟩ enc0) ?_
 intro u82 w83 H84 hle85 R86 S
 have RM67:=MR.mono RM67 hle85
 have R37:=Sl.mono R37 hle85
 refine We<|WA.one (i:=1) (bm 8 31) rfl kr rfl ?_
 refine Lo 2 S<|We<|WA.one (i:=5) (bm 8 63) rfl kr rfl<|B h fun l87 hl87 h=>W.appM (α:=GEntry) (i:=1) S el23 rfl rfl rfl RM67 R86 hl87 ?_
 intro v88 en90 w89 RM91 S
 refine We ?_
 refine WA.take (i:=6) (bm 8 127) rfl kr kr kr rfl (fun _=>(R.fieldB h34 zE9))<|WA.one (i:=7) (bm 8 255) rfl kr rfl ?_
 refine W.storeMR (α:=GEntry) (i:=2) [v36,v88] S RM91 rfl rfl rfl lay23 (Nat.le_of_ble_eq_true rfl) rfl ?_
 intro w92 S
 refine We<|WA.done kr<|Ws<|Wg<|Fb' h34 ?_
 refine Lo 2 S<|Fb' h34 ?_
 refine Lo 2 S ?_
 obtain ⟨H93,hle94,R95,S⟩:=S.settleM (i:=1) rfl RM91
 replace S:St w0 H0 _ H93 [.row u82 36 8 ([r69]:List GEntry).length,.box b21 25 [v36,v88],.box b7 25 [(.slice none 0 0),(.slice none 0 0)]]:=S
 have RM67:=MR.mono RM67 hle94
 have R37:=Sl.mono R37 hle94
 refine Nq R95<|M' h30<|Nj<|Lh<|Nj<|B h fun l96 hl96 h=>W.subLo (α:=GEntry) R95 rfl rfl el23 hl96 ?_
 intro v97 R98
 refine Fb' h34 ?_
 refine W.storeSl (α:=GEntry) (i:=1) [v36,v97] S R98 rfl rfl rfl lay23 (Nat.le_of_ble_eq_true rfl) rfl ?_
 intro w99 S
 refine We<|Ws<|Wg ?_
 refine WL.w (R.loadBN (i:=1) (vs:=[v36,v97]) S h34 rfl lay25 rfl rfl) ?_
 refine W.store (i:=2) [v36,v97] S h33 rfl rfl lay25 rfl (AllOne.all (l:=[v36,v97]) (.cons (Sl.oneC R37) (.cons (Sl.oneC R98) .nil))) (Nat.le_of_ble_eq_true rfl) rfl ?_
 intro w100 S
 refine We ?_
 obtain rfl:=oi h
 refine WP.ret (Out.one rfl S (Res.cellB (i:=2) (cs:=[v36,v97]) S h33 rfl lay25 rfl rfl) ?_)
 exact ⟨_,_,rfl,R37,R98⟩
theorem zJG {w0:World} {H0:Hp} (hw:Holds w0 H0) (p_e:GEntry) {vp_e0:Value} {vp_e1:Value} {vp_e2:Value} {vp_e4:Value} (Rp_e0:Sl (α:=(List Str)) H0 vp_e0 p_e.fKeys) (Rp_e1:Sl (α:=Str) H0 vp_e1 p_e.fVary) (Rp_e2:Sl (α:=Str) H0 vp_e2 p_e.fSnapshot) (Rp_e4:Sl (α:=GField) H0 vp_e4 p_e.fFields) {r:Bool} (h:zFZ p_e=some r) :
  Con Tryz.prog 61 [(agg [vp_e0,vp_e1,vp_e2,(str p_e.fReason),vp_e4,(str p_e.fBody),(int p_e.fRequested),(int p_e.fReceived)])] w0 H0 (fun H' v=>v=(boo r)):=by
 refine Con.mk (N:=36) Tryz.func61 rfl rfl kr rfl ?_
 have S:=St.start hw
 refine Ws<|Wg ?_
 refine W.box [vp_e0,vp_e1,vp_e2,(str p_e.fReason),vp_e4,(str p_e.fBody),(int p_e.fRequested),(int p_e.fReceived)] S rfl rfl ?_
 intro b1 w2 S
 refine A<|We<|Ws<|Ws<|Wg<|Fb ?_
 refine Lo 0 S<|Nq Rp_e0<|Lc<|M ?_
 refine WL.grp 8 [9,10,11,12,13,14,15] 16 (boo ((decide (0<(p_e.fKeys.length:Int)))||((p_e.fVary.length:Int) !=(p_e.fSnapshot.length:Int)))) ?_ ?_
 ·rcases boolE (decide (0<(p_e.fKeys.length:Int))) with hb3 | hb3
  ·refine Gn hb3<|Gn hb3<|Gn hb3<|Gn hb3<|Gn hb3<|Gn hb3<|Gn hb3<|Pt hb3 ?_
   exact We ⟨(orT hb3),ag,rfl⟩
  refine Gy hb3<|Fb<|Gy hb3 ?_
  refine Lo 0 S<|Gy hb3<|Nq Rp_e1<|Gy hb3<|Fb<|Gy hb3 ?_
  refine Lo 0 S<|Gy hb3<|Nq Rp_e2 ?_
  refine Gy hb3<|Lf<|Pf hb3 ?_
  exact We ⟨(orF hb3),ag,rfl⟩
 intro us
 refine We ?_
 rcases condE h with ⟨hc5,h⟩ | ⟨hc5,h⟩
 ·refine CT hc5<|Ws<|Wg<|A<|We ?_
  obtain rfl:=oi h
  refine WP.ret (Out.one rfl S rfl ?_)
  exact rfl
 refine CF hc5<|Wk<|Ws<|Ws<|Wg<|A<|We<|B h fun r14 hr15 h=>WP.cut (fun f w=>match r14 with | .inl _=>∃ (H10:Hp),St w0 H0 w H10 [] | .inr _=>False) ?_ ?_
 ·refine Wb ?_
  refine WP.loopM (zCi p_e) (fun s f w=>match s with | i_8=>∃ (H6:Hp),f 1=(ptr b1 0)∧f 3=(int i_8)∧Sl (α:=(List Str)) H6 vp_e0 p_e.fKeys∧Sl (α:=Str) H6 vp_e1 p_e.fVary∧Sl (α:=Str) H6 vp_e2 p_e.fSnapshot∧Sl (α:=GField) H6 vp_e4 p_e.fFields∧St w0 H0 w H6 [.box b1 36 [vp_e0,vp_e1,vp_e2,(str p_e.fReason),vp_e4,(str p_e.fBody),(int p_e.fRequested),(int p_e.fReceived)]]) 1 r14 hr15 ?_ ?_
  ·exact ⟨H0,rfl,rfl,Rp_e0,Rp_e1,Rp_e2,Rp_e4,S⟩
  intro i_8 f w hI y11 hy12 hy13
  obtain ⟨H6,h7,h9,Rp_e0,Rp_e1,Rp_e2,Rp_e4,S⟩:=hI
  refine Ws<|Ws<|Wg<|M' h9<|Fb' h7 ?_
  refine Lo 0 S<|Nq Rp_e1<|La<|We ?_
  rcases condE hy12 with ⟨hc16,hy12⟩ | ⟨hc16,hy12⟩
  ·refine CT hc16<|Wk<|Ws<|Wb<|Ws<|WP.quiet S kr kr<|QFb' h7 ?_
   refine WQ.val (fun w hw=>by obtain ⟨_,hq,S⟩:=hw; exact (R.loadB (i:=0) (v:=vp_e1) S rfl rfl lay34 rfl))<|QM' h9<|QLh<|B hy12 fun x20 hx20 hy12=>WQ.idx (α:=Str) Rp_e1 rfl rfl el34 hx20 ?_
   rintro a21 _ hA22 rfl
   refine WQ.val (fun w hw=>by obtain ⟨_,hq,S⟩:=hw; exact (R.loadH (v:=str x20) S rfl (At.mono hA22 hq (by simp)) lay9 rfl))<|QFb' h7 ?_
   refine WQ.val (fun w hw=>by obtain ⟨_,hq,S⟩:=hw; exact (R.loadB (i:=0) (v:=vp_e1) S rfl rfl lay34 rfl))<|QM' h9<|B hy12 fun x23 hx23 hy12=>WQ.idx (α:=Str) Rp_e1 rfl rfl el34 hx23 ?_
   rintro a24 _ hA25 rfl
   refine WQ.val (fun w hw=>by obtain ⟨_,hq,S⟩:=hw; exact (R.loadH (v:=str x23) S rfl (At.mono hA25 hq (by simp)) lay9 rfl))<|QNf<|WQ.nil ?_
   intro w17 H18 hle19 S
   have Rp_e1:=Sl.mono Rp_e1 hle19
   have Rp_e0:=Sl.mono Rp_e0 hle19
   have Rp_e2:=Sl.mono Rp_e2 hle19
   have Rp_e4:=Sl.mono Rp_e4 hle19
   rcases condE hy12 with ⟨hc26,hy12⟩ | ⟨hc26,hy12⟩
   ·refine CT hc26<|Ws<|Wg<|A<|We ?_
    obtain rfl:=oi hy12
    obtain rfl:=hy13
    obtain rfl:=oi h
    refine WP.ret (Out.one rfl S rfl ?_)
    exact rfl
   refine CF hc26<|Wk<|Wg<|M' h9<|Lg<|A<|We ?_
   obtain rfl:=oi hy12
   exact ⟨rfl,⟨H18,h7,rfl,Rp_e0,Rp_e1,Rp_e2,Rp_e4,S⟩⟩
  refine CF hc16<|Wx ?_
  obtain rfl:=oi hy12
  obtain rfl:=hy13
  exact ⟨H6,(S.drop _ (.cons _ .slnil))⟩
 intro f w hM
 rcases r14 with _ | e
 ·obtain ⟨H10,S⟩:=hM
  refine Ws<|Wg<|A<|We ?_
  obtain rfl:=oi h
  refine WP.ret (Out.one rfl S rfl ?_)
  exact rfl
 exact hM.elim
theorem zJg {w0:World} {H0:Hp} (hw:Holds w0 H0) (p_axes:(List GAxis)) (p_e:GEntry) {vp_axes:Value} {vp_e0:Value} {vp_e1:Value} {vp_e2:Value} {vp_e4:Value} (Rp_axes:Sl (α:=GAxis) H0 vp_axes p_axes) (Rp_e0:Sl (α:=(List Str)) H0 vp_e0 p_e.fKeys) (Rp_e1:Sl (α:=Str) H0 vp_e1 p_e.fVary) (Rp_e2:Sl (α:=Str) H0 vp_e2 p_e.fSnapshot) (Rp_e4:Sl (α:=GField) H0 vp_e4 p_e.fFields) {r:Bool} (h:zGE p_axes p_e=some r) :
  Con Tryz.prog 62 [vp_axes,(agg [vp_e0,vp_e1,vp_e2,(str p_e.fReason),vp_e4,(str p_e.fBody),(int p_e.fRequested),(int p_e.fReceived)])] w0 H0 (fun H' v=>v=(boo r)):=by
 refine Con.mk (N:=58) Tryz.func62 rfl rfl kr rfl ?_
 have S:=St.start hw
 refine Ws<|Wg ?_
 refine W.box [vp_e0,vp_e1,vp_e2,(str p_e.fReason),vp_e4,(str p_e.fBody),(int p_e.fRequested),(int p_e.fReceived)] S rfl rfl ?_
 intro b1 w2 S
 refine A<|We<|Ws<|Ws<|Wg<|Fb ?_
 refine Lo 0 S<|Nq Rp_e0<|La<|M ?_
 refine WL.grp 5 [14,15,16,17] 18 (boo ((decide ((p_e.fKeys.length:Int)<1))||(decide (64<(p_e.fKeys.length:Int))))) ?_ ?_
 ·rcases boolE (decide ((p_e.fKeys.length:Int)<1)) with hb3 | hb3
  ·refine Gn hb3<|Gn hb3<|Gn hb3<|Gn hb3<|Pt hb3 ?_
   exact We ⟨(orT hb3),ag,rfl⟩
  refine Gy hb3<|Fb<|Gy hb3 ?_
  refine Lo 0 S<|Gy hb3<|Nq Rp_e0<|Gy hb3<|Lc<|Pf hb3 ?_
  exact We ⟨(orF hb3),ag,rfl⟩
 intro us
 refine M ?_
 refine WL.grp 9 [20,21,22,23,24,25,26,27] 28 (boo (((decide ((p_e.fKeys.length:Int)<1))||(decide (64<(p_e.fKeys.length:Int))))||(decide (0<(wr ((p_e.fVary.length:Int)+(p_e.fSnapshot.length:Int))))))) ?_ ?_
 ·rcases boolE ((decide ((p_e.fKeys.length:Int)<1))||(decide (64<(p_e.fKeys.length:Int)))) with hb5 | hb5
  ·refine Gn hb5<|Gn hb5<|Gn hb5<|Gn hb5<|Gn hb5<|Gn hb5<|Gn hb5<|Gn hb5<|Pt hb5 ?_
   exact We ⟨(orT hb5),ag,rfl⟩
  refine Gy hb5<|Fb<|Gy hb5 ?_
  refine Lo 0 S<|Gy hb5<|Nq Rp_e1<|Gy hb5<|Fb<|Gy hb5 ?_
  refine Lo 0 S<|Gy hb5<|Nq Rp_e2 ?_
  refine Gy hb5<|Lg<|Gy hb5<|Lc<|Pf hb5 ?_
  exact We ⟨(orF hb5),ag,rfl⟩
 intro us
 refine We ?_
 rcases condE h with ⟨hc7,h⟩ | ⟨hc7,h⟩
 ·refine CT hc7<|Ws<|Wg<|A<|We ?_
  obtain rfl:=oi h
  refine WP.ret (Out.one rfl S rfl ?_)
  exact rfl
 refine CF hc7<|Wk<|Ws<|Ws<|Wg<|Fb ?_
 refine Lo 0 S<|Nq Rp_e0<|M<|We<|B h fun r18 hr19 h=>WP.cut (fun f w=>match r18 with | .inl _=>∃ (H14:Hp),St w0 H0 w H14 [] | .inr _=>False) ?_ ?_
 ·refine Wb ?_
  refine WP.loopM (zCN p_axes p_e) (fun s f w=>match s with | y_12=>∃ (H8:Hp),f 0=vp_axes∧f 30=vp_e0∧f 31=(int (p_e.fKeys.length:Int))∧f 32=(int y_12)∧Sl (α:=GAxis) H8 vp_axes p_axes∧Sl (α:=(List Str)) H8 vp_e0 p_e.fKeys∧St w0 H0 w H8 []) 0 r18 hr19 ?_ ?_
  ·exact ⟨H0,rfl,rfl,rfl,rfl,Rp_axes,Rp_e0,(S.drop _ (.cons _ .slnil))⟩
  intro y_12 f w hI y15 hy16 hy17
  obtain ⟨H8,h9,h10,h11,h13,Rp_axes,Rp_e0,S⟩:=hI
  refine Ws<|Wg<|La' h13 h11<|We<|Ws ?_
  rcases condE hy16 with ⟨hc20,hy16⟩ | ⟨hc20,hy16⟩
  ·refine CT hc20<|Wk<|Ws<|Wb<|Ws<|Wg<|B hy16 fun x21 hx21 hy16=>W.idx (α:=(List Str)) Rp_e0 h10 h13 el33 hx21 ?_
   rintro a22 _ hA23 ⟨v24,rfl,R25⟩
   refine Lq S hA23<|A<|We<|Ws<|Ws<|Wg<|M<|Nq R25<|M' h9<|Nq Rp_axes<|Lf<|We ?_
   rcases condE hy16 with ⟨hc26,hy16⟩ | ⟨hc26,hy16⟩
   ·refine CT hc26<|Ws<|Wg<|A<|We ?_
    obtain rfl:=oi hy16
    obtain rfl:=hy17
    obtain rfl:=oi h
    refine WP.ret (Out.one rfl S rfl ?_)
    exact rfl
   refine CF hc26<|Wk<|Ws<|Wg<|M' h9<|Nq Rp_axes<|M<|We<|B hy16 fun r45 hr46 hy16=>WP.cut (fun f w=>match r45 with | .inl _=>∃ (H37:Hp),f 0=vp_axes∧f 30=vp_e0∧f 31=(int (p_e.fKeys.length:Int))∧f 32=(int y_12)∧Sl (α:=GAxis) H37 vp_axes p_axes∧Sl (α:=(List Str)) H37 vp_e0 p_e.fKeys∧St w0 H0 w H37 [] | .inr _=>False) ?_ ?_
   ·refine Wb ?_
    refine WP.loopM (zBx p_axes x21) (fun s f w=>match s with | y_35=>∃ (H27:Hp),f 0=vp_axes∧f 6=v24∧f 30=vp_e0∧f 31=(int (p_e.fKeys.length:Int))∧f 32=(int y_12)∧f 41=vp_axes∧f 42=(int (p_axes.length:Int))∧f 43=(int y_35)∧Sl (α:=GAxis) H27 vp_axes p_axes∧Sl (α:=Str) H27 v24 x21∧Sl (α:=(List Str)) H27 vp_e0 p_e.fKeys∧St w0 H0 w H27 []) 0 r45 hr46 ?_ ?_
    ·exact ⟨H8,h9,rfl,h10,h11,h13,rfl,rfl,rfl,Rp_axes,R25,Rp_e0,S⟩
    intro y_35 f w hI y42 hy43 hy44
    obtain ⟨H27,h28,h29,h30,h31,h32,h33,h34,h36,Rp_axes,R25,Rp_e0,S⟩:=hI
    refine Ws<|Wg<|La' h36 h34<|We<|Ws ?_
    rcases condE hy43 with ⟨hc47,hy43⟩ | ⟨hc47,hy43⟩
    ·refine CT hc47<|Wk<|Ws<|Wb<|Ws<|Wg<|M' h36<|B hy43 fun x48 hx48 hy43=>W.idx (α:=GAxis) Rp_axes h33 h36 el22 hx48 ?_
     rintro a49 _ hA50 ⟨v51,rfl,R52⟩
     refine WL.w (R.loadHN (vs:=[(str x48.fName),v51]) S rfl hA50 lay68 rfl rfl) ?_
     refine W.alloc [(str []),(.slice none 0 0)] S zer68 ?_
     intro b53 w54 S
     refine A ?_
     refine W.store (i:=0) [(str x48.fName),v51] S rfl rfl rfl lay68 rfl (AllOne.all (l:=[(str x48.fName),v51]) (.cons rfl (.cons (Sl.oneC R52) .nil))) (Nat.le_of_ble_eq_true rfl) rfl ?_
     intro w55 S
     refine We<|Ws<|WP.quiet S kr kr<|QFb ?_
     refine WQ.val (fun w hw=>by obtain ⟨_,hq,S⟩:=hw; exact (R.loadB (i:=0) (v:=v51) S rfl rfl lay34 rfl))<|QM' h29<|QM<|B hy43 fun x59 hx59 hy43=>WQ.idx (α:=Str) R25 rfl rfl el34 hx59 ?_
     rintro a60 _ hA61 rfl
     refine WQ.val (fun w hw=>by obtain ⟨_,hq,S⟩:=hw; exact (R.loadH (v:=str x59) S rfl (At.mono hA61 hq (by simp)) lay9 rfl))<|B hy43 fun r62 hr62 hy43=>WQ.call (v:=boo r62) rfl (fun w H' hq S=>zBz S.holds x48.fValues x59 (Sl.mono R52 hq) hr62)<|QNo<|WQ.nil ?_
     intro w56 H57 hle58 S
     have Rp_axes:=Sl.mono Rp_axes hle58
     have R25:=Sl.mono R25 hle58
     have Rp_e0:=Sl.mono Rp_e0 hle58
     rcases condE hy43 with ⟨hc67,hy43⟩ | ⟨hc67,hy43⟩
     ·refine CT hc67<|Ws<|Wg<|A<|We ?_
      obtain rfl:=oi hy43
      obtain rfl:=hy44
      obtain rfl:=oi hy16
      obtain rfl:=hy17
      obtain rfl:=oi h
      refine WP.ret (Out.one rfl S rfl ?_)
      exact rfl
     refine CF hc67<|Wk<|Wg<|Lg' h36 rfl<|M<|We ?_
     obtain rfl:=oi hy43
     exact ⟨rfl,⟨H57,h28,h29,h30,h31,h32,h33,h34,rfl,Rp_axes,R25,Rp_e0,(S.drop _ (.cons _ .slnil))⟩⟩
    refine CF hc47<|Wx ?_
    obtain rfl:=oi hy43
    obtain rfl:=hy44
    exact ⟨H27,h28,h30,h31,h32,Rp_axes,Rp_e0,S⟩
   intro f w hM
   rcases r45 with _ | e
   ·obtain ⟨H37,h38,h39,h40,h41,Rp_axes,Rp_e0,S⟩:=hM
    refine Wg<|Lg' h41 rfl<|M<|We ?_
    obtain rfl:=oi hy16
    exact ⟨rfl,⟨H37,h38,h39,h40,rfl,Rp_axes,Rp_e0,S⟩⟩
   exact hM.elim
  refine CF hc20<|Wx ?_
  obtain rfl:=oi hy16
  obtain rfl:=hy17
  exact ⟨H8,S⟩
 intro f w hM
 rcases r18 with _ | e
 ·obtain ⟨H14,S⟩:=hM
  refine Ws<|Wg<|A<|We ?_
  obtain rfl:=oi h
  refine WP.ret (Out.one rfl S rfl ?_)
  exact rfl
 exact hM.elim
theorem zIj {w0:World} {H0:Hp} (hw:Holds w0 H0) (p_old:GEntry) (c_x0:GTable) (c_x1:GEntry) {vp_old0:Value} {vp_old1:Value} {vp_old2:Value} {vp_old4:Value} {vc_x00:Value} {vc_x01:Value} {vc_x10:Value} {vc_x11:Value} {vc_x12:Value} {vc_x14:Value} {ac_x0:Addr} {ac_x1:Addr} (Rp_old0:Sl (α:=(List Str)) H0 vp_old0 p_old.fKeys) (Rp_old1:Sl (α:=Str) H0 vp_old1 p_old.fVary) (Rp_old2:Sl (α:=Str) H0 vp_old2 p_old.fSnapshot) (Rp_old4:Sl (α:=GField) H0 vp_old4 p_old.fFields) (Ac_x0:At H0 ac_x0 [vc_x00,vc_x01]) (Rc_x00:Sl (α:=GAxis) H0 vc_x00 c_x0.fAxes) (Rc_x01:Sl (α:=GEntry) H0 vc_x01 c_x0.fEntries) (Ac_x1:At H0 ac_x1 [vc_x10,vc_x11,vc_x12,(str c_x1.fReason),vc_x14,(str c_x1.fBody),(int c_x1.fRequested),(int c_x1.fReceived)]) (Rc_x10:Sl (α:=(List Str)) H0 vc_x10 c_x1.fKeys) (Rc_x11:Sl (α:=Str) H0 vc_x11 c_x1.fVary) (Rc_x12:Sl (α:=Str) H0 vc_x12 c_x1.fSnapshot) (Rc_x14:Sl (α:=GField) H0 vc_x14 c_x1.fFields) {r:Bool} (h:zEu p_old c_x0 c_x1=some r) :
  Con Tryz.prog 63 [(agg [vp_old0,vp_old1,vp_old2,(str p_old.fReason),vp_old4,(str p_old.fBody),(int p_old.fRequested),(int p_old.fReceived)]),(.pointer (some ac_x0)),(.pointer (some ac_x1))] w0 H0 (fun H' v=>v=(boo r)):=by
 refine Con.mk (N:=10) Tryz.func63 rfl rfl kr rfl ?_
 have S:=St.start hw
 refine Ws<|Wg ?_
 refine W.box [vp_old0,vp_old1,vp_old2,(str p_old.fReason),vp_old4,(str p_old.fBody),(int p_old.fRequested),(int p_old.fReceived)] S rfl rfl ?_
 intro b1 w2 S
 refine A<|We<|Ws<|Wg<|Fc ?_
 have hA3:=At.add Ac_x0 0 (by simp)
 refine Lq S hA3 ?_
 refine WL.w (R.loadHN (vs:=[vc_x10,vc_x11,vc_x12,(str c_x1.fReason),vc_x14,(str c_x1.fBody),(int c_x1.fRequested),(int c_x1.fReceived)]) S rfl Ac_x1 lay36 rfl rfl) ?_
 refine WL.w (R.loadBN (i:=0) (vs:=[vp_old0,vp_old1,vp_old2,(str p_old.fReason),vp_old4,(str p_old.fBody),(int p_old.fRequested),(int p_old.fReceived)]) S rfl rfl lay36 rfl rfl)<|B h fun r4 hr4 h=>W.call S rfl (zFo S.holds c_x0.fAxes c_x1 p_old Rc_x00 Rc_x10 Rc_x11 Rc_x12 Rc_x14 Rp_old0 Rp_old1 Rp_old2 Rp_old4 hr4) ?_
 rintro v5 w6 H7 hle8 S rfl
 refine A<|We ?_
 obtain rfl:=oi h
 refine WP.ret (Out.one rfl S rfl ?_)
 exact rfl
theorem zJh {w0:World} {H0:Hp} (hw:Holds w0 H0) (p_t:GTable) (p_limit:Int) {vp_t0:Value} {vp_t1:Value} (Rp_t0:Sl (α:=GAxis) H0 vp_t0 p_t.fAxes) (Rp_t1:Sl (α:=GEntry) H0 vp_t1 p_t.fEntries) {r:Bool} (h:zFQ p_t p_limit=some r) :
  Con Tryz.prog 27 [(agg [vp_t0,vp_t1]),(int p_limit)] w0 H0 (fun H' v=>v=(boo r)):=by
 refine Con.mk (N:=54) Tryz.func27 rfl rfl kr rfl ?_
 have S:=St.start hw
 refine Ws<|Wg ?_
 refine W.box [vp_t0,vp_t1] S rfl rfl ?_
 intro b1 w2 S
 refine A<|We<|Ws<|Ws<|Wg<|Fb ?_
 refine Lo 0 S<|Nq Rp_t1<|M<|Lc<|M<|B h fun b16 hg4 h=>WL.grpw 11 [13,14,15,16,17,18,19,20,21,22] 23 (boo b16) (fun w=>∃ H':Hp,H0.le H'∧St w0 H0 w H' [.box b1 25 [vp_t0,vp_t1]]) ?_ ?_
 ·rcases boolE (decide (p_limit<(p_t.fEntries.length:Int))) with hb3 | hb3
  ·replace hg4:=condT hg4 hb3
   refine Gn hb3<|Gn hb3<|Gn hb3<|Gn hb3<|Gn hb3<|WL.gund rfl rfl<|WL.gund rfl rfl<|WL.gund rfl rfl<|WL.gund rfl rfl<|Gn hb3<|Pt hb3 ?_
   exact We ⟨(congrArg boo (oi hg4)),ag,⟨H0,(Hp.le.refl _),S⟩⟩
  replace hg4:=condF hg4 hb3
  refine Gy hb3<|Fb<|Gy hb3 ?_
  refine Lo 0 S<|Gy hb3<|Nq Rp_t0<|Gy hb3<|Lc<|Gy hb3<|M<|B hg4 fun b12 hg6 hg4=>WL.grpw 5 [18,19,20,21] 22 (boo b12) (fun w=>∃ H':Hp,H0.le H'∧St w0 H0 w H' [.box b1 25 [vp_t0,vp_t1]]) ?_ ?_
  ·rcases boolE (decide (0<(p_t.fAxes.length:Int))) with hb5 | hb5
   ·replace hg6:=condT hg6 hb5
    refine Gy hb5<|Fb<|Gy hb5 ?_
    refine Lo 0 S<|Gy hb5<|B hg6 fun r7 hr7 hg6=>W.call S rfl (zEG S.holds p_t.fAxes Rp_t0 hr7) ?_
    rintro v8 w9 H10 hle11 S rfl
    have Rp_t0:=Sl.mono Rp_t0 hle11
    have Rp_t1:=Sl.mono Rp_t1 hle11
    refine Gy hb5<|No<|Gy hb3<|Pt hb5 ?_
    exact We ⟨(congrArg boo (oi hg6)),ag,⟨H10,hle11,S⟩⟩
   replace hg6:=condF hg6 hb5
   refine Gn hb5<|Gn hb5<|Gn hb5<|Gn hb5<|Gy hb3<|Pf hb5 ?_
   exact We ⟨(congrArg boo (oi hg6)),ag,⟨H0,(Hp.le.refl _),S⟩⟩
  intro us w14 ⟨H13,hle15,S⟩
  have Rp_t0:=Sl.mono Rp_t0 hle15
  have Rp_t1:=Sl.mono Rp_t1 hle15
  refine Pf hb3 ?_
  exact We ⟨(congrArg boo (oi hg4)),ag,⟨H13,hle15,S⟩⟩
 intro us w18 ⟨H17,hle19,S⟩
 have Rp_t0:=Sl.mono Rp_t0 hle19
 have Rp_t1:=Sl.mono Rp_t1 hle19
 refine We ?_
 rcases condE h with ⟨hc20,h⟩ | ⟨hc20,h⟩
 ·refine CT hc20<|Ws<|Wg<|A<|We ?_
  obtain rfl:=oi h
  refine WP.ret (Out.one rfl S rfl ?_)
  exact rfl
 refine CF hc20<|Wk<|Ws<|Ws<|Wg<|Fb ?_
 refine Lo 0 S<|Nq Rp_t1<|M<|We ?_
 obtain ⟨H21,hle22,hs23,_,S⟩:=S.settle (i:=0) rfl
 replace S:St w0 H0 _ H21 []:=S
 have hA24:At H21 ⟨b1,0,none⟩ [vp_t0,vp_t1]:=⟨_,_,rfl,hs23,[],by simp⟩
 have Rp_t0:=Sl.mono Rp_t0 hle22
 have Rp_t1:=Sl.mono Rp_t1 hle22
 refine B h fun r35 hr36 h=>WP.cut (fun f w=>match r35 with | .inl _=>∃ (H31:Hp),St w0 H0 w H31 [] | .inr _=>False) ?_ ?_
 ·refine Wb ?_
  refine WP.loopM (zCO p_t) (fun s f w=>match s with | y_29=>∃ (H25:Hp),f 2=(.pointer (some ⟨b1,0,none⟩))∧f 25=vp_t1∧f 26=(int (p_t.fEntries.length:Int))∧f 27=(int y_29)∧At H25 ⟨b1,0,none⟩ [vp_t0,vp_t1]∧Sl (α:=GAxis) H25 vp_t0 p_t.fAxes∧Sl (α:=GEntry) H25 vp_t1 p_t.fEntries∧St w0 H0 w H25 []) 0 r35 hr36 ?_ ?_
  ·exact ⟨H21,rfl,rfl,rfl,rfl,hA24,Rp_t0,Rp_t1,S⟩
  intro y_29 f w hI y32 hy33 hy34
  obtain ⟨H25,h26,h27,h28,h30,hA24,Rp_t0,Rp_t1,S⟩:=hI
  refine Ws<|Wg<|La' h30 h28<|We<|Ws ?_
  rcases condE hy33 with ⟨hc37,hy33⟩ | ⟨hc37,hy33⟩
  ·refine CT hc37<|Wk<|Ws<|Wb<|Ws<|Wg<|M' h30<|B hy33 fun x38 hx38 hy33=>W.idx (α:=GEntry) Rp_t1 h27 h30 el23 hx38 ?_
   rintro a39 _ hA40 ⟨v41,v43,v45,v47,rfl,R42,R44,R46,R48⟩
   refine WL.w (R.loadHN (vs:=[v41,v43,v45,(str x38.fReason),v47,(str x38.fBody),(int x38.fRequested),(int x38.fReceived)]) S rfl hA40 lay36 rfl rfl) ?_
   refine W.alloc [(.slice none 0 0),(.slice none 0 0),(.slice none 0 0),(str []),(.slice none 0 0),(str []),(int 0),(int 0)] S zer36 ?_
   intro b49 w50 S
   refine A ?_
   refine W.store (i:=0) [v41,v43,v45,(str x38.fReason),v47,(str x38.fBody),(int x38.fRequested),(int x38.fReceived)] S rfl rfl rfl lay36 rfl (AllOne.all (l:=[v41,v43,v45,(str x38.fReason),v47,(str x38.fBody),(int x38.fRequested),(int x38.fReceived)]) (.cons (Sl.oneC R42) (.cons (Sl.oneC R44) (.cons (Sl.oneC R46) (.cons rfl (.cons (Sl.oneC R48) (.cons rfl (.cons rfl (.cons rfl .nil))))))))) (Nat.le_of_ble_eq_true rfl) rfl ?_
   intro w51 S
   refine We<|Ws<|Ws<|Wg<|Fc' h26 ?_
   have hA52:=At.add hA24 0 (by simp)
   refine Lq S hA52<|Nq Rp_t0<|Le<|We ?_
   rcases condE hy33 with ⟨hc53,hy33⟩ | ⟨hc53,hy33⟩
   ·refine CT hc53<|Ws<|Ws<|Wg ?_
    refine WL.w (R.loadBN (i:=0) (vs:=[v41,v43,v45,(str x38.fReason),v47,(str x38.fBody),(int x38.fRequested),(int x38.fReceived)]) S rfl rfl lay36 rfl rfl)<|B hy33 fun r54 hr54 hy33=>W.call S rfl (zJG S.holds x38 R42 R44 R46 R48 hr54) ?_
    rintro v55 w56 H57 hle58 S rfl
    have hA24:=At.mono hA24 hle58 (by simp)
    have Rp_t0:=Sl.mono Rp_t0 hle58
    have Rp_t1:=Sl.mono Rp_t1 hle58
    have R42:=Sl.mono R42 hle58
    have R44:=Sl.mono R44 hle58
    have R46:=Sl.mono R46 hle58
    have R48:=Sl.mono R48 hle58
    refine No<|We ?_
    rcases condE hy33 with ⟨hc59,hy33⟩ | ⟨hc59,hy33⟩
    ·refine CT hc59<|Ws<|Wg<|A<|We ?_
     obtain rfl:=oi hy33
     obtain rfl:=hy34
     obtain rfl:=oi h
     refine WP.ret (Out.one rfl S rfl ?_)
     exact rfl
    refine CF hc59<|Wk<|Wx<|Wg<|Lg' h30 rfl<|M<|We ?_
    obtain rfl:=oi hy33
    exact ⟨rfl,⟨H57,h26,h27,h28,rfl,hA24,Rp_t0,Rp_t1,(S.drop _ (.cons _ .slnil))⟩⟩
   refine CF hc53<|Wk<|Ws<|Wg<|Fc' h26 ?_
   have hA60:=At.add hA24 0 (by simp)
   refine Lq S hA60 ?_
   refine WL.w (R.loadBN (i:=0) (vs:=[v41,v43,v45,(str x38.fReason),v47,(str x38.fBody),(int x38.fRequested),(int x38.fReceived)]) S rfl rfl lay36 rfl rfl)<|B hy33 fun r61 hr61 hy33=>W.call S rfl (zJg S.holds p_t.fAxes x38 Rp_t0 R42 R44 R46 R48 hr61) ?_
   rintro v62 w63 H64 hle65 S rfl
   have hA24:=At.mono hA24 hle65 (by simp)
   have Rp_t0:=Sl.mono Rp_t0 hle65
   have Rp_t1:=Sl.mono Rp_t1 hle65
   have R42:=Sl.mono R42 hle65
   have R44:=Sl.mono R44 hle65
   have R46:=Sl.mono R46 hle65
   have R48:=Sl.mono R48 hle65
   refine No<|M ?_
   obtain ⟨H66,hle67,hs68,_,S⟩:=S.settle (i:=0) rfl
   replace S:St w0 H0 _ H66 []:=S
   have hA69:At H66 ⟨b49,0,none⟩ [v41,v43,v45,(str x38.fReason),v47,(str x38.fBody),(int x38.fRequested),(int x38.fReceived)]:=⟨_,_,rfl,hs68,[],by simp⟩
   have hA24:=At.mono hA24 hle67 (by simp)
   have Rp_t0:=Sl.mono Rp_t0 hle67
   have Rp_t1:=Sl.mono Rp_t1 hle67
   have R42:=Sl.mono R42 hle67
   have R44:=Sl.mono R44 hle67
   have R46:=Sl.mono R46 hle67
   have R48:=Sl.mono R48 hle67
   refine B hy33 fun b81 hg71 hy33=>WL.grpw 8 [45,46,47,48,49,50,51] 52 (boo b81) (fun w=>∃ H':Hp,H66.le H'∧St w0 H0 w H' []) ?_ ?_
   ·rcases boolE (!r61) with hb70 | hb70
    ·replace hg71:=condT hg71 hb70
     refine Gn hb70<|Gn hb70<|Gn hb70<|Gn hb70<|Gn hb70<|Gn hb70<|Gn hb70<|Pt hb70 ?_
     exact We ⟨(congrArg boo (oi hg71)),ag,⟨H66,(Hp.le.refl _),S⟩⟩
    replace hg71:=condF hg71 hb70
    refine Gy hb70<|Fc' h26 ?_
    have hA72:=At.add hA24 1 (by simp)
    refine Gy hb70 ?_
    refine Lq S hA72<|Gy hb70<|M<|Gy hb70<|B hg71 fun l73 hl73 hg71=>W.subHi (α:=GEntry) Rp_t1 rfl rfl el23 hl73 ?_
    intro v74 R75
    refine Gy hb70 ?_
    refine WL.w (R.mkFunc (vs:=[(.pointer (some ⟨b1,0,none⟩)),(.pointer (some ⟨b49,0,none⟩))]) (mapC h26 (mapC rfl mapN)))<|Gy hb70<|B hg71 fun r76 hr76 hg71=>W.call S rfl (zGV S.holds l73 (fun x0=>zEu x0 p_t x38) R75 (fun hle hw x0=>fun q0_0 q0_1 q0_2 q0_4 r h=>zIj hw x0 p_t x38 q0_0 q0_1 q0_2 q0_4 (At.mono hA24 hle (by simp)) (Sl.mono Rp_t0 hle) (Sl.mono Rp_t1 hle) (At.mono hA69 hle (by simp)) (Sl.mono R42 hle) (Sl.mono R44 hle) (Sl.mono R46 hle) (Sl.mono R48 hle) h) hr76) ?_
    rintro v77 w78 H79 hle80 S rfl
    have hA24:=At.mono hA24 hle80 (by simp)
    have Rp_t0:=Sl.mono Rp_t0 hle80
    have Rp_t1:=Sl.mono Rp_t1 hle80
    refine Gy hb70<|Ld<|Pf hb70 ?_
    exact We ⟨(congrArg boo (oi hg71)),ag,⟨H79,hle80,S⟩⟩
   intro us w83 ⟨H82,hle84,S⟩
   have hA24:=At.mono hA24 hle84 (by simp)
   have Rp_t0:=Sl.mono Rp_t0 hle84
   have Rp_t1:=Sl.mono Rp_t1 hle84
   refine We ?_
   rcases condE hy33 with ⟨hc85,hy33⟩ | ⟨hc85,hy33⟩
   ·refine CT hc85<|Ws<|Wg<|A<|We ?_
    obtain rfl:=oi hy33
    obtain rfl:=hy34
    obtain rfl:=oi h
    refine WP.ret (Out.one rfl S rfl ?_)
    exact rfl
   refine CF hc85<|Wk<|Wg<|Lg' h30 rfl<|M<|We ?_
   obtain rfl:=oi hy33
   exact ⟨rfl,⟨H82,h26,h27,h28,rfl,hA24,Rp_t0,Rp_t1,S⟩⟩
  refine CF hc37<|Wx ?_
  obtain rfl:=oi hy33
  obtain rfl:=hy34
  exact ⟨H25,S⟩
 intro f w hM
 rcases r35 with _ | e
 ·obtain ⟨H31,S⟩:=hM
  refine Ws<|Wg<|A<|We ?_
  obtain rfl:=oi h
  refine WP.ret (Out.one rfl S rfl ?_)
  exact rfl
 exact hM.elim
theorem zJi {w0:World} {H0:Hp} (hw:Holds w0 H0) {r:Bool} (h:zGP=some r) :
  Con Tryz.prog 13 [] w0 H0 (fun H' v=>v=(boo r)):=by
 refine Con.mk (N:=51) Tryz.func13 rfl rfl kr rfl ?_
 have S:=St.start hw
 refine Ws<|Wg<|A<|We<|Ws<|Wg<|W.bslice (α:=Str) [(str [101,110]),(str [102,114])] ([[101,110],[102,114]]:List Str) S el34 rfl rfl rfl (by decide) (Go.Eng.encS ⟨rfl,rfl⟩ (Go.Eng.encS ⟨rfl,rfl⟩ enc0)) ?_
 intro u1 w2 H3 hle4 R5 S
 refine WL.w (R.build [(0,(str [97,99,99,101,112,116,45,108,97,110,103,117,97,103,101])),(1,u1)] [(str [97,99,99,101,112,116,45,108,97,110,103,117,97,103,101]),u1] bp68 zer68 rfl (by obtain ⟨_,_,rfl,_⟩:=R5; rfl))<|W.bslice (α:=GAxis) [(agg [(str [97,99,99,101,112,116,45,108,97,110,103,117,97,103,101]),u1])] ([(⟨[97,99,99,101,112,116,45,108,97,110,103,117,97,103,101],([[101,110],[102,114]]:List Str)⟩:GAxis)]:List GAxis) S el22 rfl rfl rfl (by decide) (Go.Eng.encS ⟨rfl,_,rfl,R5⟩ enc0) ?_
 intro u6 w7 H8 hle9 R10 S
 refine A<|We<|Ws<|Wg ?_
 refine WL.w (R.build [] [(.slice none 0 0),(.slice none 0 0)] bp25 zer25 rfl rfl)<|W.bslice (α:=Str) [(str [101,110])] ([[101,110]]:List Str) S el34 rfl rfl rfl (by decide) (Go.Eng.encS ⟨rfl,rfl⟩ enc0) ?_
 intro u11 w12 H13 hle14 R15 S
 have R10:=Sl.mono R10 hle14
 refine W.bslice (α:=Str) [(str [102,114])] ([[102,114]]:List Str) S el34 rfl rfl rfl (by decide) (Go.Eng.encS ⟨rfl,rfl⟩ enc0) ?_
 intro u16 w17 H18 hle19 R20 S
 have R10:=Sl.mono R10 hle19
 have R15:=Sl.mono R15 hle19
 refine W.bslice (α:=(List Str)) [u11,u16] ([([[101,110]]:List Str),([[102,114]]:List Str)]:List (List Str)) S el33 rfl rfl rfl (by decide) (Go.Eng.encS ⟨(by rw [Sl.cellsOne R15]; rfl),_,(by rw [Sl.cellsOne R15]),R15⟩ (Go.Eng.encS ⟨(by rw [Sl.cellsOne R20]; rfl),_,(by rw [Sl.cellsOne R20]),R20⟩ enc0)) ?_
 intro u21 w22 H23 hle24 R25 S
 have R10:=Sl.mono R10 hle24
 refine WL.w (R.build [(0,u21),(5,(str [49]))] [u21,(.slice none 0 0),(.slice none 0 0),(str []),(.slice none 0 0),(str [49]),(int 0),(int 0)] bp36 zer36 rfl (by obtain ⟨_,_,rfl,_⟩:=R25; rfl))<|M<|B h fun r26 hr26 h=>W.call S rfl (zIV S.holds (⟨([]:List GAxis),([]:List GEntry)⟩:GTable) (⟨([([[101,110]]:List Str),([[102,114]]:List Str)]:List (List Str)),([]:List Str),([]:List Str),[],([]:List GField),[49],0,0⟩:GEntry) ([(⟨[97,99,99,101,112,116,45,108,97,110,103,117,97,103,101],([[101,110],[102,114]]:List Str)⟩:GAxis)]:List GAxis) 5 Sl.nil Sl.nil R25 Sl.nil Sl.nil Sl.nil R10 hr26) ?_
 rintro v27 w28 H29 hle30 S ⟨u31,u33,rfl,R32,R34⟩
 have R10:=Sl.mono R10 hle30
 refine W.alloc [(.slice none 0 0),(.slice none 0 0)] S zer25 ?_
 intro b35 w36 S
 refine W.store (i:=0) [u31,u33] S rfl rfl rfl lay25 rfl (AllOne.all (l:=[u31,u33]) (.cons (Sl.oneC R32) (.cons (Sl.oneC R34) .nil))) (Nat.le_of_ble_eq_true rfl) rfl ?_
 intro w37 S
 refine We<|Ws<|Wg ?_
 refine WL.w (R.loadBN (i:=0) (vs:=[u31,u33]) S rfl rfl lay25 rfl rfl)<|W.bslice (α:=Str) [(str [102,114])] ([[102,114]]:List Str) S el34 rfl rfl rfl (by decide) (Go.Eng.encS ⟨rfl,rfl⟩ enc0) ?_
 intro u38 w39 H40 hle41 R42 S
 have R10:=Sl.mono R10 hle41
 have R32:=Sl.mono R32 hle41
 have R34:=Sl.mono R34 hle41
 refine W.bslice (α:=(List Str)) [u38] ([([[102,114]]:List Str)]:List (List Str)) S el33 rfl rfl rfl (by decide) (Go.Eng.encS ⟨(by rw [Sl.cellsOne R42]; rfl),_,(by rw [Sl.cellsOne R42]),R42⟩ enc0) ?_
 intro u43 w44 H45 hle46 R47 S
 have R10:=Sl.mono R10 hle46
 have R32:=Sl.mono R32 hle46
 have R34:=Sl.mono R34 hle46
 refine WL.w (R.build [(0,u43),(5,(str [50]))] [u43,(.slice none 0 0),(.slice none 0 0),(str []),(.slice none 0 0),(str [50]),(int 0),(int 0)] bp36 zer36 rfl (by obtain ⟨_,_,rfl,_⟩:=R47; rfl))<|M<|B h fun r48 hr48 h=>W.call S rfl (zIV S.holds r26 (⟨([([[102,114]]:List Str)]:List (List Str)),([]:List Str),([]:List Str),[],([]:List GField),[50],0,0⟩:GEntry) ([(⟨[97,99,99,101,112,116,45,108,97,110,103,117,97,103,101],([[101,110],[102,114]]:List Str)⟩:GAxis)]:List GAxis) 5 R32 R34 R47 Sl.nil Sl.nil Sl.nil R10 hr48) ?_
 rintro v49 w50 H51 hle52 S ⟨u53,u55,rfl,R54,R56⟩
 refine W.store (i:=2) [u53,u55] S rfl rfl rfl lay25 rfl (AllOne.all (l:=[u53,u55]) (.cons (Sl.oneC R54) (.cons (Sl.oneC R56) .nil))) (Nat.le_of_ble_eq_true rfl) rfl ?_
 intro w57 S
 refine We<|Ws<|Wg ?_
 refine WL.w (R.loadBN (i:=2) (vs:=[u53,u55]) S rfl rfl lay25 rfl rfl) ?_
 refine WL.w (R.build [(0,(str [65,99,99,101,112,116,45,76,97,110,103,117,97,103,101])),(1,(str [101,110]))] [(str [65,99,99,101,112,116,45,76,97,110,103,117,97,103,101]),(str [101,110])] bp64 zer64 rfl rfl)<|W.bslice (α:=GField) [(agg [(str [65,99,99,101,112,116,45,76,97,110,103,117,97,103,101]),(str [101,110])])] ([(⟨[65,99,99,101,112,116,45,76,97,110,103,117,97,103,101],[101,110]⟩:GField)]:List GField) S el26 rfl rfl rfl (by decide) (Go.Eng.encS ⟨rfl,rfl⟩ enc0) ?_
 intro u58 w59 H60 hle61 R62 S
 have R54:=Sl.mono R54 hle61
 have R56:=Sl.mono R56 hle61
 refine B h fun r63 hr63 h=>W.call S rfl (zHx S.holds r48 ([(⟨[65,99,99,101,112,116,45,76,97,110,103,117,97,103,101],[101,110]⟩:GField)]:List GField) true R54 R56 R62 hr63) ?_
 rintro v64 w65 H66 hle67 S rfl
 have R54:=Sl.mono R54 hle67
 have R56:=Sl.mono R56 hle67
 refine M ?_
 refine Ex ?_
 refine Ex<|A<|A<|We<|Ws<|Wg<|Fb ?_
 refine Lo 3 S<|Nq R56<|Le ?_
 refine M<|B h fun b82 hg69 h=>WL.grp 7 [33,34,35,36,37,38] 39 (boo b82) ?_ ?_
 ·rcases boolE ((r48.fEntries.length:Int)==1) with hb68 | hb68
  ·replace hg69:=condT hg69 hb68
   refine Gy hb68<|Fb<|Gy hb68 ?_
   refine Lo 3 S<|Gy hb68<|B hg69 fun x70 hx70 hg69=>W.idx (α:=GEntry) R56 rfl rfl el23 hx70 ?_
   rintro a71 _ hA72 ⟨v73,v75,v77,v79,rfl,R74,R76,R78,R80⟩
   refine Gy hb68<|Fc ?_
   have hA81:=At.add hA72 5 (by simp)
   refine Gy hb68 ?_
   refine Lq S hA81<|Gy hb68<|Na<|Pt hb68 ?_
   exact We ⟨(congrArg boo (oi hg69)),ag,rfl⟩
  replace hg69:=condF hg69 hb68
  refine Gn hb68<|Gn hb68<|Gn hb68<|Gn hb68<|Gn hb68<|Gn hb68<|Pf hb68 ?_
  exact We ⟨(congrArg boo (oi hg69)),ag,rfl⟩
 intro us
 refine M ?_
 refine WL.grp 3 [41,42] 43 (boo (b82&&(r63.1==(-1)))) ?_ ?_
 ·rcases boolE b82 with hb83 | hb83
  ·refine Gy hb83<|M<|Gy hb83<|Le<|Pt hb83 ?_
   exact We ⟨(andT hb83),ag,rfl⟩
  refine Gn hb83<|Gn hb83<|Pf hb83 ?_
  exact We ⟨(andF hb83),ag,rfl⟩
 intro us
 refine M ?_
 refine WL.grp 2 [45] 46 (boo ((b82&&(r63.1==(-1)))&&r63.2)) ?_ ?_
 ·rcases boolE (b82&&(r63.1==(-1))) with hb85 | hb85
  ·refine Gy hb85<|M<|Pt hb85 ?_
   exact We ⟨(andT hb85),ag,rfl⟩
  refine Gn hb85<|Pf hb85 ?_
  exact We ⟨(andF hb85),ag,rfl⟩
 intro us
 refine M<|B h fun b94 hg88 h=>WL.grpw 3 [48,49] 50 (boo b94) (fun w=>∃ H':Hp,H66.le H'∧St w0 H0 w H' [.row u58 64 2 ([(⟨[65,99,99,101,112,116,45,76,97,110,103,117,97,103,101],[101,110]⟩:GField)]:List GField).length,.row u43 34 1 ([([[102,114]]:List Str)]:List (List Str)).length,.row u38 9 1 ([[102,114]]:List Str).length,.box b35 25 [u53,u55],.row u21 34 1 ([([[101,110]]:List Str),([[102,114]]:List Str)]:List (List Str)).length,.row u16 9 1 ([[102,114]]:List Str).length,.row u11 9 1 ([[101,110]]:List Str).length,.row u6 68 2 ([(⟨[97,99,99,101,112,116,45,108,97,110,103,117,97,103,101],([[101,110],[102,114]]:List Str)⟩:GAxis)]:List GAxis).length,.row u1 9 1 ([[101,110],[102,114]]:List Str).length]) ?_ ?_
 ·rcases boolE ((b82&&(r63.1==(-1)))&&r63.2) with hb87 | hb87
  ·replace hg88:=condT hg88 hb87
   refine Gy hb87 ?_
   refine WL.w (R.loadBN (i:=3) (vs:=[u53,u55]) S rfl rfl lay25 rfl rfl)<|Gy hb87<|B hg88 fun r89 hr89 hg88=>W.call S rfl (zJh S.holds r48 5 R54 R56 hr89) ?_
   rintro v90 w91 H92 hle93 S rfl
   refine Pt hb87 ?_
   exact We ⟨(congrArg boo (oi hg88)),ag,⟨H92,hle93,S⟩⟩
  replace hg88:=condF hg88 hb87
  refine Gn hb87<|Gn hb87<|Pf hb87 ?_
  exact We ⟨(congrArg boo (oi hg88)),ag,⟨H66,(Hp.le.refl _),S⟩⟩
 intro us w96 ⟨H95,hle97,S⟩
 refine A<|We ?_
 obtain rfl:=oi h
 refine WP.ret (Out.one rfl S rfl ?_)
 exact rfl
end Go.Proofs
