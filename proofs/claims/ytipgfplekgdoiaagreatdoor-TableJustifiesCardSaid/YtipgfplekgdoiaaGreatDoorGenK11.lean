/- A part of the proof of laws of the seat: written by program over the translation. -/
import Derived.Test.YtipgfplekgdoiaaGreatDoorEng38
import Derived.Test.YtipgfplekgdoiaaGreatDoorEng32
import Derived.Test.YtipgfplekgdoiaaGreatDoorGenK10
namespace Go.Proofs
set_option maxHeartbeats 4000000
set_option maxRecDepth 10000
open Go.Eng Go.Eng.Pure
set_option linter.unusedVariables false
theorem zJF {w0:World} {H0:Hp} (hw:Holds w0 H0) (p_ppend:Int) (p_x1:Str) {r:(GPref×Bool)} (h:zFh p_ppend p_x1=some r) :
  Con Tryz.prog 146 [(int p_ppend),(str p_x1)] w0 H0 (fun H' v=>v=(.tuple ⟨[(agg [(str r.1.fRange),(int r.1.fQ)]),(boo r.2)]⟩)):=by
 refine Con.mk (N:=85) Tryz.func146 rfl rfl kr rfl ?_
 have S:=St.start hw
 refine Ws<|Wg ?_
 refine W.alloc [(str []),(int 0)] S zGc ?_
 intro b1 w2 S
 refine A<|We<|Ws<|Wg<|M<|B h fun r3 hr3 h=>W.call S rfl (zEj S.holds p_x1 hr3) ?_
 rintro v4 w5 H6 hle7 S ⟨u8,rfl,R9⟩
 refine M ?_
 refine Ex ?_
 refine Ex ?_
 refine Ex<|A<|A<|A<|We<|Ws<|Ws<|Wg<|M ?_
 refine No<|We ?_
 rcases condE h with ⟨hc10,h⟩ | ⟨hc10,h⟩
 ·refine CT hc10<|Ws<|Wg ?_
  refine WL.w (R.build [] [(str []),(int 0)] bp147 zGc rfl rfl) ?_
  refine W.store (i:=0) [(str []),(int 0)] S rfl rfl rfl zDM rfl rfl (Nat.le_of_ble_eq_true rfl) rfl ?_
  intro w11 S
  refine A<|We ?_
  obtain rfl:=oi h
  refine WP.ret (Out.two rfl S (Res.cellB (i:=0) (cs:=[(str []),(int 0)]) S rfl rfl zDM rfl rfl) rfl ?_)
  exact rfl
 refine CF hc10<|Wk<|Ws<|Wg<|A<|We<|Ws<|B h fun y_24 hr30 h=>WP.cut (fun f w=>∃ (H19:Hp),f 0=(int p_ppend)∧f 4=(ptr b1 0)∧f 6=(str r3.1)∧f 7=u8∧f 9=(int y_24)∧Sl (α:=GParam) H19 u8 r3.2.1∧St w0 H0 w H19 [.box b1 147 [(str []),(int 0)]]) ?_ ?_
 ·refine Wb ?_
  refine WP.loopM (zBb r3) (fun s f w=>match s with | y_17=>∃ (H12:Hp),f 0=(int p_ppend)∧f 4=(ptr b1 0)∧f 6=(str r3.1)∧f 7=u8∧f 9=(int y_17)∧Sl (α:=GParam) H12 u8 r3.2.1∧St w0 H0 w H12 [.box b1 147 [(str []),(int 0)]]) 0 y_24 hr30 ?_ ?_
  ·exact ⟨H6,rfl,rfl,rfl,rfl,rfl,R9,S⟩
  intro y_17 f w hI y26 hy27 hy28
  obtain ⟨H12,h13,h14,h15,h16,h18,R9,S⟩:=hI
  refine Ws<|Ws<|Wg<|M' h18<|M' h16<|Nq R9<|La<|M<|B hy27 fun b37 hg32 hy27=>WL.grp 7 [27,28,29,30,31,32] 33 (boo b37) ?_ ?_
  ·rcases boolE (decide (y_17<(r3.2.1.length:Int))) with hb31 | hb31
   ·replace hg32:=condT hg32 hb31
    refine Gy hb31<|M' h16<|Gy hb31<|M' h18<|Gy hb31<|B hg32 fun x33 hx33 hg32=>W.idx (α:=GParam) R9 rfl rfl el156 hx33 ?_
    rintro a34 _ hA35 rfl
    refine Gy hb31<|Fc ?_
    have hA36:=At.add hA35 0 (by simp)
    refine Gy hb31 ?_
    refine Lq S hA36<|Gy hb31<|Nb<|Pt hb31 ?_
    exact We ⟨(congrArg boo (oi hg32)),ag,rfl⟩
   replace hg32:=condF hg32 hb31
   refine Gn hb31<|Gn hb31<|Gn hb31<|Gn hb31<|Gn hb31<|Gn hb31<|Pf hb31 ?_
   exact We ⟨(congrArg boo (oi hg32)),ag,rfl⟩
  intro us
  refine We ?_
  rcases condE hy27 with ⟨hc38,hy27⟩ | ⟨hc38,hy27⟩
  ·refine CT hc38<|Wk<|Wb<|Wg<|M' h18<|Lg<|A<|We ?_
   obtain rfl:=oi hy27
   exact ⟨rfl,⟨H12,h13,h14,h15,h16,rfl,R9,S⟩⟩
  refine CF hc38<|Wx ?_
  obtain rfl:=oi hy27
  obtain rfl:=hy28
  exact ⟨H12,h13,h14,h15,h16,h18,R9,S⟩
 rintro f w ⟨H19,h20,h21,h22,h23,h25,R9,S⟩
 refine Ws<|Wg<|A<|We<|Ws<|Ws<|Wg<|M' h25<|M' h23<|Nq R9<|La<|We<|B h fun j48 hj47 h=>WP.cut (fun f w=>match j48 with | .inl y_45=>∃ (H39:Hp),f 0=(int p_ppend)∧f 4=(ptr b1 0)∧f 6=(str r3.1)∧f 7=u8∧f 9=(int y_24)∧f 10=(int y_45)∧Sl (α:=GParam) H39 u8 r3.2.1∧St w0 H0 w H39 [.box b1 147 [(str []),(int 0)]] | .inr _=>False) ?_ ?_
 ·rcases condE hj47 with ⟨hc49,hj47⟩ | ⟨hc49,hj47⟩
  ·refine CT hc49<|Ws<|Wg<|M' h23<|M' h25<|B hj47 fun x50 hx50 hj47=>W.idx (α:=GParam) R9 rfl rfl el156 hx50 ?_
   rintro a51 _ hA52 rfl
   refine Fc ?_
   have hA53:=At.add hA52 1 (by simp)
   refine Lq S hA53<|B hj47 fun r54 hr54 hj47=>W.call S rfl (zI5 S.holds x50.fValue hr54) ?_
   rintro v55 w56 H57 hle58 S rfl
   have R9:=Sl.mono R9 hle58
   refine M ?_
   refine Ex ?_
   refine Ex<|A<|A<|We<|Ws<|Wg<|M<|No<|We ?_
   rcases condE hj47 with ⟨hc59,hj47⟩ | ⟨hc59,hj47⟩
   ·refine CT hc59<|Ws<|Wg ?_
    refine WL.w (R.build [] [(str []),(int 0)] bp147 zGc rfl rfl) ?_
    refine W.store (i:=0) [(str []),(int 0)] S h21 rfl rfl zDM rfl rfl (Nat.le_of_ble_eq_true rfl) rfl ?_
    intro w60 S
    refine A<|We ?_
    obtain rfl:=oi hj47
    obtain rfl:=oi h
    refine WP.ret (Out.two rfl S (Res.cellB (i:=0) (cs:=[(str []),(int 0)]) S h21 rfl zDM rfl rfl) rfl ?_)
    exact rfl
   refine CF hc59<|Wk ?_
   obtain rfl:=oi hj47
   exact ⟨H57,h20,h21,h22,h23,h25,rfl,R9,S⟩
  refine CF hc49<|Wk ?_
  obtain rfl:=oi hj47
  exact ⟨H19,h20,h21,h22,h23,h25,rfl,R9,S⟩
 intro f w hM
 rcases j48 with y_45 | e
 ·obtain ⟨H39,h40,h41,h42,h43,h44,h46,R9,S⟩:=hM
  refine Ws<|Ws<|Wg<|M' h40<|We<|B h fun j102 hj101 h=>WP.cut (fun f w=>match j102 with | .inl y_97=>∃ (H93:Hp),f 0=(int p_ppend)∧f 4=(ptr b1 0)∧f 6=(str r3.1)∧f 8=(boo y_97)∧f 9=(int y_24)∧f 10=(int y_45)∧St w0 H0 w H93 [.box b1 147 [(str []),(int 0)]] | .inr _=>False) ?_ ?_
  ·refine Wb<|Ws<|Wg<|Le<|A<|We ?_
   rcases condE hj101 with ⟨hc103,hj101⟩ | ⟨hc103,hj101⟩
   ·refine CT hc103<|Ws<|Wg<|M' h42<|B hj101 fun r104 hr104 hj101=>W.call S rfl (zDY S.holds r3.1 hr104) ?_
    rintro v105 w106 H107 hle108 S ⟨u109,rfl,R110⟩
    have R9:=Sl.mono R9 hle108
    refine M ?_
    refine Ex ?_
    refine Ex ?_
    refine W.alloc [(str []),(str []),(.slice none 0 0)] S zC7 ?_
    intro b111 w112 S
    refine W.store (i:=0) [(str r104.1.fType),(str r104.1.fSub),u109] S rfl rfl rfl zAw rfl (AllOne.all (l:=[(str r104.1.fType),(str r104.1.fSub),u109]) (.cons rfl (.cons rfl (.cons (Sl.oneC R110) .nil)))) (Nat.le_of_ble_eq_true rfl) rfl ?_
    intro w113 S
    refine A<|We<|Ws<|Wg<|M' h43<|M' h44<|B hj101 fun l114 hl114 hj101=>W.subHi (α:=GParam) R9 rfl rfl el156 hl114 ?_
    intro v115 R116
    refine Fb ?_
    refine W.storeSl (α:=GParam) (i:=0) [(str r104.1.fType),(str r104.1.fSub),v115] S R116 rfl rfl rfl zGh (Nat.le_of_ble_eq_true rfl) rfl ?_
    intro w117 S
    refine We<|Ws<|Wg ?_
    refine WL.w (R.loadBN (i:=0) (vs:=[(str r104.1.fType),(str r104.1.fSub),v115]) S rfl rfl zAw rfl rfl)<|B hj101 fun r118 hr118 hj101=>W.call S rfl (zHW S.holds (⟨r104.1.fType,r104.1.fSub,l114⟩:GMediaType) R116 hr118) ?_
    rintro v119 w120 H121 hle122 S rfl
    refine M' h46 ?_
    refine WL.w (R.build [(0,(str r118)),(1,(int y_45))] [(str r118),(int y_45)] bp147 zGc rfl rfl)<|M ?_
    refine W.store (i:=1) [(str r118),(int y_45)] S h41 rfl rfl zDM rfl rfl (Nat.le_of_ble_eq_true rfl) rfl ?_
    intro w123 S
    refine A<|We ?_
    obtain rfl:=oi hj101
    obtain rfl:=oi h
    refine WP.ret (Out.two rfl S (Res.cellB (i:=1) (cs:=[(str r118),(int y_45)]) S h41 rfl zDM rfl rfl) rfl ?_)
    exact rfl
   refine CF hc103<|Ws<|Wg<|Le<|A<|We ?_
   rcases condE hj101 with ⟨hc124,hj101⟩ | ⟨hc124,hj101⟩
   ·refine CT hc124<|Wg<|M' h42<|B hj101 fun r125 hr125 hj101=>W.call S rfl (zHS S.holds r3.1 hr125) ?_
    rintro v126 w127 H128 hle129 S rfl
    refine A<|We ?_
    obtain rfl:=oi hj101
    exact ⟨H128,h40,h41,h42,rfl,h44,h46,S⟩
   refine CF hc124<|Wg<|M' h42<|B hj101 fun r130 hr130 hj101=>W.call S rfl (zAu S.holds r3.1 hr130) ?_
   rintro v131 w132 H133 hle134 S rfl
   refine A<|We ?_
   obtain rfl:=oi hj101
   exact ⟨H133,h40,h41,h42,rfl,h44,h46,S⟩
  intro f w hM
  rcases j102 with y_97 | e
  ·obtain ⟨H93,h94,h95,h96,h98,h99,h100,S⟩:=hM
   refine Ws<|Wg<|M' h94<|M' h96<|B h fun r135 hr135 h=>W.call S rfl (zBk S.holds p_ppend r3.1 hr135) ?_
   rintro v136 w137 H138 hle139 S rfl
   refine M' h100 ?_
   refine WL.w (R.build [(0,(str r135)),(1,(int y_45))] [(str r135),(int y_45)] bp147 zGc rfl rfl)<|M' h98<|M ?_
   refine WL.grp 3 [82,83] 84 (boo (y_97&&(y_24==0))) ?_ ?_
   ·rcases boolE y_97 with hb140 | hb140
    ·refine Gy hb140<|M' h99<|Gy hb140<|Le<|Pt hb140 ?_
     exact We ⟨(andT hb140),ag,rfl⟩
    refine Gn hb140<|Gn hb140<|Pf hb140 ?_
    exact We ⟨(andF hb140),ag,rfl⟩
   intro us
   refine W.store (i:=0) [(str r135),(int y_45)] S h95 rfl rfl zDM rfl rfl (Nat.le_of_ble_eq_true rfl) rfl ?_
   intro w142 S
   refine A<|We ?_
   obtain rfl:=oi h
   refine WP.ret (Out.two rfl S (Res.cellB (i:=0) (cs:=[(str r135),(int y_45)]) S h95 rfl zDM rfl rfl) rfl ?_)
   exact rfl
  exact hM.elim
 exact hM.elim
theorem zJk {w0:World} {H0:Hp} (hw:Holds w0 H0) (p_kind:Int) (p_l:(List GField)) {vp_l:Value} (Rp_l:Sl (α:=GField) H0 vp_l p_l) {r:((List GPref)×Bool)} (h:zFK p_kind p_l=some r) :
  Con Tryz.prog 117 [(int p_kind),vp_l] w0 H0 (fun H' v=>∃ u1:Value,v=(.tuple ⟨[u1,(boo r.2)]⟩)∧Sl (α:=GPref) H' u1 r.1):=by
 refine Con.mk (N:=46) Tryz.func117 rfl rfl kr rfl ?_
 have S:=St.start hw
 refine Ws<|Wg<|A<|A<|We<|Ws<|Ws<|Wg<|M<|B h fun r1 hr1 h=>W.call S rfl (zB8 S.holds p_kind hr1) ?_
 rintro v2 w3 H4 hle5 S rfl
 have Rp_l:=Sl.mono Rp_l hle5
 refine Na<|M<|B h fun b18 hg7 h=>WL.grpw 6 [15,16,17,18,19] 20 (boo b18) (fun w=>∃ H':Hp,H4.le H'∧St w0 H0 w H' []) ?_ ?_
 ·rcases boolE (r1==[]) with hb6 | hb6
  ·replace hg7:=condT hg7 hb6
   refine Gn hb6<|Gn hb6<|Gn hb6<|Gn hb6<|Gn hb6<|Pt hb6 ?_
   exact We ⟨(congrArg boo (oi hg7)),ag,⟨H4,(Hp.le.refl _),S⟩⟩
  replace hg7:=condF hg7 hb6
  refine Gy hb6<|M<|Gy hb6<|M<|Gy hb6<|B hg7 fun r8 hr8 hg7=>W.call S rfl (zB8 S.holds p_kind hr8) ?_
  rintro v9 w10 H11 hle12 S rfl
  have Rp_l:=Sl.mono Rp_l hle12
  refine Gy hb6<|B hg7 fun r13 hr13 hg7=>W.call S rfl (zLE S.holds p_l r8 Rp_l hr13) ?_
  rintro v14 w15 H16 hle17 S rfl
  have Rp_l:=Sl.mono Rp_l hle17
  refine Gy hb6<|No<|Pf hb6 ?_
  exact We ⟨(congrArg boo (oi hg7)),ag,⟨H16,(hle12.trans hle17),S⟩⟩
 intro us w20 ⟨H19,hle21,S⟩
 have Rp_l:=Sl.mono Rp_l hle21
 refine We ?_
 rcases condE h with ⟨hc22,h⟩ | ⟨hc22,h⟩
 ·refine CT hc22<|Ws<|Wg<|A<|A<|We ?_
  obtain rfl:=oi h
  refine WP.ret (Out.two rfl S rfl rfl ?_)
  exact ⟨_,rfl,Sl.nil⟩
 refine CF hc22<|Wk<|Ws<|Wg<|M<|M<|B h fun r23 hr23 h=>W.call S rfl (zB8 S.holds p_kind hr23) ?_
 rintro v24 w25 H26 hle27 S rfl
 have Rp_l:=Sl.mono Rp_l hle27
 refine B h fun r28 hr28 h=>W.call S rfl (zGj S.holds p_l r23 Rp_l hr28) ?_
 rintro v29 w30 H31 hle32 S R33
 refine A<|We<|Ws<|Wg<|A<|We<|Ws<|Ws<|Wg<|A<|We ?_
 have S:=S.addNil 147 2
 refine B h fun out_44 hr52 h=>WP.cut (fun f w=>∃ (H43:Hp) (v45:Value),f 7=v45∧Sl (α:=GPref) H43 v45 out_44∧St w0 H0 w H43 [.row v45 147 2 out_44.length]) ?_ ?_
 ·refine Wb ?_
  refine WP.loopM (zDL p_kind r28) (fun s f w=>match s with | (out_37,i_41)=>∃ (H34:Hp) (v38:Value),f 0=(int p_kind)∧f 6=v29∧f 7=v38∧f 8=(int i_41)∧Sl (α:=Str) H34 v29 r28∧Sl (α:=GPref) H34 v38 out_37∧St w0 H0 w H34 [.row v38 147 2 out_37.length]) (([]:List GPref),0) out_44 hr52 ?_ ?_
  ·exact ⟨H31,.slice none 0 0,rfl,rfl,rfl,rfl,R33,Sl.nil,S⟩
  intro s f w hI y48 hy49 hy50
  obtain ⟨out_37,i_41⟩:=s
  obtain ⟨H34,v38,h35,h36,h40,h42,R33,R39,S⟩:=hI
  refine Ws<|Ws<|Wg<|M' h42<|M' h36<|Nq R33<|La<|We ?_
  rcases condE hy49 with ⟨hc53,hy49⟩ | ⟨hc53,hy49⟩
  ·refine CT hc53<|Wk<|Ws<|Wb<|Ws<|Wg<|M' h35<|M' h36<|M' h42<|B hy49 fun x54 hx54 hy49=>W.idx (α:=Str) R33 rfl rfl el34 hx54 ?_
   rintro a55 _ hA56 rfl
   refine Lq S hA56<|B hy49 fun r57 hr57 hy49=>W.call S rfl (zJF S.holds p_kind x54 hr57) ?_
   rintro v58 w59 H60 hle61 S rfl
   have R33:=Sl.mono R33 hle61
   have R39:=Sl.mono R39 hle61
   refine M ?_
   refine Ex ?_
   refine Ex ?_
   refine W.alloc [(str []),(int 0)] S zGc ?_
   intro b62 w63 S
   refine W.store (i:=0) [(str r57.1.fRange),(int r57.1.fQ)] S rfl rfl rfl zDM rfl rfl (Nat.le_of_ble_eq_true rfl) rfl ?_
   intro w64 S
   refine A<|We<|Ws<|Wg<|M<|We ?_
   rcases condE hy49 with ⟨hc65,hy49⟩ | ⟨hc65,hy49⟩
   ·refine CT hc65<|Wg<|M' h40 ?_
    refine WL.w (R.loadBN (i:=0) (vs:=[(str r57.1.fRange),(int r57.1.fQ)]) S rfl rfl zDM rfl rfl)<|W.bslice (α:=GPref) [(agg [(str r57.1.fRange),(int r57.1.fQ)])] ([r57.1]:List GPref) S el122 rfl rfl rfl (by decide) (Go.Eng.encS ⟨rfl,rfl⟩ enc0) ?_
    intro u66 w67 H68 hle69 R70 S
    have R33:=Sl.mono R33 hle69
    have R39:=Sl.mono R39 hle69
    refine B hy49 fun l71 hl71 hy49=>W.app (α:=GPref) (i:=2) S el122 rfl rfl rfl R39 R70 hl71 ?_
    intro v72 w73 H74 hle75 R76 S
    have R33:=Sl.mono R33 hle75
    have R39:=Sl.mono R39 hle75
    refine A<|We<|Wg<|M' h42<|Lg<|A<|We ?_
    obtain rfl:=oi hy49
    exact ⟨rfl,⟨H74,v72,h35,h36,rfl,rfl,R33,R76,(S.drop _ (.cons _ (.cons _ (.cons_cons _ .slnil))))⟩⟩
   refine CF hc65<|Wk<|Wg<|M' h42<|Lg<|A<|We ?_
   obtain rfl:=oi hy49
   exact ⟨rfl,⟨H60,v38,h35,h36,h40,rfl,R33,R39,(S.drop _ (.cons _ (.cons_cons _ .slnil)))⟩⟩
  refine CF hc53<|Wx ?_
  obtain rfl:=oi hy49
  obtain rfl:=hy50
  exact ⟨H34,v38,h40,R39,S⟩
 rintro f w ⟨H43,v45,h47,R46,S⟩
 refine Ws<|Wg<|M' h47<|A<|A<|We ?_
 obtain rfl:=oi h
 refine WP.ret (Out.two rfl S rfl rfl ?_)
 exact ⟨_,rfl,R46⟩
theorem zHh {w0:World} {H0:Hp} (hw:Holds w0 H0) (p_ppend:GMediaType) (p_x1:GMediaType) {vp_ppend2:Value} {vp_x12:Value} (Rp_ppend2:Sl (α:=GParam) H0 vp_ppend2 p_ppend.fParams) (Rp_x12:Sl (α:=GParam) H0 vp_x12 p_x1.fParams) {r:Int} (h:zD2 p_ppend p_x1=some r) :
  Con Tryz.prog 228 [(agg [(str p_ppend.fType),(str p_ppend.fSub),vp_ppend2]),(agg [(str p_x1.fType),(str p_x1.fSub),vp_x12])] w0 H0 (fun H' v=>v=(int r)):=by
 refine Con.mk (N:=80) Tryz.func228 rfl rfl kr rfl ?_
 have S:=St.start hw
 refine Ws<|Wg ?_
 refine W.box [(str p_ppend.fType),(str p_ppend.fSub),vp_ppend2] S rfl rfl ?_
 intro b1 w2 S
 refine W.box [(str p_x1.fType),(str p_x1.fSub),vp_x12] S rfl rfl ?_
 intro b3 w4 S
 refine A<|We<|Ws<|Ws<|Wg<|Fb ?_
 refine Lo 1 S<|Na<|M ?_
 refine WL.grp 4 [12,13,14] 15 (boo ((p_ppend.fType==[42])&&(p_ppend.fSub==[42]))) ?_ ?_
 ·rcases boolE (p_ppend.fType==[42]) with hb5 | hb5
  ·refine Gy hb5<|Fb<|Gy hb5 ?_
   refine Lo 1 S<|Gy hb5<|Na<|Pt hb5 ?_
   exact We ⟨(andT hb5),ag,rfl⟩
  refine Gn hb5<|Gn hb5<|Gn hb5<|Pf hb5 ?_
  exact We ⟨(andF hb5),ag,rfl⟩
 intro us
 refine We ?_
 rcases condE h with ⟨hc7,h⟩ | ⟨hc7,h⟩
 ·refine CT hc7<|Ws<|Wg<|A<|We ?_
  obtain rfl:=oi h
  refine WP.ret (Out.one rfl S rfl ?_)
  exact rfl
 refine CF hc7<|Wk<|Ws<|Ws<|Wg<|Fb ?_
 refine Lo 1 S<|Fb ?_
 refine Lo 0 S<|Nb<|We ?_
 rcases condE h with ⟨hc8,h⟩ | ⟨hc8,h⟩
 ·refine CT hc8<|Ws<|Wg<|A<|We ?_
  obtain rfl:=oi h
  refine WP.ret (Out.one rfl S rfl ?_)
  exact rfl
 refine CF hc8<|Wk<|Ws<|Ws<|Wg<|Fb ?_
 refine Lo 1 S<|Na<|We ?_
 rcases condE h with ⟨hc9,h⟩ | ⟨hc9,h⟩
 ·refine CT hc9<|Ws<|Wg<|A<|We ?_
  obtain rfl:=oi h
  refine WP.ret (Out.one rfl S rfl ?_)
  exact rfl
 refine CF hc9<|Wk<|Ws<|Ws<|Wg<|Fb ?_
 refine Lo 1 S<|Fb ?_
 refine Lo 0 S<|Nb<|We ?_
 rcases condE h with ⟨hc10,h⟩ | ⟨hc10,h⟩
 ·refine CT hc10<|Ws<|Wg<|A<|We ?_
  obtain rfl:=oi h
  refine WP.ret (Out.one rfl S rfl ?_)
  exact rfl
 refine CF hc10<|Wk<|Ws<|Ws<|Wg<|A<|We<|B h fun r21 hr22 h=>WP.cut (fun f w=>match r21 with | .inl _=>∃ (H16:Hp),f 2=(ptr b1 0)∧Sl (α:=GParam) H16 vp_ppend2 p_ppend.fParams∧St w0 H0 w H16 [.box b1 158 [(str p_ppend.fType),(str p_ppend.fSub),vp_ppend2]] | .inr _=>False) ?_ ?_
 ·refine Wb ?_
  refine WP.loopM (zBm p_ppend p_x1) (fun s f w=>match s with | y_14=>∃ (H11:Hp),f 2=(ptr b1 0)∧f 3=(ptr b3 0)∧f 5=(int y_14)∧Sl (α:=GParam) H11 vp_x12 p_x1.fParams∧Sl (α:=GParam) H11 vp_ppend2 p_ppend.fParams∧St w0 H0 w H11 [.box b3 158 [(str p_x1.fType),(str p_x1.fSub),vp_x12],.box b1 158 [(str p_ppend.fType),(str p_ppend.fSub),vp_ppend2]]) 0 r21 hr22 ?_ ?_
  ·exact ⟨H0,rfl,rfl,rfl,Rp_x12,Rp_ppend2,S⟩
  intro y_14 f w hI y18 hy19 hy20
  obtain ⟨H11,h12,h13,h15,Rp_x12,Rp_ppend2,S⟩:=hI
  refine Ws<|Ws<|Wg<|M' h15<|Fb' h12 ?_
  refine Lo 1 S<|Nq Rp_ppend2<|La<|We ?_
  rcases condE hy19 with ⟨hc23,hy19⟩ | ⟨hc23,hy19⟩
  ·refine CT hc23<|Wk<|Ws<|Wb<|Ws<|Wg<|A<|We<|Ws<|Ws<|Wg<|A ?_
   refine We<|B hy19 fun y_36 hr42 hy19=>WP.cut (fun f w=>∃ (H32:Hp),f 2=(ptr b1 0)∧f 3=(ptr b3 0)∧f 5=(int y_14)∧f 6=(boo y_36)∧Sl (α:=GParam) H32 vp_x12 p_x1.fParams∧Sl (α:=GParam) H32 vp_ppend2 p_ppend.fParams∧St w0 H0 w H32 [.box b3 158 [(str p_x1.fType),(str p_x1.fSub),vp_x12],.box b1 158 [(str p_ppend.fType),(str p_ppend.fSub),vp_ppend2]]) ?_ ?_
   ·refine Wb ?_
    refine WP.loopM (zAy p_ppend p_x1 y_14) (fun s f w=>match s with | (y_28,y_30)=>∃ (H24:Hp),f 2=(ptr b1 0)∧f 3=(ptr b3 0)∧f 5=(int y_14)∧f 6=(boo y_28)∧f 7=(int y_30)∧Sl (α:=GParam) H24 vp_x12 p_x1.fParams∧Sl (α:=GParam) H24 vp_ppend2 p_ppend.fParams∧St w0 H0 w H24 [.box b3 158 [(str p_x1.fType),(str p_x1.fSub),vp_x12],.box b1 158 [(str p_ppend.fType),(str p_ppend.fSub),vp_ppend2]]) (false,0) y_36 hr42 ?_ ?_
    ·exact ⟨H11,h12,h13,h15,rfl,rfl,Rp_x12,Rp_ppend2,S⟩
    intro s f w hI y38 hy39 hy40
    obtain ⟨y_28,y_30⟩:=s
    obtain ⟨H24,h25,h26,h27,h29,h31,Rp_x12,Rp_ppend2,S⟩:=hI
    refine Ws<|Ws<|Wg<|M' h31<|Fb' h26 ?_
    refine Lo 0 S<|Nq Rp_x12<|La<|We ?_
    rcases condE hy39 with ⟨hc43,hy39⟩ | ⟨hc43,hy39⟩
    ·refine CT hc43<|Wk<|Ws<|Wb<|WP.quiet S kr kr<|QM' h29<|QM<|B hy39 fun b73 hg48 hy39=>WQ.grp 29 [45,46,47,48,49,50,51,52,53,54,55,56,57,58,59,60,61,62,63,64,65,66,67,68,69,70,71,72] 73 (boo b73) ?_ ?_
     ·rcases boolE y_28 with hb47 | hb47
      ·replace hg48:=condT hg48 hb47
       refine QGn hb47<|QGn hb47<|QGn hb47<|QGn hb47<|QGn hb47<|QGn hb47<|QGn hb47<|QGn hb47<|QGn hb47<|QGn hb47<|QGn hb47<|QGn hb47 ?_
       refine QGn hb47<|QGn hb47<|WQ.gund rfl rfl<|WQ.gund rfl rfl<|WQ.gund rfl rfl<|WQ.gund rfl rfl<|WQ.gund rfl rfl<|WQ.gund rfl rfl<|WQ.gund rfl rfl<|WQ.gund rfl rfl<|WQ.gund rfl rfl<|WQ.gund rfl rfl ?_
       refine WQ.gund rfl rfl<|WQ.gund rfl rfl<|WQ.gund rfl rfl<|QGn hb47<|QPt hb47 ?_
       exact WQ.nil ⟨(congrArg boo (oi hg48)),ag⟩
      replace hg48:=condF hg48 hb47
      refine QGy hb47<|QFb' h25<|QGy hb47 ?_
      refine WQ.val (fun w hw=>by obtain ⟨_,hq,S⟩:=hw; exact (R.loadB (i:=1) (v:=vp_ppend2) S rfl rfl zGh rfl))<|QGy hb47<|QM' h27<|QGy hb47<|B hg48 fun x49 hx49 hg48=>WQ.idx (α:=GParam) Rp_ppend2 rfl rfl el156 hx49 ?_
      rintro a50 _ hA51 rfl
      refine QGy hb47<|QFc ?_
      have hA52:=At.add hA51 0 (by simp)
      refine QGy hb47 ?_
      refine WQ.val (fun w hw=>by obtain ⟨_,hq,S⟩:=hw; exact (R.loadH (v:=str x49.fName) S rfl (At.mono hA52 hq (by simp)) lay9 rfl))<|QGy hb47<|QFb' h26<|QGy hb47 ?_
      refine WQ.val (fun w hw=>by obtain ⟨_,hq,S⟩:=hw; exact (R.loadB (i:=0) (v:=vp_x12) S rfl rfl zGh rfl))<|QGy hb47<|QM' h31<|QGy hb47<|B hg48 fun x53 hx53 hg48=>WQ.idx (α:=GParam) Rp_x12 rfl rfl el156 hx53 ?_
      rintro a54 _ hA55 rfl
      refine QGy hb47<|QFc ?_
      have hA56:=At.add hA55 0 (by simp)
      refine QGy hb47 ?_
      refine WQ.val (fun w hw=>by obtain ⟨_,hq,S⟩:=hw; exact (R.loadH (v:=str x53.fName) S rfl (At.mono hA56 hq (by simp)) lay9 rfl))<|QGy hb47<|QNa<|QGy hb47<|QM<|B hg48 fun b72 hg58 hg48=>WQ.grp 14 [59,60,61,62,63,64,65,66,67,68,69,70,71] 72 (boo b72) ?_ ?_
      ·rcases boolE (x49.fName==x53.fName) with hb57 | hb57
       ·replace hg58:=condT hg58 hb57
        refine QGy hb57<|QFb' h25<|QGy hb57 ?_
        refine WQ.val (fun w hw=>by obtain ⟨_,hq,S⟩:=hw; exact (R.loadB (i:=1) (v:=vp_ppend2) S rfl rfl zGh rfl))<|QGy hb57<|QM' h27<|QGy hb57<|B hg58 fun x59 hx59 hg58=>WQ.idx (α:=GParam) Rp_ppend2 rfl rfl el156 hx59 ?_
        rintro a60 _ hA61 rfl
        refine QGy hb57<|QFc ?_
        have hA62:=At.add hA61 1 (by simp)
        refine QGy hb57 ?_
        refine WQ.val (fun w hw=>by obtain ⟨_,hq,S⟩:=hw; exact (R.loadH (v:=str x59.fValue) S rfl (At.mono hA62 hq (by simp)) lay9 rfl))<|QGy hb57<|QFb' h26<|QGy hb57 ?_
        refine WQ.val (fun w hw=>by obtain ⟨_,hq,S⟩:=hw; exact (R.loadB (i:=0) (v:=vp_x12) S rfl rfl zGh rfl))<|QGy hb57<|QM' h31<|QGy hb57<|B hg58 fun x63 hx63 hg58=>WQ.idx (α:=GParam) Rp_x12 rfl rfl el156 hx63 ?_
        rintro a64 _ hA65 rfl
        refine QGy hb57<|QFc ?_
        have hA66:=At.add hA65 1 (by simp)
        refine QGy hb57 ?_
        refine WQ.val (fun w hw=>by obtain ⟨_,hq,S⟩:=hw; exact (R.loadH (v:=str x63.fValue) S rfl (At.mono hA66 hq (by simp)) lay9 rfl))<|QGy hb57<|B hg58 fun r67 hr67 hg58=>WQ.call (v:=boo r67) rfl (fun w H' hq S=>zBS S.holds x59.fValue x63.fValue hr67)<|QGy hb47<|QPt hb57 ?_
        exact WQ.nil ⟨(congrArg boo (oi hg58)),ag⟩
       replace hg58:=condF hg58 hb57
       refine QGn hb57<|QGn hb57<|QGn hb57<|QGn hb57<|QGn hb57<|QGn hb57<|QGn hb57<|QGn hb57<|QGn hb57<|QGn hb57<|QGn hb57<|QGn hb57 ?_
       refine QGn hb57<|QGy hb47<|QPf hb57 ?_
       exact WQ.nil ⟨(congrArg boo (oi hg58)),ag⟩
      intro us
      refine QPf hb47 ?_
      exact WQ.nil ⟨(congrArg boo (oi hg48)),ag⟩
     intro us
     refine QA<|WQ.nil ?_
     intro w44 H45 hle46 S
     have Rp_x12:=Sl.mono Rp_x12 hle46
     have Rp_ppend2:=Sl.mono Rp_ppend2 hle46
     refine Wg<|M' h31<|Lg<|A<|We ?_
     obtain rfl:=oi hy39
     exact ⟨rfl,⟨H45,h25,h26,h27,rfl,rfl,Rp_x12,Rp_ppend2,S⟩⟩
    refine CF hc43<|Wx ?_
    obtain rfl:=oi hy39
    obtain rfl:=hy40
    exact ⟨H24,h25,h26,h27,h29,Rp_x12,Rp_ppend2,S⟩
   rintro f w ⟨H32,h33,h34,h35,h37,Rp_x12,Rp_ppend2,S⟩
   refine Ws<|Wg<|M' h37<|No<|We ?_
   rcases condE hy19 with ⟨hc74,hy19⟩ | ⟨hc74,hy19⟩
   ·refine CT hc74<|Ws<|Wg<|A<|We ?_
    obtain rfl:=oi hy19
    obtain rfl:=hy20
    obtain rfl:=oi h
    refine WP.ret (Out.one rfl S rfl ?_)
    exact rfl
   refine CF hc74<|Wk<|Wg<|M' h35<|Lg<|A<|We ?_
   obtain rfl:=oi hy19
   exact ⟨rfl,⟨H32,h33,h34,rfl,Rp_x12,Rp_ppend2,S⟩⟩
  refine CF hc23<|Wx ?_
  obtain rfl:=oi hy19
  obtain rfl:=hy20
  exact ⟨H11,h12,Rp_ppend2,(S.drop _ (.cons _ (.cons_cons _ .slnil)))⟩
 intro f w hM
 rcases r21 with _ | e
 ·obtain ⟨H16,h17,Rp_ppend2,S⟩:=hM
  refine Ws<|Wg<|Fb' h17 ?_
  refine Lo 0 S<|Nq Rp_ppend2<|Lg<|A<|We ?_
  obtain rfl:=oi h
  refine WP.ret (Out.one rfl S rfl ?_)
  exact rfl
 exact hM.elim
theorem zIO {w0:World} {H0:Hp} (hw:Holds w0 H0) (p_r:Str) (p_tag:Str) {r:Int} (h:zEM p_r p_tag=some r) :
  Con Tryz.prog 229 [(str p_r),(str p_tag)] w0 H0 (fun H' v=>v=(int r)):=by
 refine Con.mk (N:=46) Tryz.func229 rfl rfl kr rfl ?_
 have S:=St.start hw
 refine Ws<|Wg<|A<|We<|Ws<|Ws<|Wg<|M<|B h fun r1 hr1 h=>W.call S rfl (zHS S.holds p_r hr1) ?_
 rintro v2 w3 H4 hle5 S rfl
 refine No<|M<|B h fun b13 hg7 h=>WL.grpw 4 [12,13,14] 15 (boo b13) (fun w=>∃ H':Hp,H4.le H'∧St w0 H0 w H' []) ?_ ?_
 ·rcases boolE (!r1) with hb6 | hb6
  ·replace hg7:=condT hg7 hb6
   refine Gn hb6<|Gn hb6<|Gn hb6<|Pt hb6 ?_
   exact We ⟨(congrArg boo (oi hg7)),ag,⟨H4,(Hp.le.refl _),S⟩⟩
  replace hg7:=condF hg7 hb6
  refine Gy hb6<|M<|Gy hb6<|B hg7 fun r8 hr8 hg7=>W.call S rfl (zGx S.holds p_tag hr8) ?_
  rintro v9 w10 H11 hle12 S rfl
  refine Gy hb6<|No<|Pf hb6 ?_
  exact We ⟨(congrArg boo (oi hg7)),ag,⟨H11,hle12,S⟩⟩
 intro us w15 ⟨H14,hle16,S⟩
 refine We ?_
 rcases condE h with ⟨hc17,h⟩ | ⟨hc17,h⟩
 ·refine CT hc17<|Ws<|Wg<|A<|We ?_
  obtain rfl:=oi h
  refine WP.ret (Out.one rfl S rfl ?_)
  exact rfl
 refine CF hc17<|Wk<|Ws<|Ws<|Wg<|M<|Na<|We ?_
 rcases condE h with ⟨hc18,h⟩ | ⟨hc18,h⟩
 ·refine CT hc18<|Ws<|Wg<|A<|We ?_
  obtain rfl:=oi h
  refine WP.ret (Out.one rfl S rfl ?_)
  exact rfl
 refine CF hc18<|Wk<|Ws<|Wg<|M<|B h fun r19 hr19 h=>W.call S rfl (zEf S.holds p_r hr19) ?_
 rintro v20 w21 H22 hle23 S R24
 refine M<|B h fun r25 hr25 h=>W.call S rfl (zEf S.holds p_tag hr25) ?_
 rintro v26 w27 H28 hle29 S R30
 have R24:=Sl.mono R24 hle29
 refine A<|A<|We<|Ws<|Ws<|Wg<|A<|We<|B h fun r41 hr42 h=>WP.cut (fun f w=>match r41 with | .inl _=>∃ (H36:Hp),f 5=v20∧Sl (α:=Str) H36 v20 r19∧St w0 H0 w H36 [] | .inr _=>False) ?_ ?_
 ·refine Wb ?_
  refine WP.loopM (zBA r19 r25) (fun s f w=>match s with | i_34=>∃ (H31:Hp),f 5=v20∧f 6=v26∧f 7=(int i_34)∧Sl (α:=Str) H31 v20 r19∧Sl (α:=Str) H31 v26 r25∧St w0 H0 w H31 []) 0 r41 hr42 ?_ ?_
  ·exact ⟨H28,rfl,rfl,rfl,R24,R30,S⟩
  intro i_34 f w hI y38 hy39 hy40
  obtain ⟨H31,h32,h33,h35,R24,R30,S⟩:=hI
  refine Ws<|Ws<|Wg<|M' h35<|M' h32<|Nq R24<|La<|We ?_
  rcases condE hy39 with ⟨hc43,hy39⟩ | ⟨hc43,hy39⟩
  ·refine CT hc43<|Wk<|Ws<|Wb<|Ws<|WP.quiet S kr kr<|QM' h35<|QM' h33<|QNq R30<|QLe<|QM<|B hy39 fun b60 hg48 hy39=>WQ.grp 11 [33,34,35,36,37,38,39,40,41,42] 43 (boo b60) ?_ ?_
   ·rcases boolE (i_34==(r25.length:Int)) with hb47 | hb47
    ·replace hg48:=condT hg48 hb47
     refine QGn hb47<|QGn hb47<|QGn hb47<|QGn hb47<|QGn hb47<|QGn hb47<|QGn hb47<|QGn hb47<|QGn hb47<|QGn hb47<|QPt hb47 ?_
     exact WQ.nil ⟨(congrArg boo (oi hg48)),ag⟩
    replace hg48:=condF hg48 hb47
    refine QGy hb47<|QM' h32<|QGy hb47<|QM' h35<|QGy hb47<|B hg48 fun x49 hx49 hg48=>WQ.idx (α:=Str) R24 rfl rfl el34 hx49 ?_
    rintro a50 _ hA51 rfl
    refine QGy hb47 ?_
    refine WQ.val (fun w hw=>by obtain ⟨_,hq,S⟩:=hw; exact (R.loadH (v:=str x49) S rfl (At.mono hA51 hq (by simp)) lay9 rfl))<|QGy hb47<|QM' h33<|QGy hb47<|QM' h35<|QGy hb47<|B hg48 fun x52 hx52 hg48=>WQ.idx (α:=Str) R30 rfl rfl el34 hx52 ?_
    rintro a53 _ hA54 rfl
    refine QGy hb47 ?_
    refine WQ.val (fun w hw=>by obtain ⟨_,hq,S⟩:=hw; exact (R.loadH (v:=str x52) S rfl (At.mono hA54 hq (by simp)) lay9 rfl))<|QGy hb47<|B hg48 fun r55 hr55 hg48=>WQ.call (v:=boo r55) rfl (fun w H' hq S=>zBS S.holds x49 x52 hr55)<|QGy hb47<|QNo<|QPf hb47 ?_
    exact WQ.nil ⟨(congrArg boo (oi hg48)),ag⟩
   intro us
   refine WQ.nil ?_
   intro w44 H45 hle46 S
   have R24:=Sl.mono R24 hle46
   have R30:=Sl.mono R30 hle46
   rcases condE hy39 with ⟨hc61,hy39⟩ | ⟨hc61,hy39⟩
   ·refine CT hc61<|Ws<|Wg<|A<|We ?_
    obtain rfl:=oi hy39
    obtain rfl:=hy40
    obtain rfl:=oi h
    refine WP.ret (Out.one rfl S rfl ?_)
    exact rfl
   refine CF hc61<|Wk<|Wg<|M' h35<|Lg<|A<|We ?_
   obtain rfl:=oi hy39
   exact ⟨rfl,⟨H45,h32,h33,rfl,R24,R30,S⟩⟩
  refine CF hc43<|Wx ?_
  obtain rfl:=oi hy39
  obtain rfl:=hy40
  exact ⟨H31,h32,R24,S⟩
 intro f w hM
 rcases r41 with _ | e
 ·obtain ⟨H36,h37,R24,S⟩:=hM
  refine Ws<|Wg<|M' h37<|Nq R24<|A<|We ?_
  obtain rfl:=oi h
  refine WP.ret (Out.one rfl S rfl ?_)
  exact rfl
 exact hM.elim
theorem zHE {w0:World} {H0:Hp} (hw:Holds w0 H0) (p_kind:Int) (p_r:Str) (p_value:Str) {r:Int} (h:zCx p_kind p_r p_value=some r) :
  Con Tryz.prog 230 [(int p_kind),(str p_r),(str p_value)] w0 H0 (fun H' v=>v=(int r)):=by
 refine Con.mk (N:=16) Tryz.func230 rfl rfl kr rfl ?_
 have S:=St.start hw
 refine Ws<|Wg<|A<|We<|Ws<|Ws<|Wg<|M<|Na<|We ?_
 rcases condE h with ⟨hc1,h⟩ | ⟨hc1,h⟩
 ·refine CT hc1<|Ws<|Wg<|A<|We ?_
  obtain rfl:=oi h
  refine WP.ret (Out.one rfl S rfl ?_)
  exact rfl
 refine CF hc1<|Wk<|Ws<|Ws<|Wg<|M<|M<|B h fun r2 hr2 h=>W.call S rfl (zBk S.holds p_kind p_r hr2) ?_
 rintro v3 w4 H5 hle6 S rfl
 refine M<|M<|B h fun r7 hr7 h=>W.call S rfl (zBk S.holds p_kind p_value hr7) ?_
 rintro v8 w9 H10 hle11 S rfl
 refine Na<|We ?_
 rcases condE h with ⟨hc12,h⟩ | ⟨hc12,h⟩
 ·refine CT hc12<|Ws<|Wg<|A<|We ?_
  obtain rfl:=oi h
  refine WP.ret (Out.one rfl S rfl ?_)
  exact rfl
 refine CF hc12<|Wk<|Ws<|Wg<|A<|We ?_
 obtain rfl:=oi h
 refine WP.ret (Out.one rfl S rfl ?_)
 exact rfl
theorem zJj {w0:World} {H0:Hp} (hw:Holds w0 H0) (p_kind:Int) (p_r:Str) (p_value:Str) {r:Int} (h:zGI p_kind p_r p_value=some r) :
  Con Tryz.prog 192 [(int p_kind),(str p_r),(str p_value)] w0 H0 (fun H' v=>v=(int r)):=by
 refine Con.mk (N:=53) Tryz.func192 rfl rfl kr rfl ?_
 have S:=St.start hw
 refine Ws<|Wg<|A<|We<|Ws<|Ws<|Wg<|M<|We<|B h fun j3 hj2 h=>WP.cut (fun f w=>match j3 with | .inl _=>∃ (H1:Hp),St w0 H0 w H1 [] | .inr _=>False) ?_ ?_
 ·refine Wb<|Ws<|Wg<|Le<|A<|We ?_
  rcases condE hj2 with ⟨hc4,hj2⟩ | ⟨hc4,hj2⟩
  ·refine CT hc4<|Ws<|Wg<|M<|B hj2 fun r5 hr5 hj2=>W.call S rfl (zDY S.holds p_r hr5) ?_
   rintro v6 w7 H8 hle9 S ⟨u10,rfl,R11⟩
   refine M ?_
   refine Ex ?_
   refine Ex ?_
   refine W.alloc [(str []),(str []),(.slice none 0 0)] S zC7 ?_
   intro b12 w13 S
   refine W.store (i:=0) [(str r5.1.fType),(str r5.1.fSub),u10] S rfl rfl rfl zAw rfl (AllOne.all (l:=[(str r5.1.fType),(str r5.1.fSub),u10]) (.cons rfl (.cons rfl (.cons (Sl.oneC R11) .nil)))) (Nat.le_of_ble_eq_true rfl) rfl ?_
   intro w14 S
   refine A<|We<|Ws<|Wg<|M<|B hj2 fun r15 hr15 hj2=>W.call S rfl (zFR S.holds p_value hr15) ?_
   rintro v16 w17 H18 hle19 S ⟨u20,rfl,R21⟩
   have R11:=Sl.mono R11 hle19
   refine M ?_
   refine Ex ?_
   refine Ex ?_
   refine W.alloc [(str []),(str []),(.slice none 0 0)] S zC7 ?_
   intro b22 w23 S
   refine W.store (i:=0) [(str r15.1.fType),(str r15.1.fSub),u20] S rfl rfl rfl zAw rfl (AllOne.all (l:=[(str r15.1.fType),(str r15.1.fSub),u20]) (.cons rfl (.cons rfl (.cons (Sl.oneC R21) .nil)))) (Nat.le_of_ble_eq_true rfl) rfl ?_
   intro w24 S
   refine A<|We<|Ws<|Wg<|M<|M ?_
   refine WL.grp 2 [26] 27 (boo (r5.2&&r15.2)) ?_ ?_
   ·rcases boolE r5.2 with hb25 | hb25
    ·refine Gy hb25<|M<|Pt hb25 ?_
     exact We ⟨(andT hb25),ag,rfl⟩
    refine Gn hb25<|Pf hb25 ?_
    exact We ⟨(andF hb25),ag,rfl⟩
   intro us
   refine We ?_
   rcases condE hj2 with ⟨hc27,hj2⟩ | ⟨hc27,hj2⟩
   ·refine CT hc27<|Ws<|Wg ?_
    refine WL.w (R.loadBN (i:=1) (vs:=[(str r5.1.fType),(str r5.1.fSub),u10]) S rfl rfl zAw rfl rfl) ?_
    refine WL.w (R.loadBN (i:=0) (vs:=[(str r15.1.fType),(str r15.1.fSub),u20]) S rfl rfl zAw rfl rfl)<|B hj2 fun r28 hr28 hj2=>W.call S rfl (zHh S.holds r5.1 r15.1 R11 R21 hr28) ?_
    rintro v29 w30 H31 hle32 S rfl
    refine A<|We ?_
    obtain rfl:=oi hj2
    obtain rfl:=oi h
    refine WP.ret (Out.one rfl S rfl ?_)
    exact rfl
   refine CF hc27<|Wk ?_
   obtain rfl:=oi hj2
   exact ⟨H18,(S.drop _ (.cons _ (.cons _ .slnil)))⟩
  refine CF hc4<|Ws<|Wg<|Le<|A<|We ?_
  rcases condE hj2 with ⟨hc33,hj2⟩ | ⟨hc33,hj2⟩
  ·refine CT hc33<|Ws<|Wg<|M<|M<|B hj2 fun r34 hr34 hj2=>W.call S rfl (zIO S.holds p_r p_value hr34) ?_
   rintro v35 w36 H37 hle38 S rfl
   refine A<|We ?_
   obtain rfl:=oi hj2
   obtain rfl:=oi h
   refine WP.ret (Out.one rfl S rfl ?_)
   exact rfl
  refine CF hc33<|Ws<|Ws<|Wg<|Le<|A<|We<|B hj2 fun y_43 hj45 hj2=>WP.cut (fun f w=>∃ (H39:Hp),f 0=(int p_kind)∧f 1=(str p_r)∧f 2=(str p_value)∧f 36=(boo y_43)∧St w0 H0 w H39 []) ?_ ?_
  ·rcases condE hj45 with ⟨hc47,hj45⟩ | ⟨hc47,hj45⟩
   ·refine CT hc47<|Wk ?_
    obtain rfl:=oi hj45
    exact ⟨H0,rfl,rfl,rfl,rfl,S⟩
   refine CF hc47<|Wg<|Le<|A<|We ?_
   obtain rfl:=oi hj45
   exact ⟨H0,rfl,rfl,rfl,rfl,S⟩
  rintro f w ⟨H39,h40,h41,h42,h44,S⟩
  rcases condE hj2 with ⟨hc48,hj2⟩ | ⟨hc48,hj2⟩
  ·refine WP.condT h44 hc48<|Ws<|Wg<|M' h41<|B hj2 fun r49 hr49 hj2=>W.call S rfl (zAu S.holds p_r hr49) ?_
   rintro v50 w51 H52 hle53 S rfl
   refine M<|B hj2 fun b61 hg55 hj2=>WL.grpw 3 [42,43] 44 (boo b61) (fun w=>∃ H':Hp,H52.le H'∧St w0 H0 w H' []) ?_ ?_
   ·rcases boolE r49 with hb54 | hb54
    ·replace hg55:=condT hg55 hb54
     refine Gy hb54<|M' h42<|Gy hb54<|B hg55 fun r56 hr56 hg55=>W.call S rfl (zAu S.holds p_value hr56) ?_
     rintro v57 w58 H59 hle60 S rfl
     refine Pt hb54 ?_
     exact We ⟨(congrArg boo (oi hg55)),ag,⟨H59,hle60,S⟩⟩
    replace hg55:=condF hg55 hb54
    refine Gn hb54<|Gn hb54<|Pf hb54 ?_
    exact We ⟨(congrArg boo (oi hg55)),ag,⟨H52,(Hp.le.refl _),S⟩⟩
   intro us w63 ⟨H62,hle64,S⟩
   refine M ?_
   refine WL.grp 3 [46,47] 48 (boo (b61&&(p_value !=[42]))) ?_ ?_
   ·rcases boolE b61 with hb65 | hb65
    ·refine Gy hb65<|M' h42<|Gy hb65<|Nb<|Pt hb65 ?_
     exact We ⟨(andT hb65),ag,rfl⟩
    refine Gn hb65<|Gn hb65<|Pf hb65 ?_
    exact We ⟨(andF hb65),ag,rfl⟩
   intro us
   refine We ?_
   rcases condE hj2 with ⟨hc67,hj2⟩ | ⟨hc67,hj2⟩
   ·refine CT hc67<|Ws<|Wg<|M' h40<|M' h41<|M' h42<|B hj2 fun r68 hr68 hj2=>W.call S rfl (zHE S.holds p_kind p_r p_value hr68) ?_
    rintro v69 w70 H71 hle72 S rfl
    refine A<|We ?_
    obtain rfl:=oi hj2
    obtain rfl:=oi h
    refine WP.ret (Out.one rfl S rfl ?_)
    exact rfl
   refine CF hc67<|Wk ?_
   obtain rfl:=oi hj2
   exact ⟨H62,S⟩
  refine WP.condF h44 hc48<|Wk ?_
  obtain rfl:=oi hj2
  exact ⟨H39,S⟩
 intro f w hM
 rcases j3 with _ | e
 ·obtain ⟨H1,S⟩:=hM
  refine Ws<|Wg<|A<|We ?_
  obtain rfl:=oi h
  refine WP.ret (Out.one rfl S rfl ?_)
  exact rfl
 exact hM.elim
theorem zEc {w0:World} {H0:Hp} (hw:Holds w0 H0) (p_kind:Int) (p_l:(List GPref)) (p_present:Bool) (p_value:Str) {vp_l:Value} (Rp_l:Sl (α:=GPref) H0 vp_l p_l) {r:Int} (h:zAz p_kind p_l p_present p_value=some r) :
  Con Tryz.prog 147 [(int p_kind),vp_l,(boo p_present),(str p_value)] w0 H0 (fun H' v=>v=(int r)):=by
 refine Con.mk (N:=45) Tryz.func147 rfl rfl kr rfl ?_
 have S:=St.start hw
 refine Ws<|Wg<|A<|We<|Ws<|Ws<|Wg<|M<|No<|We ?_
 rcases condE h with ⟨hc1,h⟩ | ⟨hc1,h⟩
 ·refine CT hc1<|Ws<|Wg<|A<|We ?_
  obtain rfl:=oi h
  refine WP.ret (Out.one rfl S rfl ?_)
  exact rfl
 refine CF hc1<|Wk<|Ws<|Wg<|A<|A<|We<|Ws<|Ws<|Wg<|M<|Le ?_
 refine M<|B h fun b9 hg3 h=>WL.grpw 3 [18,19] 20 (boo b9) (fun w=>∃ H':Hp,H0.le H'∧St w0 H0 w H' []) ?_ ?_
 ·rcases boolE (p_kind==4) with hb2 | hb2
  ·replace hg3:=condT hg3 hb2
   refine Gy hb2<|M<|Gy hb2<|B hg3 fun r4 hr4 hg3=>W.call S rfl (zBS S.holds p_value [105,100,101,110,116,105,116,121] hr4) ?_
   rintro v5 w6 H7 hle8 S rfl
   have Rp_l:=Sl.mono Rp_l hle8
   refine Pt hb2 ?_
   exact We ⟨(congrArg boo (oi hg3)),ag,⟨H7,hle8,S⟩⟩
  replace hg3:=condF hg3 hb2
  refine Gn hb2<|Gn hb2<|Pf hb2 ?_
  exact We ⟨(congrArg boo (oi hg3)),ag,⟨H0,(Hp.le.refl _),S⟩⟩
 intro us w11 ⟨H10,hle12,S⟩
 have Rp_l:=Sl.mono Rp_l hle12
 refine We<|B h fun q_18 hj20 h=>WP.cut (fun f w=>∃ (H13:Hp),f 0=(int p_kind)∧f 1=vp_l∧f 3=(str p_value)∧f 9=(int (-1))∧f 10=(int q_18)∧Sl (α:=GPref) H13 vp_l p_l∧St w0 H0 w H13 []) ?_ ?_
 ·rcases condE hj20 with ⟨hc22,hj20⟩ | ⟨hc22,hj20⟩
  ·refine CT hc22<|Wg<|A<|We ?_
   obtain rfl:=oi hj20
   exact ⟨H10,rfl,rfl,rfl,rfl,rfl,Rp_l,S⟩
  refine CF hc22<|Wk ?_
  obtain rfl:=oi hj20
  exact ⟨H10,rfl,rfl,rfl,rfl,rfl,Rp_l,S⟩
 rintro f w ⟨H13,h14,h15,h16,h17,h19,Rp_l,S⟩
 refine Ws<|Ws<|Wg<|A<|We<|B h fun q_34 hr40 h=>WP.cut (fun f w=>∃ (H33:Hp),f 10=(int q_34)∧St w0 H0 w H33 []) ?_ ?_
 ·refine Wb ?_
  refine WP.loopM (zCJ p_kind p_l p_value) (fun s f w=>match s with | (best_27,q_29,i_31)=>∃ (H23:Hp),f 0=(int p_kind)∧f 1=vp_l∧f 3=(str p_value)∧f 9=(int best_27)∧f 10=(int q_29)∧f 11=(int i_31)∧Sl (α:=GPref) H23 vp_l p_l∧St w0 H0 w H23 []) ((-1),q_18,0) q_34 hr40 ?_ ?_
  ·exact ⟨H13,h14,h15,h16,h17,h19,rfl,Rp_l,S⟩
  intro s f w hI y36 hy37 hy38
  obtain ⟨best_27,q_29,i_31⟩:=s
  obtain ⟨H23,h24,h25,h26,h28,h30,h32,Rp_l,S⟩:=hI
  refine Ws<|Ws<|Wg<|M' h32<|M' h25<|Nq Rp_l<|La<|We ?_
  rcases condE hy37 with ⟨hc41,hy37⟩ | ⟨hc41,hy37⟩
  ·refine CT hc41<|Wk<|Ws<|Wb<|Ws<|Wg<|M' h24<|M' h25<|M' h32<|B hy37 fun x42 hx42 hy37=>W.idx (α:=GPref) Rp_l rfl rfl el122 hx42 ?_
   rintro a43 _ hA44 rfl
   refine Fc ?_
   have hA45:=At.add hA44 0 (by simp)
   refine Lq S hA45<|M' h26<|B hy37 fun r46 hr46 hy37=>W.call S rfl (zJj S.holds p_kind x42.fRange p_value hr46) ?_
   rintro v47 w48 H49 hle50 S rfl
   have Rp_l:=Sl.mono Rp_l hle50
   refine A<|We<|Ws<|Wg<|M<|M' h28<|Lc<|We ?_
   rcases condE hy37 with ⟨hc51,hy37⟩ | ⟨hc51,hy37⟩
   ·refine CT hc51<|WP.quiet S kr kr<|QM<|QM' h25<|QM' h32<|B hy37 fun x55 hx55 hy37=>WQ.idx (α:=GPref) Rp_l rfl rfl el122 hx55 ?_
    rintro a56 _ hA57 rfl
    refine QFc ?_
    have hA58:=At.add hA57 1 (by simp)
    refine WQ.val (fun w hw=>by obtain ⟨_,hq,S⟩:=hw; exact (R.loadH (v:=int x55.fQ) S rfl (At.mono hA58 hq (by simp)) lay3 rfl))<|QA<|QA<|WQ.nil ?_
    intro w52 H53 hle54 S
    have Rp_l:=Sl.mono Rp_l hle54
    refine Wg<|M' h32<|Lg<|A<|We ?_
    obtain rfl:=oi hy37
    exact ⟨rfl,⟨H53,h24,h25,h26,rfl,rfl,rfl,Rp_l,S⟩⟩
   refine CF hc51<|Wk<|Wg<|M' h32<|Lg<|A<|We ?_
   obtain rfl:=oi hy37
   exact ⟨rfl,⟨H49,h24,h25,h26,h28,h30,rfl,Rp_l,S⟩⟩
  refine CF hc41<|Wx ?_
  obtain rfl:=oi hy37
  obtain rfl:=hy38
  exact ⟨H23,h30,S⟩
 rintro f w ⟨H33,h35,S⟩
 refine Ws<|Wg<|M' h35<|A<|We ?_
 obtain rfl:=oi h
 refine WP.ret (Out.one rfl S rfl ?_)
 exact rfl
end Go.Proofs
