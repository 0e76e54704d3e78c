/- A part of the proof of laws of the seat: written by program over the translation. -/
import Derived.Test.YtipgfplekgdoiaaGreatDoorEng38
import Derived.Test.YtipgfplekgdoiaaGreatDoorEng32
import Derived.Test.YtipgfplekgdoiaaGreatDoorGenK1
namespace Go.Proofs
set_option maxHeartbeats 4000000
set_option maxRecDepth 10000
open Go.Eng Go.Eng.Pure
set_option linter.unusedVariables false
theorem zJD {w0:World} {H0:Hp} (hw:Holds w0 H0) (p_s:Str) (p_cutset:Str) {r:Str} (h:zGy p_s p_cutset=some r) :
  Con Tryz.prog 197 [(str p_s),(str p_cutset)] w0 H0 (fun H' v=>v=(str r)):=by
 refine Con.mk (N:=43) Tryz.func197 rfl rfl kr rfl ?_
 have S:=St.start hw
 refine Ws<|Wg<|A<|We<|Ws<|Ws<|Wg<|M<|Na<|M ?_
 refine WL.grp 3 [10,11] 12 (boo ((p_s==[])||(p_cutset==[]))) ?_ ?_
 ·rcases boolE (p_s==[]) with hb1 | hb1
  ·refine Gn hb1<|Gn hb1<|Pt hb1 ?_
   exact We ⟨(orT hb1),ag,rfl⟩
  refine Gy hb1<|M<|Gy hb1<|Na<|Pf hb1 ?_
  exact We ⟨(orF hb1),ag,rfl⟩
 intro us
 refine We ?_
 rcases condE h with ⟨hc3,h⟩ | ⟨hc3,h⟩
 ·refine CT hc3<|Ws<|Wg<|M<|A<|We ?_
  obtain rfl:=oi h
  refine WP.ret (Out.one rfl S rfl ?_)
  exact rfl
 refine CF hc3<|Wk<|Ws<|Ws<|Wg<|M<|Ns<|Le<|M<|B h fun b7 hg5 h=>WL.grp 4 [18,19,20] 21 (boo b7) ?_ ?_
 ·rcases boolE ((p_cutset.length:Int)==1) with hb4 | hb4
  ·replace hg5:=condT hg5 hb4
   refine Gy hb4<|M<|Gy hb4<|B hg5 fun c6 hc6 hg5=>Ja hc6<|Gy hb4<|Ma c6 128<|Pt hb4 ?_
   exact We ⟨(congrArg boo (oi hg5)),ag,rfl⟩
  replace hg5:=condF hg5 hb4
  refine Gn hb4<|Gn hb4<|Gn hb4<|Pf hb4 ?_
  exact We ⟨(congrArg boo (oi hg5)),ag,rfl⟩
 intro us
 refine We ?_
 rcases condE h with ⟨hc8,h⟩ | ⟨hc8,h⟩
 ·refine CT hc8<|Ws<|WP.quiet S kr kr<|QM<|QM<|B h fun c12 hc12 h=>QJa hc12<|B h fun r13 hr13 h=>WQ.call (v:=str r13) rfl (fun w H' hq S=>zFt S.holds p_s c12 hr13)<|QM<|B h fun c18 hc18 h=>QJa hc18<|B h fun r19 hr19 h=>WQ.call (v:=str r19) rfl (fun w H' hq S=>zGL S.holds r13 c18 hr19)<|QA<|WQ.nil ?_
  intro w9 H10 hle11 S
  obtain rfl:=oi h
  refine WP.ret (Out.one rfl S rfl ?_)
  exact rfl
 refine CF hc8<|Wk<|Ws<|Ws<|Wg<|M<|B h fun r24 hr24 h=>W.call S rfl (zGR S.holds p_cutset hr24) ?_
 rintro v25 w26 H27 hle28 S rfl
 refine M ?_
 refine Ex ?_
 refine Ex ?_
 refine W.alloc (List.replicate 256 (boo false)) S zP7 ?_
 intro b29 w30 S
 refine W.store (i:=0) (setc p_cutset) S rfl rfl rfl zPK (show (Lib.setCells p_cutset).size=256 by have:=zG3 p_cutset; simpa [setc] using this) (zO8 p_cutset) (Nat.le_of_eq (by rw [List.length_replicate])) (zMk ((zG3 p_cutset).trans (by rw [List.length_replicate]))) ?_
 intro w31 S
 obtain ⟨H32,hle33,hs34,_,S⟩:=S.settle (i:=0) rfl
 replace S:St w0 H0 _ H32 []:=S
 have hA35:At H32 ⟨b29,0,none⟩ (setc p_cutset):=⟨_,_,rfl,hs34,[],by simp⟩
 refine A<|We<|Ws<|Wg<|M<|We<|WP.condT (b:=true) rfl rfl<|Ws<|Wg<|M<|B h fun r36 hr36 h=>W.call S rfl (zFm S.holds p_s p_cutset hA35 hr36) ?_
 rintro v37 w38 H39 hle40 S rfl
 have hA35:=At.mono hA35 hle40 (by intro h; have:=congrArg List.length h; rw [zG3] at this; cases this)
 refine B h fun r41 hr41 h=>W.call S rfl (zFu S.holds r36 p_cutset hA35 hr41) ?_
 rintro v42 w43 H44 hle45 S rfl
 refine A<|We ?_
 obtain rfl:=oi h
 refine WP.ret (Out.one rfl S rfl ?_)
 exact rfl
theorem zEt {w0:World} {H0:Hp} (hw:Holds w0 H0) (p_s:Str) {r:Str} (h:zEF p_s=some r) :
  Con Tryz.prog 154 [(str p_s)] w0 H0 (fun H' v=>v=(str r)):=by
 refine Con.mk (N:=5) Tryz.func154 rfl rfl kr rfl ?_
 have S:=St.start hw
 refine Ws<|Wg<|A<|We<|Ws<|Wg<|M<|B h fun r1 hr1 h=>W.call S rfl (zJD S.holds p_s [32,9] hr1) ?_
 rintro v2 w3 H4 hle5 S rfl
 refine A<|We ?_
 obtain rfl:=oi h
 refine WP.ret (Out.one rfl S rfl ?_)
 exact rfl
theorem zKc {w0:World} {H0:Hp} (hw:Holds w0 H0) (p_value:Str) {r:(List Str)} (h:zG1 p_value=some r) :
  Con Tryz.prog 126 [(str p_value)] w0 H0 (fun H' v=>Sl (α:=Str) H' v r):=by
 refine Con.mk (N:=52) Tryz.func126 rfl rfl kr rfl ?_
 have S:=St.start hw
 refine Ws<|Wg<|A<|We<|Ws<|Wg<|A<|We<|Ws<|Wg<|A<|A ?_
 refine We<|Ws<|Ws<|Wg<|A<|We ?_
 have S:=S.addNil 9 1
 refine B h fun out_14 hr22 h=>WP.cut (fun f w=>∃ (H13:Hp) (v15:Value),f 3=v15∧Sl (α:=Str) H13 v15 out_14∧St w0 H0 w H13 [.row v15 9 1 out_14.length]) ?_ ?_
 ·refine Wb ?_
  refine WP.loopM (zAq p_value) (fun s f w=>match s with | (out_3,state_7,from_9,i_11)=>∃ (H1:Hp) (v4:Value),f 0=(str p_value)∧f 3=v4∧f 4=(int state_7)∧f 5=(int from_9)∧f 6=(int i_11)∧Sl (α:=Str) H1 v4 out_3∧St w0 H0 w H1 [.row v4 9 1 out_3.length]) (([]:List Str),0,0,0) out_14 hr22 ?_ ?_
  ·exact ⟨H0,.slice none 0 0,rfl,rfl,rfl,rfl,rfl,Sl.nil,S⟩
  intro s f w hI y18 hy19 hy20
  obtain ⟨out_3,state_7,from_9,i_11⟩:=s
  obtain ⟨H1,v4,h2,h6,h8,h10,h12,R5,S⟩:=hI
  refine Ws<|Ws<|Wg<|M' h12<|M' h2<|Ns<|Lb<|M ?_
  refine WL.grp 4 [13,14,15] 16 (boo ((decide (i_11≤(p_value.length:Int)))&&(decide ((out_3.length:Int)<64)))) ?_ ?_
  ·rcases boolE (decide (i_11≤(p_value.length:Int))) with hb23 | hb23
   ·refine Gy hb23<|M' h6<|Gy hb23<|Nq R5<|Gy hb23<|La<|Pt hb23 ?_
    exact We ⟨(andT hb23),ag,rfl⟩
   refine Gn hb23<|Gn hb23<|Gn hb23<|Pf hb23 ?_
   exact We ⟨(andF hb23),ag,rfl⟩
  intro us
  refine We ?_
  rcases condE hy19 with ⟨hc25,hy19⟩ | ⟨hc25,hy19⟩
  ·refine CT hc25<|Wk<|Ws<|Wb<|Ws<|Ws<|Wg<|M' h12<|M' h2<|Ns<|La<|M<|B hy19 fun b32 hg27 hy19=>WL.grp 9 [24,25,26,27,28,29,30,31] 32 (boo b32) ?_ ?_
   ·rcases boolE (decide (i_11<(p_value.length:Int))) with hb26 | hb26
    ·replace hg27:=condT hg27 hb26
     refine Gy hb26<|M' h8<|Gy hb26<|Lf<|Gy hb26<|M<|B hg27 fun b31 hg29 hg27=>WL.grp 5 [27,28,29,30] 31 (boo b31) ?_ ?_
     ·rcases boolE (state_7 !=0) with hb28 | hb28
      ·replace hg29:=condT hg29 hb28
       refine Gn hb28<|Gn hb28<|Gn hb28<|Gn hb28<|Gy hb26<|Pt hb28 ?_
       exact We ⟨(congrArg boo (oi hg29)),ag,rfl⟩
      replace hg29:=condF hg29 hb28
      refine Gy hb28<|M' h2<|Gy hb28<|M' h12<|Gy hb28<|B hg29 fun c30 hc30 hg29=>Ja hc30<|Gy hb28<|Mf c30 44<|Gy hb26<|Pf hb28 ?_
      exact We ⟨(congrArg boo (oi hg29)),ag,rfl⟩
     intro us
     refine Pt hb26 ?_
     exact We ⟨(congrArg boo (oi hg27)),ag,rfl⟩
    replace hg27:=condF hg27 hb26
    refine Gn hb26<|Gn hb26<|Gn hb26<|WL.gund rfl rfl<|WL.gund rfl rfl<|WL.gund rfl rfl<|WL.gund rfl rfl<|Gn hb26<|Pf hb26 ?_
    exact We ⟨(congrArg boo (oi hg27)),ag,rfl⟩
   intro us
   refine We ?_
   rcases condE hy19 with ⟨hc33,hy19⟩ | ⟨hc33,hy19⟩
   ·refine CT hc33<|Ws<|Wg<|M' h8<|M' h2<|M' h12<|B hy19 fun c34 hc34 hy19=>Ja hc34<|B hy19 fun r35 hr35 hy19=>W.call S rfl (zLO S.holds state_7 c34 hr35) ?_
    rintro v36 w37 H38 hle39 S rfl
    have R5:=Sl.mono R5 hle39
    refine A<|We<|Wx<|Wg<|M' h12<|Lg<|A<|We ?_
    obtain rfl:=oi hy19
    exact ⟨rfl,⟨H38,v4,h2,h6,rfl,h10,rfl,R5,S⟩⟩
   refine CF hc33<|Wk<|Ws<|Ws<|Wg<|M' h2<|M' h10<|M' h12<|B hy19 fun s40 hs40 hy19=>Jb hs40<|B hy19 fun r41 hr41 hy19=>W.call S rfl (zEt S.holds s40 hr41) ?_
   rintro v42 w43 H44 hle45 S rfl
   have R5:=Sl.mono R5 hle45
   refine A<|We<|Ws<|Wg<|M<|Nb<|We ?_
   rcases condE hy19 with ⟨hc46,hy19⟩ | ⟨hc46,hy19⟩
   ·refine CT hc46<|Wg<|M' h6<|M<|W.bslice (α:=Str) [(str r41)] ([r41]:List Str) S el34 rfl rfl rfl (by decide) (Go.Eng.encS ⟨rfl,rfl⟩ enc0) ?_
    intro u47 w48 H49 hle50 R51 S
    have R5:=Sl.mono R5 hle50
    refine B hy19 fun l52 hl52 hy19=>W.app (α:=Str) (i:=1) S el34 rfl rfl rfl R5 R51 hl52 ?_
    intro v53 w54 H55 hle56 R57 S
    have R5:=Sl.mono R5 hle56
    refine A<|We<|Wg<|M' h12<|Lg<|A<|We<|Wg<|M' h12<|Lg<|A<|We ?_
    obtain rfl:=oi hy19
    exact ⟨rfl,⟨H55,v53,h2,rfl,h8,rfl,rfl,R57,(S.drop _ (.cons _ (.cons_cons _ .slnil)))⟩⟩
   refine CF hc46<|Wk<|Wg<|M' h12<|Lg<|A<|We<|Wg<|M' h12<|Lg<|A<|We ?_
   obtain rfl:=oi hy19
   exact ⟨rfl,⟨H44,v4,h2,h6,h8,rfl,rfl,R5,S⟩⟩
  refine CF hc25<|Wx ?_
  obtain rfl:=oi hy19
  obtain rfl:=hy20
  exact ⟨H1,v4,h6,R5,S⟩
 rintro f w ⟨H13,v15,h17,R16,S⟩
 refine Ws<|Wg<|M' h17<|A<|We ?_
 obtain rfl:=oi h
 refine WP.ret (Out.one rfl S rfl ?_)
 exact R16
theorem zHd {w0:World} {H0:Hp} (hw:Holds w0 H0) (p_l:(List GField)) (p_name:Str) {vp_l:Value} (Rp_l:Sl (α:=GField) H0 vp_l p_l) {r:(List Str)} (h:zGF p_l p_name=some r) :
  Con Tryz.prog 98 [vp_l,(str p_name)] w0 H0 (fun H' v=>Sl (α:=Str) H' v r):=by
 refine Con.mk (N:=26) Tryz.func98 rfl rfl kr rfl ?_
 have S:=St.start hw
 refine Ws<|Wg<|A<|We<|Ws<|Wg<|A<|We<|Ws<|Ws<|Wg<|M ?_
 refine M<|B h fun r1 hr1 h=>W.call S rfl (zGb S.holds p_l p_name Rp_l hr1) ?_
 rintro v2 w3 H4 hle5 S R6
 refine Nq R6<|M<|We ?_
 have S:=S.addNil 9 1
 refine B h fun out_17 hr25 h=>WP.cut (fun f w=>∃ (H16:Hp) (v18:Value),f 5=v18∧Sl (α:=Str) H16 v18 out_17∧St w0 H0 w H16 [.row v18 9 1 out_17.length]) ?_ ?_
 ·refine Wb ?_
  refine WP.loopM (zFA r1) (fun s f w=>match s with | (out_8,y_14)=>∃ (H7:Hp) (v9:Value),f 5=v9∧f 10=v2∧f 11=(int (r1.length:Int))∧f 12=(int y_14)∧Sl (α:=Str) H7 v9 out_8∧Sl (α:=Str) H7 v2 r1∧St w0 H0 w H7 [.row v9 9 1 out_8.length]) (([]:List Str),0) out_17 hr25 ?_ ?_
  ·exact ⟨H4,.slice none 0 0,rfl,rfl,rfl,rfl,Sl.nil,R6,S⟩
  intro s f w hI y21 hy22 hy23
  obtain ⟨out_8,y_14⟩:=s
  obtain ⟨H7,v9,h11,h12,h13,h15,R10,R6,S⟩:=hI
  refine Ws<|Wg<|La' h15 h13<|We<|Ws ?_
  rcases condE hy22 with ⟨hc26,hy22⟩ | ⟨hc26,hy22⟩
  ·refine CT hc26<|Wk<|Ws<|Wb<|Ws<|Wg<|B hy22 fun x27 hx27 hy22=>W.idx (α:=Str) R6 h12 h15 el34 hx27 ?_
   rintro a28 _ hA29 rfl
   refine Lq S hA29<|A<|We<|Wg<|M' h11<|M<|B hy22 fun r30 hr30 hy22=>W.call S rfl (zKc S.holds x27 hr30) ?_
   rintro v31 w32 H33 hle34 S R35
   have R10:=Sl.mono R10 hle34
   have R6:=Sl.mono R6 hle34
   refine B hy22 fun l36 hl36 hy22=>W.app (α:=Str) (i:=0) S el34 rfl rfl rfl R10 R35 hl36 ?_
   intro v37 w38 H39 hle40 R41 S
   have R10:=Sl.mono R10 hle40
   have R6:=Sl.mono R6 hle40
   refine A<|We<|Wg<|Lg' h15 rfl<|M<|We ?_
   obtain rfl:=oi hy22
   exact ⟨rfl,⟨H39,v37,rfl,h12,h13,rfl,R41,R6,S⟩⟩
  refine CF hc26<|Wx ?_
  obtain rfl:=oi hy22
  obtain rfl:=hy23
  exact ⟨H7,v9,h11,R10,S⟩
 rintro f w ⟨H16,v18,h20,R19,S⟩
 refine Ws<|Wg<|M' h20<|M' h20<|Nq R19<|Ni<|B h fun l42 hl42 h=>W.subHi (α:=Str) R19 rfl rfl el34 hl42 ?_
 intro v43 R44
 refine A<|We ?_
 obtain rfl:=oi h
 refine WP.ret (Out.one rfl S rfl ?_)
 exact R44
theorem zDC {w0:World} {H0:Hp} (hw:Holds w0 H0) (p_kind:Int) {r:Str} (h:zBM p_kind=some r) :
  Con Tryz.prog 178 [(int p_kind)] w0 H0 (fun H' v=>v=(str r)):=by
 refine Con.mk (N:=12) Tryz.func178 rfl rfl kr rfl ?_
 have S:=St.start hw
 refine Ws<|Wg<|A<|We<|Ws<|Ws<|Wg<|M<|We<|Wb<|Ws<|Wg ?_
 refine Le<|A<|We ?_
 rcases condE h with ⟨hc1,h⟩ | ⟨hc1,h⟩
 ·refine CT hc1<|Ws<|Wg<|A<|We ?_
  obtain rfl:=oi h
  refine WP.ret (Out.one rfl S rfl ?_)
  exact rfl
 refine CF hc1<|Ws<|Wg<|Le<|A<|We ?_
 rcases condE h with ⟨hc2,h⟩ | ⟨hc2,h⟩
 ·refine CT hc2<|Ws<|Wg<|A<|We ?_
  obtain rfl:=oi h
  refine WP.ret (Out.one rfl S rfl ?_)
  exact rfl
 refine CF hc2<|Ws<|Wg<|Le<|A<|We ?_
 rcases condE h with ⟨hc3,h⟩ | ⟨hc3,h⟩
 ·refine CT hc3<|Ws<|Wg<|A<|We ?_
  obtain rfl:=oi h
  refine WP.ret (Out.one rfl S rfl ?_)
  exact rfl
 refine CF hc3<|Ws<|Wg<|Le<|A<|We ?_
 rcases condE h with ⟨hc4,h⟩ | ⟨hc4,h⟩
 ·refine CT hc4<|Ws<|Wg<|A<|We ?_
  obtain rfl:=oi h
  refine WP.ret (Out.one rfl S rfl ?_)
  exact rfl
 refine CF hc4<|Wk<|Ws<|Wg<|A<|We ?_
 obtain rfl:=oi h
 refine WP.ret (Out.one rfl S rfl ?_)
 exact rfl
theorem zC2 {w0:World} {H0:Hp} (hw:Holds w0 H0) (p_a:Str) (p_b:Str) {r:Bool} (h:zCp p_a p_b=some r) :
  Con Tryz.prog 177 [(str p_a),(str p_b)] w0 H0 (fun H' v=>v=(boo r)):=by
 refine Con.mk (N:=17) Tryz.func177 rfl rfl kr rfl ?_
 have S:=St.start hw
 refine Ws<|Wg<|A<|We<|Ws<|Wg<|M<|Ns<|M<|Ns<|Le<|M<|B h fun b13 hg2 h=>WL.grpw 6 [11,12,13,14,15] 16 (boo b13) (fun w=>∃ H':Hp,H0.le H'∧St w0 H0 w H' []) ?_ ?_
 ·rcases boolE ((p_a.length:Int)==(p_b.length:Int)) with hb1 | hb1
  ·replace hg2:=condT hg2 hb1
   refine Gy hb1<|M<|Gy hb1<|B hg2 fun r3 hr3 hg2=>W.call S rfl (zAe S.holds p_a hr3) ?_
   rintro v4 w5 H6 hle7 S rfl
   refine Gy hb1<|M<|Gy hb1<|B hg2 fun r8 hr8 hg2=>W.call S rfl (zAe S.holds p_b hr8) ?_
   rintro v9 w10 H11 hle12 S rfl
   refine Gy hb1<|Na<|Pt hb1 ?_
   exact We ⟨(congrArg boo (oi hg2)),ag,⟨H11,(hle7.trans hle12),S⟩⟩
  replace hg2:=condF hg2 hb1
  refine Gn hb1<|Gn hb1<|Gn hb1<|Gn hb1<|Gn hb1<|Pf hb1 ?_
  exact We ⟨(congrArg boo (oi hg2)),ag,⟨H0,(Hp.le.refl _),S⟩⟩
 intro us w15 ⟨H14,hle16,S⟩
 refine A<|We ?_
 obtain rfl:=oi h
 refine WP.ret (Out.one rfl S rfl ?_)
 exact rfl
theorem zFl {w0:World} {H0:Hp} (hw:Holds w0 H0) (p_name:Str) {r:Int} (h:zEA p_name=some r) :
  Con Tryz.prog 139 [(str p_name)] w0 H0 (fun H' v=>v=(int r)):=by
 refine Con.mk (N:=13) Tryz.func139 rfl rfl kr rfl ?_
 have S:=St.start hw
 refine Ws<|Wg<|A<|We<|Ws<|Ws<|Wg<|A<|We<|Wb<|WP.loopRd 5<|RD.succ ?_
 refine Ws<|Ws<|Wg<|M ?_
 refine WL.w (v:=boo true) (R.ofEq (R.leq rfl rfl) rfl)<|We<|WP.condT (b:=true) rfl rfl<|Wk<|Ws<|Wb<|Ws<|Wg ?_
 refine M<|M<|B h fun r1 hr1 h=>W.call S rfl (zDC S.holds 1 hr1) ?_
 rintro v2 w3 H4 hle5 S rfl
 refine B h fun r6 hr6 h=>W.call S rfl (zC2 S.holds p_name r1 hr6) ?_
 rintro v7 w8 H9 hle10 S rfl
 refine We ?_
 rcases condE h with ⟨hc11,h⟩ | ⟨hc11,h⟩
 ·refine CT hc11<|Ws<|Wg<|M<|A<|We ?_
  obtain rfl:=oi h
  refine WP.ret (Out.one rfl S rfl ?_)
  exact rfl
 refine CF hc11<|Wk<|Wg<|M ?_
 refine WL.w (v:=int 2) (R.ofEq (R.add rfl rfl) rfl)<|A<|We<|RD.succ<|Ws<|Ws<|Wg<|M ?_
 refine WL.w (v:=boo true) (R.ofEq (R.leq rfl rfl) rfl)<|We<|WP.condT (b:=true) rfl rfl<|Wk<|Ws<|Wb<|Ws<|Wg<|M<|M<|B h fun r12 hr12 h=>W.call S rfl (zDC S.holds 2 hr12) ?_
 rintro v13 w14 H15 hle16 S rfl
 refine B h fun r17 hr17 h=>W.call S rfl (zC2 S.holds p_name r12 hr17) ?_
 rintro v18 w19 H20 hle21 S rfl
 refine We ?_
 rcases condE h with ⟨hc22,h⟩ | ⟨hc22,h⟩
 ·refine CT hc22<|Ws<|Wg<|M<|A<|We ?_
  obtain rfl:=oi h
  refine WP.ret (Out.one rfl S rfl ?_)
  exact rfl
 refine CF hc22<|Wk<|Wg<|M ?_
 refine WL.w (v:=int 3) (R.ofEq (R.add rfl rfl) rfl)<|A<|We<|RD.succ<|Ws<|Ws<|Wg<|M ?_
 refine WL.w (v:=boo true) (R.ofEq (R.leq rfl rfl) rfl)<|We<|WP.condT (b:=true) rfl rfl<|Wk<|Ws<|Wb<|Ws<|Wg<|M<|M<|B h fun r23 hr23 h=>W.call S rfl (zDC S.holds 3 hr23) ?_
 rintro v24 w25 H26 hle27 S rfl
 refine B h fun r28 hr28 h=>W.call S rfl (zC2 S.holds p_name r23 hr28) ?_
 rintro v29 w30 H31 hle32 S rfl
 refine We ?_
 rcases condE h with ⟨hc33,h⟩ | ⟨hc33,h⟩
 ·refine CT hc33<|Ws<|Wg<|M<|A<|We ?_
  obtain rfl:=oi h
  refine WP.ret (Out.one rfl S rfl ?_)
  exact rfl
 refine CF hc33<|Wk<|Wg<|M ?_
 refine WL.w (v:=int 4) (R.ofEq (R.add rfl rfl) rfl)<|A<|We<|RD.succ<|Ws<|Ws<|Wg<|M ?_
 refine WL.w (v:=boo true) (R.ofEq (R.leq rfl rfl) rfl)<|We<|WP.condT (b:=true) rfl rfl<|Wk<|Ws<|Wb<|Ws<|Wg<|M<|M<|B h fun r34 hr34 h=>W.call S rfl (zDC S.holds 4 hr34) ?_
 rintro v35 w36 H37 hle38 S rfl
 refine B h fun r39 hr39 h=>W.call S rfl (zC2 S.holds p_name r34 hr39) ?_
 rintro v40 w41 H42 hle43 S rfl
 refine We ?_
 rcases condE h with ⟨hc44,h⟩ | ⟨hc44,h⟩
 ·refine CT hc44<|Ws<|Wg<|M<|A<|We ?_
  obtain rfl:=oi h
  refine WP.ret (Out.one rfl S rfl ?_)
  exact rfl
 refine CF hc44<|Wk<|Wg<|M ?_
 refine WL.w (v:=int 5) (R.ofEq (R.add rfl rfl) rfl)<|A<|We<|RD.succ<|Ws<|Ws<|Wg<|M ?_
 refine WL.w (v:=boo false) (R.ofEq (R.leq rfl rfl) rfl)<|We<|WP.condF (b:=false) rfl rfl<|Wx<|Ws<|Wg<|A<|We ?_
 obtain rfl:=oi h
 refine WP.ret (Out.one rfl S rfl ?_)
 exact rfl
theorem zIa {w0:World} {H0:Hp} (hw:Holds w0 H0) (p_members:(List Str)) {vp_members:Value} (Rp_members:Sl (α:=Str) H0 vp_members p_members) {r:Str} (h:zFy p_members=some r) :
  Con Tryz.prog 140 [vp_members] w0 H0 (fun H' v=>v=(str r)):=by
 refine Con.mk (N:=5) Tryz.func140 rfl rfl kr rfl ?_
 have S:=St.start hw
 refine Ws<|Wg<|A<|We<|Ws<|Wg<|M<|B h fun r1 hr1 h=>W.call S rfl (zGt S.holds p_members [44,32] Rp_members hr1) ?_
 rintro v2 w3 H4 hle5 S rfl
 refine A<|We ?_
 obtain rfl:=oi h
 refine WP.ret (Out.one rfl S rfl ?_)
 exact rfl
theorem zKY {w0:World} {H0:Hp} (hw:Holds w0 H0) (p_name:Str) (p_l:(List GField)) {vp_l:Value} (Rp_l:Sl (α:=GField) H0 vp_l p_l) {r:Str} (h:zG5 p_name p_l=some r) :
  Con Tryz.prog 107 [(str p_name),vp_l] w0 H0 (fun H' v=>v=(str r)):=by
 refine Con.mk (N:=30) Tryz.func107 rfl rfl kr rfl ?_
 have S:=St.start hw
 refine Ws<|Wg<|A<|We<|Ws<|Ws<|Wg<|M<|M<|B h fun r1 hr1 h=>W.call S rfl (zGY S.holds p_l p_name Rp_l hr1) ?_
 rintro v2 w3 H4 hle5 S rfl
 have Rp_l:=Sl.mono Rp_l hle5
 refine No<|We ?_
 rcases condE h with ⟨hc6,h⟩ | ⟨hc6,h⟩
 ·refine CT hc6<|Ws<|Wg<|A<|We ?_
  obtain rfl:=oi h
  refine WP.ret (Out.one rfl S rfl ?_)
  exact rfl
 refine CF hc6<|Wk<|Ws<|Ws<|Wg<|M<|M<|B h fun r7 hr7 h=>W.call S rfl (zHd S.holds p_l p_name Rp_l hr7) ?_
 rintro v8 w9 H10 hle11 S R12
 have Rp_l:=Sl.mono Rp_l hle11
 refine A<|We<|Ws<|Wg<|M<|B h fun r13 hr13 h=>W.call S rfl (zFl S.holds p_name hr13) ?_
 rintro v14 w15 H16 hle17 S rfl
 have Rp_l:=Sl.mono Rp_l hle17
 have R12:=Sl.mono R12 hle17
 refine Lf<|M ?_
 refine WL.grp 4 [17,18,19] 20 (boo ((r13 !=0)&&(decide ((r7.length:Int)<64)))) ?_ ?_
 ·rcases boolE (r13 !=0) with hb18 | hb18
  ·refine Gy hb18<|M<|Gy hb18<|Nq R12<|Gy hb18<|La<|Pt hb18 ?_
   exact We ⟨(andT hb18),ag,rfl⟩
  refine Gn hb18<|Gn hb18<|Gn hb18<|Pf hb18 ?_
  exact We ⟨(andF hb18),ag,rfl⟩
 intro us
 refine We ?_
 rcases condE h with ⟨hc20,h⟩ | ⟨hc20,h⟩
 ·refine CT hc20<|Ws<|Wg<|M<|B h fun r21 hr21 h=>W.call S rfl (zIa S.holds r7 R12 hr21) ?_
  rintro v22 w23 H24 hle25 S rfl
  have Rp_l:=Sl.mono Rp_l hle25
  refine B h fun r26 hr26 h=>W.call S rfl (zAe S.holds r21 hr26) ?_
  rintro v27 w28 H29 hle30 S rfl
  have Rp_l:=Sl.mono Rp_l hle30
  refine B h fun s31 hs31 h=>Je hs31<|A<|We ?_
  obtain rfl:=oi h
  refine WP.ret (Out.one rfl S rfl ?_)
  exact rfl
 refine CF hc20<|Wk<|Ws<|Wg<|M<|M<|B h fun r32 hr32 h=>W.call S rfl (zGb S.holds p_l p_name Rp_l hr32) ?_
 rintro v33 w34 H35 hle36 S R37
 refine B h fun r38 hr38 h=>W.call S rfl (zGt S.holds r32 [44,32] R37 hr38) ?_
 rintro v39 w40 H41 hle42 S rfl
 refine B h fun s43 hs43 h=>Je hs43<|A<|We ?_
 obtain rfl:=oi h
 refine WP.ret (Out.one rfl S rfl ?_)
 exact rfl
theorem zIm {w0:World} {H0:Hp} (hw:Holds w0 H0) (p_names:(List Str)) (p_l:(List GField)) {vp_names:Value} {vp_l:Value} (Rp_names:Sl (α:=Str) H0 vp_names p_names) (Rp_l:Sl (α:=GField) H0 vp_l p_l) {r:(List Str)} (h:zEy p_names p_l=some r) :
  Con Tryz.prog 70 [vp_names,vp_l] w0 H0 (fun H' v=>Sl (α:=Str) H' v r):=by
 refine Con.mk (N:=22) Tryz.func70 rfl rfl kr rfl ?_
 have S:=St.start hw
 refine Ws<|Wg<|A<|We<|Ws<|Wg<|A<|We<|Ws<|Ws<|Wg<|M ?_
 refine Nq Rp_names<|M<|We ?_
 have S:=S.addNil 9 1
 refine B h fun out_12 hr20 h=>WP.cut (fun f w=>∃ (H11:Hp) (v13:Value),f 5=v13∧Sl (α:=Str) H11 v13 out_12∧St w0 H0 w H11 [.row v13 9 1 out_12.length]) ?_ ?_
 ·refine Wb ?_
  refine WP.loopM (zCL p_names p_l) (fun s f w=>match s with | (out_3,y_9)=>∃ (H1:Hp) (v4:Value),f 1=vp_l∧f 5=v4∧f 8=vp_names∧f 9=(int (p_names.length:Int))∧f 10=(int y_9)∧Sl (α:=GField) H1 vp_l p_l∧Sl (α:=Str) H1 v4 out_3∧Sl (α:=Str) H1 vp_names p_names∧St w0 H0 w H1 [.row v4 9 1 out_3.length]) (([]:List Str),0) out_12 hr20 ?_ ?_
  ·exact ⟨H0,.slice none 0 0,rfl,rfl,rfl,rfl,rfl,Rp_l,Sl.nil,Rp_names,S⟩
  intro s f w hI y16 hy17 hy18
  obtain ⟨out_3,y_9⟩:=s
  obtain ⟨H1,v4,h2,h6,h7,h8,h10,Rp_l,R5,Rp_names,S⟩:=hI
  refine Ws<|Wg<|La' h10 h8<|We<|Ws ?_
  rcases condE hy17 with ⟨hc21,hy17⟩ | ⟨hc21,hy17⟩
  ·refine CT hc21<|Wk<|Ws<|Wb<|Ws<|Wg<|B hy17 fun x22 hx22 hy17=>W.idx (α:=Str) Rp_names h7 h10 el34 hx22 ?_
   rintro a23 _ hA24 rfl
   refine Lq S hA24<|A<|We<|Wg<|M' h6<|M<|M' h2<|B hy17 fun r25 hr25 hy17=>W.call S rfl (zKY S.holds x22 p_l Rp_l hr25) ?_
   rintro v26 w27 H28 hle29 S rfl
   have Rp_l:=Sl.mono Rp_l hle29
   have R5:=Sl.mono R5 hle29
   have Rp_names:=Sl.mono Rp_names hle29
   refine W.bslice (α:=Str) [(str r25)] ([r25]:List Str) S el34 rfl rfl rfl (by decide) (Go.Eng.encS ⟨rfl,rfl⟩ enc0) ?_
   intro u30 w31 H32 hle33 R34 S
   have Rp_l:=Sl.mono Rp_l hle33
   have R5:=Sl.mono R5 hle33
   have Rp_names:=Sl.mono Rp_names hle33
   refine B hy17 fun l35 hl35 hy17=>W.app (α:=Str) (i:=1) S el34 rfl rfl rfl R5 R34 hl35 ?_
   intro v36 w37 H38 hle39 R40 S
   have Rp_l:=Sl.mono Rp_l hle39
   have R5:=Sl.mono R5 hle39
   have Rp_names:=Sl.mono Rp_names hle39
   refine A<|We<|Wg<|Lg' h10 rfl<|M<|We ?_
   obtain rfl:=oi hy17
   exact ⟨rfl,⟨H38,v36,h2,rfl,h7,h8,rfl,Rp_l,R40,Rp_names,(S.drop _ (.cons _ (.cons_cons _ .slnil)))⟩⟩
  refine CF hc21<|Wx ?_
  obtain rfl:=oi hy17
  obtain rfl:=hy18
  exact ⟨H1,v4,h6,R5,S⟩
 rintro f w ⟨H11,v13,h15,R14,S⟩
 refine Ws<|Wg<|M' h15<|A<|We ?_
 obtain rfl:=oi h
 refine WP.ret (Out.one rfl S rfl ?_)
 exact R14
theorem zAr {w0:World} {H0:Hp} (hw:Holds w0 H0) (p_s1:(List Str)) (p_s2:(List Str)) {vp_s1:Value} {vp_s2:Value} (Rp_s1:Sl (α:=Str) H0 vp_s1 p_s1) (Rp_s2:Sl (α:=Str) H0 vp_s2 p_s2) {r:Bool} (h:zAa p_s1 p_s2=some r) :
  Con Tryz.prog 73 [vp_s1,vp_s2] w0 H0 (fun H' v=>v=(boo r)):=by
 refine Con.mk (N:=26) Tryz.func73 rfl rfl kr rfl ?_
 have S:=St.start hw
 refine Ws<|Wg<|A<|We<|Ws<|Ws<|Wg<|M<|Nq Rp_s1<|M<|Nq Rp_s2<|Lf ?_
 refine We ?_
 rcases condE h with ⟨hc1,h⟩ | ⟨hc1,h⟩
 ·refine CT hc1<|Ws<|Wg<|A<|We ?_
  obtain rfl:=oi h
  refine WP.ret (Out.one rfl S rfl ?_)
  exact rfl
 refine CF hc1<|Wk<|Ws<|Ws<|Wg<|M<|Nq Rp_s1<|M<|We<|B h fun r12 hr13 h=>WP.cut (fun f w=>match r12 with | .inl _=>∃ (H8:Hp),St w0 H0 w H8 [] | .inr _=>False) ?_ ?_
 ·refine Wb ?_
  refine WP.loopM (zAo p_s1 p_s2) (fun s f w=>match s with | y_6=>∃ (H2:Hp),f 0=vp_s1∧f 1=vp_s2∧f 12=(int (p_s1.length:Int))∧f 13=(int y_6)∧Sl (α:=Str) H2 vp_s1 p_s1∧Sl (α:=Str) H2 vp_s2 p_s2∧St w0 H0 w H2 []) 0 r12 hr13 ?_ ?_
  ·exact ⟨H0,rfl,rfl,rfl,rfl,Rp_s1,Rp_s2,S⟩
  intro y_6 f w hI y9 hy10 hy11
  obtain ⟨H2,h3,h4,h5,h7,Rp_s1,Rp_s2,S⟩:=hI
  refine Ws<|Wg<|La' h7 h5<|We<|Ws ?_
  rcases condE hy10 with ⟨hc14,hy10⟩ | ⟨hc14,hy10⟩
  ·refine CT hc14<|Wk<|Ws<|Wb<|Ws<|Wg<|M' h7<|A<|We<|Ws<|WP.quiet S kr kr<|QM' h3 ?_
   refine QM<|B hy10 fun x18 hx18 hy10=>WQ.idx (α:=Str) Rp_s1 rfl rfl el34 hx18 ?_
   rintro a19 _ hA20 rfl
   refine WQ.val (fun w hw=>by obtain ⟨_,hq,S⟩:=hw; exact (R.loadH (v:=str x18) S rfl (At.mono hA20 hq (by simp)) lay9 rfl))<|QM' h4<|QM<|B hy10 fun x21 hx21 hy10=>WQ.idx (α:=Str) Rp_s2 rfl rfl el34 hx21 ?_
   rintro a22 _ hA23 rfl
   refine WQ.val (fun w hw=>by obtain ⟨_,hq,S⟩:=hw; exact (R.loadH (v:=str x21) S rfl (At.mono hA23 hq (by simp)) lay9 rfl))<|QNb<|WQ.nil ?_
   intro w15 H16 hle17 S
   have Rp_s1:=Sl.mono Rp_s1 hle17
   have Rp_s2:=Sl.mono Rp_s2 hle17
   rcases condE hy10 with ⟨hc24,hy10⟩ | ⟨hc24,hy10⟩
   ·refine CT hc24<|Ws<|Wg<|A<|We ?_
    obtain rfl:=oi hy10
    obtain rfl:=hy11
    obtain rfl:=oi h
    refine WP.ret (Out.one rfl S rfl ?_)
    exact rfl
   refine CF hc24<|Wk<|Wg<|Lg' h7 rfl<|M<|We ?_
   obtain rfl:=oi hy10
   exact ⟨rfl,⟨H16,h3,h4,h5,rfl,Rp_s1,Rp_s2,S⟩⟩
  refine CF hc14<|Wx ?_
  obtain rfl:=oi hy10
  obtain rfl:=hy11
  exact ⟨H2,S⟩
 intro f w hM
 rcases r12 with _ | e
 ·obtain ⟨H8,S⟩:=hM
  refine Ws<|Wg<|A<|We ?_
  obtain rfl:=oi h
  refine WP.ret (Out.one rfl S rfl ?_)
  exact rfl
 exact hM.elim
theorem zKK {w0:World} {H0:Hp} (hw:Holds w0 H0) (p_names:(List Str)) (p_snapshot:(List Str)) (p_l:(List GField)) {vp_names:Value} {vp_snapshot:Value} {vp_l:Value} (Rp_names:Sl (α:=Str) H0 vp_names p_names) (Rp_snapshot:Sl (α:=Str) H0 vp_snapshot p_snapshot) (Rp_l:Sl (α:=GField) H0 vp_l p_l) {r:Bool} (h:zHD p_names p_snapshot p_l=some r) :
  Con Tryz.prog 36 [vp_names,vp_snapshot,vp_l] w0 H0 (fun H' v=>v=(boo r)):=by
 refine Con.mk (N:=19) Tryz.func36 rfl rfl kr rfl ?_
 have S:=St.start hw
 refine Ws<|Wg<|A<|We<|Ws<|Wg<|M<|Nq Rp_names<|M<|Nq Rp_snapshot<|Le<|M<|B h fun b14 hg2 h=>WL.grpw 6 [13,14,15,16,17] 18 (boo b14) (fun w=>∃ H':Hp,H0.le H'∧St w0 H0 w H' []) ?_ ?_
 ·rcases boolE ((p_names.length:Int)==(p_snapshot.length:Int)) with hb1 | hb1
  ·replace hg2:=condT hg2 hb1
   refine Gy hb1<|M<|Gy hb1<|M<|Gy hb1<|B hg2 fun r3 hr3 hg2=>W.call S rfl (zIm S.holds p_names p_l Rp_names Rp_l hr3) ?_
   rintro v4 w5 H6 hle7 S R8
   have Rp_snapshot:=Sl.mono Rp_snapshot hle7
   refine Gy hb1<|M<|Gy hb1<|B hg2 fun r9 hr9 hg2=>W.call S rfl (zAr S.holds r3 p_snapshot R8 Rp_snapshot hr9) ?_
   rintro v10 w11 H12 hle13 S rfl
   refine Pt hb1 ?_
   exact We ⟨(congrArg boo (oi hg2)),ag,⟨H12,(hle7.trans hle13),S⟩⟩
  replace hg2:=condF hg2 hb1
  refine Gn hb1<|Gn hb1<|Gn hb1<|Gn hb1<|Gn hb1<|Pf hb1 ?_
  exact We ⟨(congrArg boo (oi hg2)),ag,⟨H0,(Hp.le.refl _),S⟩⟩
 intro us w16 ⟨H15,hle17,S⟩
 refine A<|We ?_
 obtain rfl:=oi h
 refine WP.ret (Out.one rfl S rfl ?_)
 exact rfl
theorem zJE {w0:World} {H0:Hp} (hw:Holds w0 H0) (p_e:GEntry) (c_x0:(List GField)) {vp_e0:Value} {vp_e1:Value} {vp_e2:Value} {vp_e4:Value} {vc_x00:Value} {ac_x0:Addr} (Rp_e0:Sl (α:=(List Str)) H0 vp_e0 p_e.fKeys) (Rp_e1:Sl (α:=Str) H0 vp_e1 p_e.fVary) (Rp_e2:Sl (α:=Str) H0 vp_e2 p_e.fSnapshot) (Rp_e4:Sl (α:=GField) H0 vp_e4 p_e.fFields) (Ac_x0:At H0 ac_x0 [vc_x00]) (Rc_x00:Sl (α:=GField) H0 vc_x00 c_x0) {r:Bool} (h:zFT p_e c_x0=some r) :
  Con Tryz.prog 35 [(agg [vp_e0,vp_e1,vp_e2,(str p_e.fReason),vp_e4,(str p_e.fBody),(int p_e.fRequested),(int p_e.fReceived)]),(.pointer (some ac_x0))] w0 H0 (fun H' v=>v=(boo r)):=by
 refine Con.mk (N:=10) Tryz.func35 rfl rfl kr rfl ?_
 have S:=St.start hw
 refine Ws<|Wg ?_
 refine W.box [vp_e0,vp_e1,vp_e2,(str p_e.fReason),vp_e4,(str p_e.fBody),(int p_e.fRequested),(int p_e.fReceived)] S rfl rfl ?_
 intro b1 w2 S
 refine A<|We<|Ws<|Wg<|Fb ?_
 refine Lo 0 S<|Fb ?_
 refine Lo 0 S ?_
 refine Lq S Ac_x0<|B h fun r3 hr3 h=>W.call S rfl (zKK S.holds p_e.fVary p_e.fSnapshot c_x0 Rp_e1 Rp_e2 Rc_x00 hr3) ?_
 rintro v4 w5 H6 hle7 S rfl
 refine A<|We ?_
 obtain rfl:=oi h
 refine WP.ret (Out.one rfl S rfl ?_)
 exact rfl
theorem zGV {w0:World} {H0:Hp} (hw:Holds w0 H0) (p_l:(List GEntry)) (p_test:(GEntry→Option Bool)) {vp_l:Value} {kp_test:FuncId} {cp_test:List Value} (Rp_l:Sl (α:=GEntry) H0 vp_l p_l) (Fp_test:∀ {w:World} {H:Hp},H0.le H→Holds w H→∀ (x0:GEntry),∀ {y0_0 y0_1 y0_2 y0_4:Value},Sl (α:=(List Str)) H y0_0 x0.fKeys→Sl (α:=Str) H y0_1 x0.fVary→Sl (α:=Str) H y0_2 x0.fSnapshot→Sl (α:=GField) H y0_4 x0.fFields→∀ (rr:Bool),p_test x0=some rr→Con Tryz.prog kp_test ([(agg [y0_0,y0_1,y0_2,(str x0.fReason),y0_4,(str x0.fBody),(int x0.fRequested),(int x0.fReceived)])]++cp_test) w H (fun H' v=>v=(boo rr))) {r:Int} (h:zE6 p_l p_test=some r) :
  Con Tryz.prog 34 [vp_l,(.func (.func kp_test) #[] cp_test.toArray)] w0 H0 (fun H' v=>v=(int r)):=by
 refine Con.mk (N:=20) Tryz.func34 rfl rfl kr rfl ?_
 have S:=St.start hw
 refine Ws<|Wg<|A<|We<|Ws<|Ws<|Wg<|M<|Nq Rp_l<|Lh<|A<|We<|B h fun r10 hr11 h=>WP.cut (fun f w=>match r10 with | .inl _=>∃ (H6:Hp),St w0 H0 w H6 [] | .inr _=>False) ?_ ?_
 ·refine Wb ?_
  refine WP.loopM (zCv p_l p_test) (fun s f w=>match s with | i_4=>∃ (H1:Hp),f 0=vp_l∧f 1=(.func (.func kp_test) #[] cp_test.toArray)∧f 5=(int i_4)∧Sl (α:=GEntry) H1 vp_l p_l∧St w0 H0 w H1 []) (wr ((p_l.length:Int) - 1)) r10 hr11 ?_ ?_
  ·exact ⟨H0,rfl,rfl,rfl,Rp_l,S⟩
  intro i_4 f w hI y7 hy8 hy9
  obtain ⟨H1,h2,h3,h5,Rp_l,S⟩:=hI
  refine Ws<|Ws<|Wg<|M' h5<|Ld<|We ?_
  rcases condE hy8 with ⟨hc12,hy8⟩ | ⟨hc12,hy8⟩
  ·refine CT hc12<|Wk<|Ws<|Wb<|Ws<|Wg<|M' h3<|M' h2<|M' h5<|B hy8 fun x13 hx13 hy8=>W.idx (α:=GEntry) Rp_l rfl rfl el23 hx13 ?_
   rintro a14 _ hA15 ⟨v16,v18,v20,v22,rfl,R17,R19,R21,R23⟩
   refine WL.w (R.loadHN (vs:=[v16,v18,v20,(str x13.fReason),v22,(str x13.fBody),(int x13.fRequested),(int x13.fReceived)]) S rfl hA15 lay36 rfl rfl)<|B hy8 fun r24 hr24 hy8=>W.callv S rfl rfl (Fp_test (S.post.le) S.holds x13 R17 R19 R21 R23 _ hr24) ?_
   rintro v25 w26 H27 hle28 S rfl
   have Rp_l:=Sl.mono Rp_l hle28
   refine We ?_
   rcases condE hy8 with ⟨hc29,hy8⟩ | ⟨hc29,hy8⟩
   ·refine CT hc29<|Ws<|Wg<|M' h5<|A<|We ?_
    obtain rfl:=oi hy8
    obtain rfl:=hy9
    obtain rfl:=oi h
    refine WP.ret (Out.one rfl S rfl ?_)
    exact rfl
   refine CF hc29<|Wk<|Wg<|M' h5<|Lh<|A<|We ?_
   obtain rfl:=oi hy8
   exact ⟨rfl,⟨H27,h2,h3,rfl,Rp_l,S⟩⟩
  refine CF hc12<|Wx ?_
  obtain rfl:=oi hy8
  obtain rfl:=hy9
  exact ⟨H1,S⟩
 intro f w hM
 rcases r10 with _ | e
 ·obtain ⟨H6,S⟩:=hM
  refine Ws<|Wg<|A<|We ?_
  obtain rfl:=oi h
  refine WP.ret (Out.one rfl S rfl ?_)
  exact rfl
 exact hM.elim
theorem zJ7 {w0:World} {H0:Hp} (hw:Holds w0 H0) (p_c:UInt8) {r:Bool} (h:zG0 p_c=some r) :
  Con Tryz.prog 120 [(byt p_c)] w0 H0 (fun H' v=>v=(boo r)):=by
 refine Con.mk (N:=42) Tryz.func120 rfl rfl kr rfl ?_
 have S:=St.start hw
 refine Ws<|Wg<|A<|We<|Ws<|Ws<|Wg<|M<|We<|B h fun j4 hj3 h=>WP.cut (fun f w=>match j4 with | .inl _=>∃ (H1:Hp),f 0=(byt p_c)∧St w0 H0 w H1 [] | .inr _=>False) ?_ ?_
 ·refine Wb<|Ws<|Ws<|Wg<|Me p_c 33<|A<|We<|B hj3 fun y_7 hj9 hj3=>WP.cut (fun f w=>∃ (H5:Hp),f 0=(byt p_c)∧f 4=(boo y_7)∧St w0 H0 w H5 []) ?_ ?_
  ·rcases condE hj9 with ⟨hc11,hj9⟩ | ⟨hc11,hj9⟩
   ·refine CT hc11<|Wk ?_
    obtain rfl:=oi hj9
    exact ⟨H0,rfl,rfl,S⟩
   refine CF hc11<|Ws<|Wg<|Me p_c 35<|A<|We ?_
   rcases condE hj9 with ⟨hc12,hj9⟩ | ⟨hc12,hj9⟩
   ·refine CT hc12<|Wk ?_
    obtain rfl:=oi hj9
    exact ⟨H0,rfl,rfl,S⟩
   refine CF hc12<|Ws<|Wg<|Me p_c 36<|A<|We ?_
   rcases condE hj9 with ⟨hc13,hj9⟩ | ⟨hc13,hj9⟩
   ·refine CT hc13<|Wk ?_
    obtain rfl:=oi hj9
    exact ⟨H0,rfl,rfl,S⟩
   refine CF hc13<|Ws<|Wg<|Me p_c 37<|A<|We ?_
   rcases condE hj9 with ⟨hc14,hj9⟩ | ⟨hc14,hj9⟩
   ·refine CT hc14<|Wk ?_
    obtain rfl:=oi hj9
    exact ⟨H0,rfl,rfl,S⟩
   refine CF hc14<|Ws<|Wg<|Me p_c 38<|A<|We ?_
   rcases condE hj9 with ⟨hc15,hj9⟩ | ⟨hc15,hj9⟩
   ·refine CT hc15<|Wk ?_
    obtain rfl:=oi hj9
    exact ⟨H0,rfl,rfl,S⟩
   refine CF hc15<|Ws<|Wg<|Me p_c 39<|A<|We ?_
   rcases condE hj9 with ⟨hc16,hj9⟩ | ⟨hc16,hj9⟩
   ·refine CT hc16<|Wk ?_
    obtain rfl:=oi hj9
    exact ⟨H0,rfl,rfl,S⟩
   refine CF hc16<|Ws<|Wg<|Me p_c 42<|A<|We ?_
   rcases condE hj9 with ⟨hc17,hj9⟩ | ⟨hc17,hj9⟩
   ·refine CT hc17<|Wk ?_
    obtain rfl:=oi hj9
    exact ⟨H0,rfl,rfl,S⟩
   refine CF hc17<|Ws<|Wg<|Me p_c 43<|A<|We ?_
   rcases condE hj9 with ⟨hc18,hj9⟩ | ⟨hc18,hj9⟩
   ·refine CT hc18<|Wk ?_
    obtain rfl:=oi hj9
    exact ⟨H0,rfl,rfl,S⟩
   refine CF hc18<|Ws<|Wg<|Me p_c 45<|A<|We ?_
   rcases condE hj9 with ⟨hc19,hj9⟩ | ⟨hc19,hj9⟩
   ·refine CT hc19<|Wk ?_
    obtain rfl:=oi hj9
    exact ⟨H0,rfl,rfl,S⟩
   refine CF hc19<|Ws<|Wg<|Me p_c 46<|A<|We ?_
   rcases condE hj9 with ⟨hc20,hj9⟩ | ⟨hc20,hj9⟩
   ·refine CT hc20<|Wk ?_
    obtain rfl:=oi hj9
    exact ⟨H0,rfl,rfl,S⟩
   refine CF hc20<|Ws<|Wg<|Me p_c 94<|A<|We ?_
   rcases condE hj9 with ⟨hc21,hj9⟩ | ⟨hc21,hj9⟩
   ·refine CT hc21<|Wk ?_
    obtain rfl:=oi hj9
    exact ⟨H0,rfl,rfl,S⟩
   refine CF hc21<|Ws<|Wg<|Me p_c 95<|A<|We ?_
   rcases condE hj9 with ⟨hc22,hj9⟩ | ⟨hc22,hj9⟩
   ·refine CT hc22<|Wk ?_
    obtain rfl:=oi hj9
    exact ⟨H0,rfl,rfl,S⟩
   refine CF hc22<|Ws<|Wg<|Me p_c 96<|A<|We ?_
   rcases condE hj9 with ⟨hc23,hj9⟩ | ⟨hc23,hj9⟩
   ·refine CT hc23<|Wk ?_
    obtain rfl:=oi hj9
    exact ⟨H0,rfl,rfl,S⟩
   refine CF hc23<|Ws<|Wg<|Me p_c 124<|A<|We ?_
   rcases condE hj9 with ⟨hc24,hj9⟩ | ⟨hc24,hj9⟩
   ·refine CT hc24<|Wk ?_
    obtain rfl:=oi hj9
    exact ⟨H0,rfl,rfl,S⟩
   refine CF hc24<|Wg<|Me p_c 126<|A<|We ?_
   obtain rfl:=oi hj9
   exact ⟨H0,rfl,rfl,S⟩
  rintro f w ⟨H5,h6,h8,S⟩
  rcases condE hj3 with ⟨hc25,hj3⟩ | ⟨hc25,hj3⟩
  ·refine WP.condT h8 hc25<|Ws<|Wg<|A<|We ?_
   obtain rfl:=oi hj3
   obtain rfl:=oi h
   refine WP.ret (Out.one rfl S rfl ?_)
   exact rfl
  refine WP.condF h8 hc25<|Wk ?_
  obtain rfl:=oi hj3
  exact ⟨H5,h6,S⟩
 intro f w hM
 rcases j4 with _ | e
 ·obtain ⟨H1,h2,S⟩:=hM
  refine Ws<|Wg<|M' h2<|Md p_c 48<|M ?_
  refine WL.grp 3 [23,24] 25 (boo ((decide (48≤p_c))&&(decide (p_c≤57)))) ?_ ?_
  ·rcases boolE (decide (48≤p_c)) with hb26 | hb26
   ·refine Gy hb26<|M' h2<|Gy hb26<|Mb p_c 57<|Pt hb26 ?_
    exact We ⟨(andT hb26),ag,rfl⟩
   refine Gn hb26<|Gn hb26<|Pf hb26 ?_
   exact We ⟨(andF hb26),ag,rfl⟩
  intro us
  refine M ?_
  refine WL.grp 7 [27,28,29,30,31,32] 33 (boo (((decide (48≤p_c))&&(decide (p_c≤57)))||((decide (65≤p_c))&&(decide (p_c≤90))))) ?_ ?_
  ·rcases boolE ((decide (48≤p_c))&&(decide (p_c≤57))) with hb28 | hb28
   ·refine Gn hb28<|Gn hb28<|Gn hb28<|WL.gund rfl rfl<|WL.gund rfl rfl<|Gn hb28<|Pt hb28 ?_
    exact We ⟨(orT hb28),ag,rfl⟩
   refine Gy hb28<|M' h2<|Gy hb28<|Md p_c 65<|Gy hb28<|M ?_
   refine WL.grp 3 [30,31] 32 (boo ((decide (65≤p_c))&&(decide (p_c≤90)))) ?_ ?_
   ·rcases boolE (decide (65≤p_c)) with hb30 | hb30
    ·refine Gy hb30<|M' h2<|Gy hb30<|Mb p_c 90<|Gy hb28<|Pt hb30 ?_
     exact We ⟨(andT hb30),ag,rfl⟩
    refine Gn hb30<|Gn hb30<|Gy hb28<|Pf hb30 ?_
    exact We ⟨(andF hb30),ag,rfl⟩
   intro us
   refine Pf hb28 ?_
   exact We ⟨(orF hb28),ag,rfl⟩
  intro us
  refine M ?_
  refine WL.grp 7 [35,36,37,38,39,40] 41 (boo ((((decide (48≤p_c))&&(decide (p_c≤57)))||((decide (65≤p_c))&&(decide (p_c≤90))))||((decide (97≤p_c))&&(decide (p_c≤122))))) ?_ ?_
  ·rcases boolE (((decide (48≤p_c))&&(decide (p_c≤57)))||((decide (65≤p_c))&&(decide (p_c≤90)))) with hb32 | hb32
   ·refine Gn hb32<|Gn hb32<|Gn hb32<|WL.gund rfl rfl<|WL.gund rfl rfl<|Gn hb32<|Pt hb32 ?_
    exact We ⟨(orT hb32),ag,rfl⟩
   refine Gy hb32<|M' h2<|Gy hb32<|Md p_c 97<|Gy hb32<|M ?_
   refine WL.grp 3 [38,39] 40 (boo ((decide (97≤p_c))&&(decide (p_c≤122)))) ?_ ?_
   ·rcases boolE (decide (97≤p_c)) with hb34 | hb34
    ·refine Gy hb34<|M' h2<|Gy hb34<|Mb p_c 122<|Gy hb32<|Pt hb34 ?_
     exact We ⟨(andT hb34),ag,rfl⟩
    refine Gn hb34<|Gn hb34<|Gy hb32<|Pf hb34 ?_
    exact We ⟨(andF hb34),ag,rfl⟩
   intro us
   refine Pf hb32 ?_
   exact We ⟨(orF hb32),ag,rfl⟩
  intro us
  refine A<|We ?_
  obtain rfl:=oi h
  refine WP.ret (Out.one rfl S rfl ?_)
  exact rfl
 exact hM.elim
theorem zAv {w0:World} {H0:Hp} (hw:Holds w0 H0) (p_s:Str) {r:Bool} (h:zA1 p_s=some r) :
  Con Tryz.prog 93 [(str p_s)] w0 H0 (fun H' v=>v=(boo r)):=by
 refine Con.mk (N:=17) Tryz.func93 rfl rfl kr rfl ?_
 have S:=St.start hw
 refine Ws<|Wg<|A<|We<|Ws<|Ws<|Wg<|M<|Ns<|M<|We<|B h fun r11 hr12 h=>WP.cut (fun f w=>match r11 with | .inl _=>∃ (H6:Hp),f 0=(str p_s)∧St w0 H0 w H6 [] | .inr _=>False) ?_ ?_
 ·refine Wb ?_
  refine WP.loopM (zDO p_s) (fun s f w=>match s with | y_4=>∃ (H1:Hp),f 0=(str p_s)∧f 5=(int (p_s.length:Int))∧f 6=(int y_4)∧St w0 H0 w H1 []) 0 r11 hr12 ?_ ?_
  ·exact ⟨H0,rfl,rfl,rfl,S⟩
  intro y_4 f w hI y8 hy9 hy10
  obtain ⟨H1,h2,h3,h5,S⟩:=hI
  refine Ws<|Wg<|La' h5 h3<|We<|Ws ?_
  rcases condE hy9 with ⟨hc13,hy9⟩ | ⟨hc13,hy9⟩
  ·refine CT hc13<|Wk<|Ws<|Wb<|Ws<|Wg<|M' h5<|A<|We<|Ws<|Wg<|M' h2 ?_
   refine M<|B hy9 fun c14 hc14 hy9=>Ja hc14<|B hy9 fun r15 hr15 hy9=>W.call S rfl (zJ7 S.holds c14 hr15) ?_
   rintro v16 w17 H18 hle19 S rfl
   refine No<|We ?_
   rcases condE hy9 with ⟨hc20,hy9⟩ | ⟨hc20,hy9⟩
   ·refine CT hc20<|Ws<|Wg<|A<|We ?_
    obtain rfl:=oi hy9
    obtain rfl:=hy10
    obtain rfl:=oi h
    refine WP.ret (Out.one rfl S rfl ?_)
    exact rfl
   refine CF hc20<|Wk<|Wg<|Lg' h5 rfl<|M<|We ?_
   obtain rfl:=oi hy9
   exact ⟨rfl,⟨H18,h2,h3,rfl,S⟩⟩
  refine CF hc13<|Wx ?_
  obtain rfl:=oi hy9
  obtain rfl:=hy10
  exact ⟨H1,h2,S⟩
 intro f w hM
 rcases r11 with _ | e
 ·obtain ⟨H6,h7,S⟩:=hM
  refine Ws<|Wg<|M' h7<|Nb<|A<|We ?_
  obtain rfl:=oi h
  refine WP.ret (Out.one rfl S rfl ?_)
  exact rfl
 exact hM.elim
theorem zEi {w0:World} {H0:Hp} (hw:Holds w0 H0) (p_axis:Str) {r:Gvariants_domain} (h:zB0 p_axis=some r) :
  Con Tryz.prog 121 [(str p_axis)] w0 H0 (fun H' v=>v=(Tryz.vvariants_domain r)):=by
 refine Con.mk (N:=22) Tryz.func121 rfl rfl kr rfl ?_
 have S:=St.start hw
 refine Ws<|Wg<|A<|We<|Ws<|Ws<|Wg<|M<|B h fun r1 hr1 h=>W.call S rfl (zFl S.holds p_axis hr1) ?_
 rintro v2 w3 H4 hle5 S rfl
 refine A<|We<|Ws<|Wg<|M<|We<|B h fun j8 hj7 h=>WP.cut (fun f w=>match j8 with | .inl _=>∃ (H6:Hp),St w0 H0 w H6 [] | .inr _=>False) ?_ ?_
 ·refine Wb<|Ws<|Wg<|Le<|A<|We ?_
  rcases condE hj7 with ⟨hc9,hj7⟩ | ⟨hc9,hj7⟩
  ·refine CT hc9<|Ws<|Wg ?_
   refine WL.w (R.build [] [] bp152 zP0 rfl rfl) ?_
   refine WL.w (v:=Tryz.vvariants_domain (.media:Gvariants_domain)) (R.ofEq (R.mkIface rfl Tryz.underlying152 (by intro _ h; cases h)) rfl)<|A<|We ?_
   obtain rfl:=oi hj7
   obtain rfl:=oi h
   refine WP.ret (Out.one rfl S rfl ?_)
   exact rfl
  refine CF hc9<|Ws<|Wg<|Le<|A<|We ?_
  rcases condE hj7 with ⟨hc10,hj7⟩ | ⟨hc10,hj7⟩
  ·refine CT hc10<|Ws<|Wg ?_
   refine WL.w (R.build [] [] bp153 zP8 rfl rfl) ?_
   refine WL.w (v:=Tryz.vvariants_domain (.tags:Gvariants_domain)) (R.ofEq (R.mkIface rfl Tryz.underlying153 (by intro _ h; cases h)) rfl)<|A<|We ?_
   obtain rfl:=oi hj7
   obtain rfl:=oi h
   refine WP.ret (Out.one rfl S rfl ?_)
   exact rfl
  refine CF hc10<|Ws<|Ws<|Wg<|Le<|A<|We<|B hj7 fun y_13 hj15 hj7=>WP.cut (fun f w=>∃ (H11:Hp),f 3=(int r1)∧f 15=(boo y_13)∧St w0 H0 w H11 []) ?_ ?_
  ·rcases condE hj15 with ⟨hc17,hj15⟩ | ⟨hc17,hj15⟩
   ·refine CT hc17<|Wk ?_
    obtain rfl:=oi hj15
    exact ⟨H4,rfl,rfl,S⟩
   refine CF hc17<|Wg<|Le<|A<|We ?_
   obtain rfl:=oi hj15
   exact ⟨H4,rfl,rfl,S⟩
  rintro f w ⟨H11,h12,h14,S⟩
  rcases condE hj7 with ⟨hc18,hj7⟩ | ⟨hc18,hj7⟩
  ·refine WP.condT h14 hc18<|Ws<|Wg<|M' h12 ?_
   refine WL.w (v:=Tryz.vvariants_domain (.words r1:Gvariants_domain)) (R.ofEq (R.mkIface rfl Tryz.underlying154 (by intro _ h; cases h)) rfl)<|A<|We ?_
   obtain rfl:=oi hj7
   obtain rfl:=oi h
   refine WP.ret (Out.one rfl S rfl ?_)
   exact rfl
  refine WP.condF h14 hc18<|Wk ?_
  obtain rfl:=oi hj7
  exact ⟨H11,S⟩
 intro f w hM
 rcases j8 with _ | e
 ·obtain ⟨H6,S⟩:=hM
  refine Ws<|Wg ?_
  refine WL.w (R.build [] [] bp155 zP2 rfl rfl) ?_
  refine WL.w (v:=Tryz.vvariants_domain (.texts:Gvariants_domain)) (R.ofEq (R.mkIface rfl Tryz.underlying155 (by intro _ h; cases h)) rfl)<|A<|We ?_
  obtain rfl:=oi h
  refine WP.ret (Out.one rfl S rfl ?_)
  exact rfl
 exact hM.elim
end Go.Proofs
