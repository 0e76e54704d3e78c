/- A part of the proof of laws of the seat: written by program over the translation. -/
import Derived.Test.YtipgfplekgdoiaaGreatDoorEng38
import Derived.Test.YtipgfplekgdoiaaGreatDoorEng32
import Derived.Test.YtipgfplekgdoiaaGreatDoorGenK9
namespace Go.Proofs
set_option maxHeartbeats 4000000
set_option maxRecDepth 10000
open Go.Eng Go.Eng.Pure
set_option linter.unusedVariables false
theorem zFX {w0:World} {H0:Hp} (hw:Holds w0 H0) (p_x:GAxis) {vp_x1:Value} (Rp_x1:Sl (α:=Str) H0 vp_x1 p_x.fValues) {r:Bool} (h:zCe p_x=some r) :
  Con Tryz.prog 97 [(agg [(str p_x.fName),vp_x1])] w0 H0 (fun H' v=>v=(boo r)):=by
 refine Con.mk (N:=63) Tryz.func97 rfl rfl kr rfl ?_
 have S:=St.start hw
 refine Ws<|Wg ?_
 refine W.box [(str p_x.fName),vp_x1] S rfl rfl ?_
 intro b1 w2 S
 refine A<|We<|Ws<|Ws<|WP.quiet S kr kr<|QFb ?_
 refine WQ.val (fun w hw=>by obtain ⟨_,hq,S⟩:=hw; exact (R.loadB (i:=0) (v:=str p_x.fName) S rfl rfl lay9 rfl))<|B h fun r6 hr6 h=>WQ.call (v:=boo r6) rfl (fun w H' hq S=>zAu S.holds p_x.fName hr6)<|QNo<|QM<|B h fun b18 hg12 h=>WQ.grp 7 [10,11,12,13,14,15] 16 (boo b18) ?_ ?_
 ·rcases boolE (!r6) with hb11 | hb11
  ·replace hg12:=condT hg12 hb11
   refine QGn hb11<|QGn hb11<|QGn hb11<|QGn hb11<|QGn hb11<|QGn hb11<|QPt hb11 ?_
   exact WQ.nil ⟨(congrArg boo (oi hg12)),ag⟩
  replace hg12:=condF hg12 hb11
  refine QGy hb11<|QFb<|QGy hb11 ?_
  refine WQ.val (fun w hw=>by obtain ⟨_,hq,S⟩:=hw; exact (R.loadB (i:=0) (v:=str p_x.fName) S rfl rfl lay9 rfl))<|QGy hb11<|B hg12 fun r13 hr13 hg12=>WQ.call (v:=str r13) rfl (fun w H' hq S=>zBU S.holds p_x.fName hr13)<|QGy hb11<|QFb<|QGy hb11 ?_
  refine WQ.val (fun w hw=>by obtain ⟨_,hq,S⟩:=hw; exact (R.loadB (i:=0) (v:=str p_x.fName) S rfl rfl lay9 rfl))<|QGy hb11<|QNb<|QPf hb11 ?_
  exact WQ.nil ⟨(congrArg boo (oi hg12)),ag⟩
 intro us
 refine QM ?_
 refine WQ.grp 5 [18,19,20,21] 22 (boo (b18||(decide ((p_x.fValues.length:Int)<1)))) ?_ ?_
 ·rcases boolE b18 with hb19 | hb19
  ·refine QGn hb19<|QGn hb19<|QGn hb19<|QGn hb19<|QPt hb19 ?_
   exact WQ.nil ⟨(orT hb19),ag⟩
  refine QGy hb19<|QFb<|QGy hb19 ?_
  refine WQ.val (fun w hw=>by obtain ⟨_,hq,S⟩:=hw; exact (R.loadB (i:=0) (v:=vp_x1) S rfl rfl lay34 rfl))<|QGy hb19<|QNq Rp_x1<|QGy hb19<|QLa<|QPf hb19 ?_
  exact WQ.nil ⟨(orF hb19),ag⟩
 intro us
 refine QM ?_
 refine WQ.grp 5 [24,25,26,27] 28 (boo ((b18||(decide ((p_x.fValues.length:Int)<1)))||(decide (16<(p_x.fValues.length:Int))))) ?_ ?_
 ·rcases boolE (b18||(decide ((p_x.fValues.length:Int)<1))) with hb21 | hb21
  ·refine QGn hb21<|QGn hb21<|QGn hb21<|QGn hb21<|QPt hb21 ?_
   exact WQ.nil ⟨(orT hb21),ag⟩
  refine QGy hb21<|QFb<|QGy hb21 ?_
  refine WQ.val (fun w hw=>by obtain ⟨_,hq,S⟩:=hw; exact (R.loadB (i:=0) (v:=vp_x1) S rfl rfl lay34 rfl))<|QGy hb21<|QNq Rp_x1<|QGy hb21<|QLc<|QPf hb21 ?_
  exact WQ.nil ⟨(orF hb21),ag⟩
 intro us
 refine WQ.nil ?_
 intro w3 H4 hle5 S
 have Rp_x1:=Sl.mono Rp_x1 hle5
 rcases condE h with ⟨hc23,h⟩ | ⟨hc23,h⟩
 ·refine CT hc23<|Ws<|Wg<|A<|We ?_
  obtain rfl:=oi h
  refine WP.ret (Out.one rfl S rfl ?_)
  exact rfl
 refine CF hc23<|Wk<|Ws<|Ws<|Wg<|A<|We<|B h fun r32 hr33 h=>WP.cut (fun f w=>match r32 with | .inl _=>∃ (H28:Hp),St w0 H0 w H28 [] | .inr _=>False) ?_ ?_
 ·refine Wb ?_
  refine WP.loopM (zBq p_x) (fun s f w=>match s with | i_26=>∃ (H24:Hp),f 1=(ptr b1 0)∧f 3=(int i_26)∧Sl (α:=Str) H24 vp_x1 p_x.fValues∧St w0 H0 w H24 [.box b1 68 [(str p_x.fName),vp_x1]]) 0 r32 hr33 ?_ ?_
  ·exact ⟨H4,rfl,rfl,Rp_x1,S⟩
  intro i_26 f w hI y29 hy30 hy31
  obtain ⟨H24,h25,h27,Rp_x1,S⟩:=hI
  refine Ws<|Ws<|Wg<|M' h27<|Fb' h25 ?_
  refine Lo 0 S<|Nq Rp_x1<|La<|We ?_
  rcases condE hy30 with ⟨hc34,hy30⟩ | ⟨hc34,hy30⟩
  ·refine CT hc34<|Wk<|Ws<|Wb<|Ws<|Ws<|WP.quiet S kr kr<|QFb' h25 ?_
   refine WQ.val (fun w hw=>by obtain ⟨_,hq,S⟩:=hw; exact (R.loadB (i:=0) (v:=str p_x.fName) S rfl rfl lay9 rfl))<|QFb' h25 ?_
   refine WQ.val (fun w hw=>by obtain ⟨_,hq,S⟩:=hw; exact (R.loadB (i:=0) (v:=vp_x1) S rfl rfl lay34 rfl))<|QM' h27<|B hy30 fun x38 hx38 hy30=>WQ.idx (α:=Str) Rp_x1 rfl rfl el34 hx38 ?_
   rintro a39 _ hA40 rfl
   refine WQ.val (fun w hw=>by obtain ⟨_,hq,S⟩:=hw; exact (R.loadH (v:=str x38) S rfl (At.mono hA40 hq (by simp)) lay9 rfl))<|B hy30 fun r41 hr41 hy30=>WQ.call (v:=boo r41) rfl (fun w H' hq S=>zJp S.holds p_x.fName x38 hr41)<|QNo<|WQ.nil ?_
   intro w35 H36 hle37 S
   have Rp_x1:=Sl.mono Rp_x1 hle37
   rcases condE hy30 with ⟨hc46,hy30⟩ | ⟨hc46,hy30⟩
   ·refine CT hc46<|Ws<|Wg<|A<|We ?_
    obtain rfl:=oi hy30
    obtain rfl:=hy31
    obtain rfl:=oi h
    refine WP.ret (Out.one rfl S rfl ?_)
    exact rfl
   refine CF hc46<|Wk<|Ws<|Wg<|A<|We<|B hy30 fun r58 hr59 hy30=>WP.cut (fun f w=>match r58 with | .inl _=>∃ (H52:Hp),f 1=(ptr b1 0)∧f 3=(int i_26)∧Sl (α:=Str) H52 vp_x1 p_x.fValues∧St w0 H0 w H52 [.box b1 68 [(str p_x.fName),vp_x1]] | .inr _=>False) ?_ ?_
   ·refine Wb ?_
    refine WP.loopM (zBl p_x i_26) (fun s f w=>match s with | k_50=>∃ (H47:Hp),f 1=(ptr b1 0)∧f 3=(int i_26)∧f 4=(int k_50)∧Sl (α:=Str) H47 vp_x1 p_x.fValues∧St w0 H0 w H47 [.box b1 68 [(str p_x.fName),vp_x1]]) 0 r58 hr59 ?_ ?_
    ·exact ⟨H36,h25,h27,rfl,Rp_x1,S⟩
    intro k_50 f w hI y55 hy56 hy57
    obtain ⟨H47,h48,h49,h51,Rp_x1,S⟩:=hI
    refine Ws<|Ws<|Wg<|M' h51<|M' h49<|La<|We ?_
    rcases condE hy56 with ⟨hc60,hy56⟩ | ⟨hc60,hy56⟩
    ·refine CT hc60<|Wk<|Ws<|Wb<|Ws<|WP.quiet S kr kr<|QFb' h48 ?_
     refine WQ.val (fun w hw=>by obtain ⟨_,hq,S⟩:=hw; exact (R.loadB (i:=0) (v:=str p_x.fName) S rfl rfl lay9 rfl))<|QFb' h48 ?_
     refine WQ.val (fun w hw=>by obtain ⟨_,hq,S⟩:=hw; exact (R.loadB (i:=0) (v:=vp_x1) S rfl rfl lay34 rfl))<|QM' h49<|B hy56 fun x64 hx64 hy56=>WQ.idx (α:=Str) Rp_x1 rfl rfl el34 hx64 ?_
     rintro a65 _ hA66 rfl
     refine WQ.val (fun w hw=>by obtain ⟨_,hq,S⟩:=hw; exact (R.loadH (v:=str x64) S rfl (At.mono hA66 hq (by simp)) lay9 rfl))<|QFb' h48 ?_
     refine WQ.val (fun w hw=>by obtain ⟨_,hq,S⟩:=hw; exact (R.loadB (i:=0) (v:=vp_x1) S rfl rfl lay34 rfl))<|QM' h51<|B hy56 fun x67 hx67 hy56=>WQ.idx (α:=Str) Rp_x1 rfl rfl el34 hx67 ?_
     rintro a68 _ hA69 rfl
     refine WQ.val (fun w hw=>by obtain ⟨_,hq,S⟩:=hw; exact (R.loadH (v:=str x67) S rfl (At.mono hA69 hq (by simp)) lay9 rfl))<|B hy56 fun r70 hr70 hy56=>WQ.call (v:=boo r70) rfl (fun w H' hq S=>zH9 S.holds p_x.fName x64 x67 hr70)<|WQ.nil ?_
     intro w61 H62 hle63 S
     have Rp_x1:=Sl.mono Rp_x1 hle63
     rcases condE hy56 with ⟨hc75,hy56⟩ | ⟨hc75,hy56⟩
     ·refine CT hc75<|Ws<|Wg<|A<|We ?_
      obtain rfl:=oi hy56
      obtain rfl:=hy57
      obtain rfl:=oi hy30
      obtain rfl:=hy31
      obtain rfl:=oi h
      refine WP.ret (Out.one rfl S rfl ?_)
      exact rfl
     refine CF hc75<|Wk<|Wg<|M' h51<|Lg<|A<|We ?_
     obtain rfl:=oi hy56
     exact ⟨rfl,⟨H62,h48,h49,rfl,Rp_x1,S⟩⟩
    refine CF hc60<|Wx ?_
    obtain rfl:=oi hy56
    obtain rfl:=hy57
    exact ⟨H47,h48,h49,Rp_x1,S⟩
   intro f w hM
   rcases r58 with _ | e
   ·obtain ⟨H52,h53,h54,Rp_x1,S⟩:=hM
    refine Wg<|M' h54<|Lg<|A<|We ?_
    obtain rfl:=oi hy30
    exact ⟨rfl,⟨H52,h53,rfl,Rp_x1,S⟩⟩
   exact hM.elim
  refine CF hc34<|Wx ?_
  obtain rfl:=oi hy30
  obtain rfl:=hy31
  exact ⟨H24,(S.drop _ (.cons _ .slnil))⟩
 intro f w hM
 rcases r32 with _ | e
 ·obtain ⟨H28,S⟩:=hM
  refine Ws<|Wg<|A<|We ?_
  obtain rfl:=oi h
  refine WP.ret (Out.one rfl S rfl ?_)
  exact rfl
 exact hM.elim
theorem zJo {w0:World} {H0:Hp} (hw:Holds w0 H0) (p_l:(List GAxis)) {vp_l:Value} (Rp_l:Sl (α:=GAxis) H0 vp_l p_l) {r:Bool} (h:zGQ p_l=some r) :
  Con Tryz.prog 64 [vp_l] w0 H0 (fun H' v=>v=(boo r)):=by
 refine Con.mk (N:=41) Tryz.func64 rfl rfl kr rfl ?_
 have S:=St.start hw
 refine Ws<|Wg<|A<|We<|Ws<|Ws<|Wg<|M<|Nq Rp_l<|La<|M ?_
 refine WL.grp 4 [9,10,11] 12 (boo ((decide ((p_l.length:Int)<1))||(decide (4<(p_l.length:Int))))) ?_ ?_
 ·rcases boolE (decide ((p_l.length:Int)<1)) with hb1 | hb1
  ·refine Gn hb1<|Gn hb1<|Gn hb1<|Pt hb1 ?_
   exact We ⟨(orT hb1),ag,rfl⟩
  refine Gy hb1<|M<|Gy hb1<|Nq Rp_l<|Gy hb1<|Lc<|Pf hb1 ?_
  exact We ⟨(orF hb1),ag,rfl⟩
 intro us
 refine We ?_
 rcases condE h with ⟨hc3,h⟩ | ⟨hc3,h⟩
 ·refine CT hc3<|Ws<|Wg<|A<|We ?_
  obtain rfl:=oi h
  refine WP.ret (Out.one rfl S rfl ?_)
  exact rfl
 refine CF hc3<|Wk<|Ws<|Ws<|Wg<|A<|We<|B h fun r12 hr13 h=>WP.cut (fun f w=>match r12 with | .inl _=>∃ (H8:Hp),St w0 H0 w H8 [] | .inr _=>False) ?_ ?_
 ·refine Wb ?_
  refine WP.loopM (zDF p_l) (fun s f w=>match s with | i_6=>∃ (H4:Hp),f 0=vp_l∧f 3=(int i_6)∧Sl (α:=GAxis) H4 vp_l p_l∧St w0 H0 w H4 []) 0 r12 hr13 ?_ ?_
  ·exact ⟨H0,rfl,rfl,Rp_l,S⟩
  intro i_6 f w hI y9 hy10 hy11
  obtain ⟨H4,h5,h7,Rp_l,S⟩:=hI
  refine Ws<|Ws<|Wg<|M' h7<|M' h5<|Nq Rp_l<|La<|We ?_
  rcases condE hy10 with ⟨hc14,hy10⟩ | ⟨hc14,hy10⟩
  ·refine CT hc14<|Wk<|Ws<|Wb<|Ws<|Ws<|Wg<|M' h5<|M' h7<|B hy10 fun x15 hx15 hy10=>W.idx (α:=GAxis) Rp_l rfl rfl el22 hx15 ?_
   rintro a16 _ hA17 ⟨v18,rfl,R19⟩
   refine WL.w (R.loadHN (vs:=[(str x15.fName),v18]) S rfl hA17 lay68 rfl rfl)<|B hy10 fun r20 hr20 hy10=>W.call S rfl (zFX S.holds x15 R19 hr20) ?_
   rintro v21 w22 H23 hle24 S rfl
   have Rp_l:=Sl.mono Rp_l hle24
   refine No<|We ?_
   rcases condE hy10 with ⟨hc25,hy10⟩ | ⟨hc25,hy10⟩
   ·refine CT hc25<|Ws<|Wg<|A<|We ?_
    obtain rfl:=oi hy10
    obtain rfl:=hy11
    obtain rfl:=oi h
    refine WP.ret (Out.one rfl S rfl ?_)
    exact rfl
   refine CF hc25<|Wk<|Ws<|Wg<|A<|We<|B hy10 fun r37 hr38 hy10=>WP.cut (fun f w=>match r37 with | .inl _=>∃ (H31:Hp),f 0=vp_l∧f 3=(int i_6)∧Sl (α:=GAxis) H31 vp_l p_l∧St w0 H0 w H31 [] | .inr _=>False) ?_ ?_
   ·refine Wb ?_
    refine WP.loopM (zDI p_l i_6) (fun s f w=>match s with | k_29=>∃ (H26:Hp),f 0=vp_l∧f 3=(int i_6)∧f 4=(int k_29)∧Sl (α:=GAxis) H26 vp_l p_l∧St w0 H0 w H26 []) 0 r37 hr38 ?_ ?_
    ·exact ⟨H23,h5,h7,rfl,Rp_l,S⟩
    intro k_29 f w hI y34 hy35 hy36
    obtain ⟨H26,h27,h28,h30,Rp_l,S⟩:=hI
    refine Ws<|Ws<|Wg<|M' h30<|M' h28<|La<|We ?_
    rcases condE hy35 with ⟨hc39,hy35⟩ | ⟨hc39,hy35⟩
    ·refine CT hc39<|Wk<|Ws<|Wb<|Ws<|WP.quiet S kr kr<|QM' h27<|QM' h28<|B hy35 fun x43 hx43 hy35=>WQ.idx (α:=GAxis) Rp_l rfl rfl el22 hx43 ?_
     rintro a44 _ hA45 ⟨v46,rfl,R47⟩
     refine QFc ?_
     have hA48:=At.add hA45 0 (by simp)
     refine WQ.val (fun w hw=>by obtain ⟨_,hq,S⟩:=hw; exact (R.loadH (v:=str x43.fName) S rfl (At.mono hA48 hq (by simp)) lay9 rfl))<|QM' h27<|QM' h30<|B hy35 fun x49 hx49 hy35=>WQ.idx (α:=GAxis) Rp_l rfl rfl el22 hx49 ?_
     rintro a50 _ hA51 ⟨v52,rfl,R53⟩
     refine QFc ?_
     have hA54:=At.add hA51 0 (by simp)
     refine WQ.val (fun w hw=>by obtain ⟨_,hq,S⟩:=hw; exact (R.loadH (v:=str x49.fName) S rfl (At.mono hA54 hq (by simp)) lay9 rfl))<|QNa<|WQ.nil ?_
     intro w40 H41 hle42 S
     have Rp_l:=Sl.mono Rp_l hle42
     rcases condE hy35 with ⟨hc55,hy35⟩ | ⟨hc55,hy35⟩
     ·refine CT hc55<|Ws<|Wg<|A<|We ?_
      obtain rfl:=oi hy35
      obtain rfl:=hy36
      obtain rfl:=oi hy10
      obtain rfl:=hy11
      obtain rfl:=oi h
      refine WP.ret (Out.one rfl S rfl ?_)
      exact rfl
     refine CF hc55<|Wk<|Wg<|M' h30<|Lg<|A<|We ?_
     obtain rfl:=oi hy35
     exact ⟨rfl,⟨H41,h27,h28,rfl,Rp_l,S⟩⟩
    refine CF hc39<|Wx ?_
    obtain rfl:=oi hy35
    obtain rfl:=hy36
    exact ⟨H26,h27,h28,Rp_l,S⟩
   intro f w hM
   rcases r37 with _ | e
   ·obtain ⟨H31,h32,h33,Rp_l,S⟩:=hM
    refine Wg<|M' h33<|Lg<|A<|We ?_
    obtain rfl:=oi hy10
    exact ⟨rfl,⟨H31,h32,rfl,Rp_l,S⟩⟩
   exact hM.elim
  refine CF hc14<|Wx ?_
  obtain rfl:=oi hy10
  obtain rfl:=hy11
  exact ⟨H4,S⟩
 intro f w hM
 rcases r12 with _ | e
 ·obtain ⟨H8,S⟩:=hM
  refine Ws<|Wg<|A<|We ?_
  obtain rfl:=oi h
  refine WP.ret (Out.one rfl S rfl ?_)
  exact rfl
 exact hM.elim
theorem zGm {w0:World} {H0:Hp} (hw:Holds w0 H0) (p_l:(List GField)) (p_name:Str) {vp_l:Value} (Rp_l:Sl (α:=GField) H0 vp_l p_l) {r:(List Str)} (h:zFz p_l p_name=some r) :
  Con Tryz.prog 113 [vp_l,(str p_name)] w0 H0 (fun H' v=>Sl (α:=Str) H' v r):=by
 refine Con.mk (N:=29) Tryz.func113 rfl rfl kr rfl ?_
 have S:=St.start hw
 refine Ws<|Wg<|A<|We<|Ws<|Wg<|A<|We<|Ws<|Ws<|Wg<|A ?_
 refine We ?_
 have S:=S.addNil 9 1
 refine B h fun out_11 hr19 h=>WP.cut (fun f w=>∃ (H10:Hp) (v12:Value),f 5=v12∧Sl (α:=Str) H10 v12 out_11∧St w0 H0 w H10 [.row v12 9 1 out_11.length]) ?_ ?_
 ·refine Wb ?_
  refine WP.loopM (zEa p_l p_name) (fun s f w=>match s with | (out_4,i_8)=>∃ (H1:Hp) (v5:Value),f 0=vp_l∧f 1=(str p_name)∧f 5=v5∧f 6=(int i_8)∧Sl (α:=GField) H1 vp_l p_l∧Sl (α:=Str) H1 v5 out_4∧St w0 H0 w H1 [.row v5 9 1 out_4.length]) (([]:List Str),0) out_11 hr19 ?_ ?_
  ·exact ⟨H0,.slice none 0 0,rfl,rfl,rfl,rfl,Rp_l,Sl.nil,S⟩
  intro s f w hI y15 hy16 hy17
  obtain ⟨out_4,i_8⟩:=s
  obtain ⟨H1,v5,h2,h3,h7,h9,Rp_l,R6,S⟩:=hI
  refine Ws<|Ws<|Wg<|M' h9<|M' h2<|Nq Rp_l<|La<|We ?_
  rcases condE hy16 with ⟨hc20,hy16⟩ | ⟨hc20,hy16⟩
  ·refine CT hc20<|Wk<|Ws<|Wb<|Ws<|Wg<|M' h2<|M' h9<|B hy16 fun x21 hx21 hy16=>W.idx (α:=GField) Rp_l rfl rfl el26 hx21 ?_
   rintro a22 _ hA23 rfl
   refine Fc ?_
   have hA24:=At.add hA23 0 (by simp)
   refine Lq S hA24<|M' h3<|B hy16 fun r25 hr25 hy16=>W.call S rfl (zBS S.holds x21.fName p_name hr25) ?_
   rintro v26 w27 H28 hle29 S rfl
   have Rp_l:=Sl.mono Rp_l hle29
   have R6:=Sl.mono R6 hle29
   refine We ?_
   rcases condE hy16 with ⟨hc30,hy16⟩ | ⟨hc30,hy16⟩
   ·refine CT hc30<|Wg<|M' h7<|M' h2<|M' h9<|B hy16 fun x31 hx31 hy16=>W.idx (α:=GField) Rp_l rfl rfl el26 hx31 ?_
    rintro a32 _ hA33 rfl
    refine Fc ?_
    have hA34:=At.add hA33 1 (by simp)
    refine Lq S hA34<|W.bslice (α:=Str) [(str x31.fValue)] ([x31.fValue]:List Str) S el34 rfl rfl rfl (by decide) (Go.Eng.encS ⟨rfl,rfl⟩ enc0) ?_
    intro u35 w36 H37 hle38 R39 S
    have Rp_l:=Sl.mono Rp_l hle38
    have R6:=Sl.mono R6 hle38
    refine B hy16 fun l40 hl40 hy16=>W.app (α:=Str) (i:=1) S el34 rfl rfl rfl R6 R39 hl40 ?_
    intro v41 w42 H43 hle44 R45 S
    have Rp_l:=Sl.mono Rp_l hle44
    have R6:=Sl.mono R6 hle44
    refine A<|We<|Wg<|M' h9<|Lg<|A<|We ?_
    obtain rfl:=oi hy16
    exact ⟨rfl,⟨H43,v41,h2,h3,rfl,rfl,Rp_l,R45,(S.drop _ (.cons _ (.cons_cons _ .slnil)))⟩⟩
   refine CF hc30<|Wk<|Wg<|M' h9<|Lg<|A<|We ?_
   obtain rfl:=oi hy16
   exact ⟨rfl,⟨H28,v5,h2,h3,h7,rfl,Rp_l,R6,S⟩⟩
  refine CF hc20<|Wx ?_
  obtain rfl:=oi hy16
  obtain rfl:=hy17
  exact ⟨H1,v5,h7,R6,S⟩
 rintro f w ⟨H10,v12,h14,R13,S⟩
 refine Ws<|Wg<|M' h14<|A<|We ?_
 obtain rfl:=oi h
 refine WP.ret (Out.one rfl S rfl ?_)
 exact R13
theorem zLE {w0:World} {H0:Hp} (hw:Holds w0 H0) (p_l:(List GField)) (p_name:Str) {vp_l:Value} (Rp_l:Sl (α:=GField) H0 vp_l p_l) {r:Bool} (h:zHk p_l p_name=some r) :
  Con Tryz.prog 145 [vp_l,(str p_name)] w0 H0 (fun H' v=>v=(boo r)):=by
 refine Con.mk (N:=10) Tryz.func145 rfl rfl kr rfl ?_
 have S:=St.start hw
 refine Ws<|Wg<|A<|We<|Ws<|Wg<|M<|M<|B h fun r1 hr1 h=>W.call S rfl (zGm S.holds p_l p_name Rp_l hr1) ?_
 rintro v2 w3 H4 hle5 S R6
 refine Nq R6<|Lc<|A<|We ?_
 obtain rfl:=oi h
 refine WP.ret (Out.one rfl S rfl ?_)
 exact rfl
theorem zJm {w0:World} {H0:Hp} (hw:Holds w0 H0) (p_value:Str) {r:(List Str)} (h:zGB p_value=some r) :
  Con Tryz.prog 144 [(str p_value)] w0 H0 (fun H' v=>Sl (α:=Str) H' v r):=by
 refine Con.mk (N:=32) Tryz.func144 rfl rfl kr rfl ?_
 have S:=St.start hw
 refine Ws<|Wg<|A<|We<|Ws<|Wg<|A<|We<|Ws<|Wg<|M<|B h fun r1 hr1 h=>W.call S rfl (zIc S.holds p_value 44 hr1) ?_
 rintro v2 w3 H4 hle5 S R6
 refine A<|We<|Ws<|Ws<|Wg<|A<|We ?_
 have S:=S.addNil 9 1
 refine B h fun out_16 hr24 h=>WP.cut (fun f w=>∃ (H15:Hp) (v17:Value),f 3=v17∧Sl (α:=Str) H15 v17 out_16∧St w0 H0 w H15 [.row v17 9 1 out_16.length]) ?_ ?_
 ·refine Wb ?_
  refine WP.loopM (zBT r1) (fun s f w=>match s with | (out_8,i_13)=>∃ (H7:Hp) (v9:Value),f 3=v9∧f 4=v2∧f 5=(int i_13)∧Sl (α:=Str) H7 v9 out_8∧Sl (α:=Str) H7 v2 r1∧St w0 H0 w H7 [.row v9 9 1 out_8.length]) (([]:List Str),0) out_16 hr24 ?_ ?_
  ·exact ⟨H4,.slice none 0 0,rfl,rfl,rfl,Sl.nil,R6,S⟩
  intro s f w hI y20 hy21 hy22
  obtain ⟨out_8,i_13⟩:=s
  obtain ⟨H7,v9,h11,h12,h14,R10,R6,S⟩:=hI
  refine Ws<|Ws<|Wg<|M' h14<|M' h12<|Nq R6<|La<|M ?_
  refine WL.grp 4 [14,15,16] 17 (boo ((decide (i_13<(r1.length:Int)))&&(decide ((out_8.length:Int)<64)))) ?_ ?_
  ·rcases boolE (decide (i_13<(r1.length:Int))) with hb25 | hb25
   ·refine Gy hb25<|M' h11<|Gy hb25<|Nq R10<|Gy hb25<|La<|Pt hb25 ?_
    exact We ⟨(andT hb25),ag,rfl⟩
   refine Gn hb25<|Gn hb25<|Gn hb25<|Pf hb25 ?_
   exact We ⟨(andF hb25),ag,rfl⟩
  intro us
  refine We ?_
  rcases condE hy21 with ⟨hc27,hy21⟩ | ⟨hc27,hy21⟩
  ·refine CT hc27<|Wk<|Ws<|Wb<|Ws<|Wg<|M' h12<|M' h14<|B hy21 fun x28 hx28 hy21=>W.idx (α:=Str) R6 rfl rfl el34 hx28 ?_
   rintro a29 _ hA30 rfl
   refine Lq S hA30<|B hy21 fun r31 hr31 hy21=>W.call S rfl (zE0 S.holds x28 hr31) ?_
   rintro v32 w33 H34 hle35 S rfl
   have R10:=Sl.mono R10 hle35
   have R6:=Sl.mono R6 hle35
   refine A<|We<|Ws<|Wg<|M<|Nb<|We ?_
   rcases condE hy21 with ⟨hc36,hy21⟩ | ⟨hc36,hy21⟩
   ·refine CT hc36<|Wg<|M' h11<|M<|W.bslice (α:=Str) [(str r31)] ([r31]:List Str) S el34 rfl rfl rfl (by decide) (Go.Eng.encS ⟨rfl,rfl⟩ enc0) ?_
    intro u37 w38 H39 hle40 R41 S
    have R10:=Sl.mono R10 hle40
    have R6:=Sl.mono R6 hle40
    refine B hy21 fun l42 hl42 hy21=>W.app (α:=Str) (i:=1) S el34 rfl rfl rfl R10 R41 hl42 ?_
    intro v43 w44 H45 hle46 R47 S
    have R10:=Sl.mono R10 hle46
    have R6:=Sl.mono R6 hle46
    refine A<|We<|Wg<|M' h14<|Lg<|A<|We ?_
    obtain rfl:=oi hy21
    exact ⟨rfl,⟨H45,v43,rfl,h12,rfl,R47,R6,(S.drop _ (.cons _ (.cons_cons _ .slnil)))⟩⟩
   refine CF hc36<|Wk<|Wg<|M' h14<|Lg<|A<|We ?_
   obtain rfl:=oi hy21
   exact ⟨rfl,⟨H34,v9,h11,h12,rfl,R10,R6,S⟩⟩
  refine CF hc27<|Wx ?_
  obtain rfl:=oi hy21
  obtain rfl:=hy22
  exact ⟨H7,v9,h11,R10,S⟩
 rintro f w ⟨H15,v17,h19,R18,S⟩
 refine Ws<|Wg<|M' h19<|A<|We ?_
 obtain rfl:=oi h
 refine WP.ret (Out.one rfl S rfl ?_)
 exact R18
theorem zGj {w0:World} {H0:Hp} (hw:Holds w0 H0) (p_l:(List GField)) (p_name:Str) {vp_l:Value} (Rp_l:Sl (α:=GField) H0 vp_l p_l) {r:(List Str)} (h:zFC p_l p_name=some r) :
  Con Tryz.prog 114 [vp_l,(str p_name)] w0 H0 (fun H' v=>Sl (α:=Str) H' v r):=by
 refine Con.mk (N:=43) Tryz.func114 rfl rfl kr rfl ?_
 have S:=St.start hw
 refine Ws<|Wg<|A<|We<|Ws<|Wg<|A<|We<|Ws<|Wg<|M<|M<|B h fun r1 hr1 h=>W.call S rfl (zGm S.holds p_l p_name Rp_l hr1) ?_
 rintro v2 w3 H4 hle5 S R6
 refine A<|We<|Ws<|Ws<|Wg<|A<|We ?_
 have S:=S.addNil 9 1
 refine B h fun out_16 hr24 h=>WP.cut (fun f w=>∃ (H15:Hp) (v17:Value),f 5=v17∧Sl (α:=Str) H15 v17 out_16∧St w0 H0 w H15 [.row v17 9 1 out_16.length]) ?_ ?_
 ·refine Wb ?_
  refine WP.loopM (zEW r1) (fun s f w=>match s with | (out_8,i_13)=>∃ (H7:Hp) (v9:Value),f 5=v9∧f 6=v2∧f 7=(int i_13)∧Sl (α:=Str) H7 v9 out_8∧Sl (α:=Str) H7 v2 r1∧St w0 H0 w H7 [.row v9 9 1 out_8.length]) (([]:List Str),0) out_16 hr24 ?_ ?_
  ·exact ⟨H4,.slice none 0 0,rfl,rfl,rfl,Sl.nil,R6,S⟩
  intro s f w hI y20 hy21 hy22
  obtain ⟨out_8,i_13⟩:=s
  obtain ⟨H7,v9,h11,h12,h14,R10,R6,S⟩:=hI
  refine Ws<|Ws<|Wg<|M' h14<|M' h12<|Nq R6<|La<|We ?_
  rcases condE hy21 with ⟨hc25,hy21⟩ | ⟨hc25,hy21⟩
  ·refine CT hc25<|Wk<|Ws<|Wb<|Ws<|Wg<|M' h12<|M' h14<|B hy21 fun x26 hx26 hy21=>W.idx (α:=Str) R6 rfl rfl el34 hx26 ?_
   rintro a27 _ hA28 rfl
   refine Lq S hA28<|B hy21 fun r29 hr29 hy21=>W.call S rfl (zJm S.holds x26 hr29) ?_
   rintro v30 w31 H32 hle33 S R34
   have R10:=Sl.mono R10 hle33
   have R6:=Sl.mono R6 hle33
   refine A<|We<|Ws<|Wg<|A<|We<|B hy21 fun out_46 hr56 hy21=>WP.cut (fun f w=>∃ (H45:Hp) (v47:Value),f 5=v47∧f 6=v2∧f 7=(int i_13)∧Sl (α:=Str) H45 v47 out_46∧Sl (α:=Str) H45 v2 r1∧St w0 H0 w H45 [.row v47 9 1 out_46.length]) ?_ ?_
   ·refine Wb ?_
    refine WP.loopM (zB7 r29) (fun s f w=>match s with | (out_36,k_43)=>∃ (H35:Hp) (v37:Value),f 5=v37∧f 6=v2∧f 7=(int i_13)∧f 8=v30∧f 9=(int k_43)∧Sl (α:=Str) H35 v37 out_36∧Sl (α:=Str) H35 v2 r1∧Sl (α:=Str) H35 v30 r29∧St w0 H0 w H35 [.row v37 9 1 out_36.length]) (out_8,0) out_46 hr56 ?_ ?_
    ·exact ⟨H32,v9,h11,h12,h14,rfl,rfl,R10,R6,R34,S⟩
    intro s f w hI y52 hy53 hy54
    obtain ⟨out_36,k_43⟩:=s
    obtain ⟨H35,v37,h39,h40,h41,h42,h44,R38,R6,R34,S⟩:=hI
    refine Ws<|Ws<|Wg<|M' h44<|M' h42<|Nq R34<|La<|M ?_
    refine WL.grp 4 [29,30,31] 32 (boo ((decide (k_43<(r29.length:Int)))&&(decide ((out_36.length:Int)<64)))) ?_ ?_
    ·rcases boolE (decide (k_43<(r29.length:Int))) with hb57 | hb57
     ·refine Gy hb57<|M' h39<|Gy hb57<|Nq R38<|Gy hb57<|La<|Pt hb57 ?_
      exact We ⟨(andT hb57),ag,rfl⟩
     refine Gn hb57<|Gn hb57<|Gn hb57<|Pf hb57 ?_
     exact We ⟨(andF hb57),ag,rfl⟩
    intro us
    refine We ?_
    rcases condE hy53 with ⟨hc59,hy53⟩ | ⟨hc59,hy53⟩
    ·refine CT hc59<|Wk<|Ws<|Wb<|Wg<|M' h39<|M' h42<|M' h44<|B hy53 fun x60 hx60 hy53=>W.idx (α:=Str) R34 rfl rfl el34 hx60 ?_
     rintro a61 _ hA62 rfl
     refine Lq S hA62<|W.bslice (α:=Str) [(str x60)] ([x60]:List Str) S el34 rfl rfl rfl (by decide) (Go.Eng.encS ⟨rfl,rfl⟩ enc0) ?_
     intro u63 w64 H65 hle66 R67 S
     have R38:=Sl.mono R38 hle66
     have R6:=Sl.mono R6 hle66
     have R34:=Sl.mono R34 hle66
     refine B hy53 fun l68 hl68 hy53=>W.app (α:=Str) (i:=1) S el34 rfl rfl rfl R38 R67 hl68 ?_
     intro v69 w70 H71 hle72 R73 S
     have R38:=Sl.mono R38 hle72
     have R6:=Sl.mono R6 hle72
     have R34:=Sl.mono R34 hle72
     refine A<|We<|Wg<|M' h44<|Lg<|A<|We ?_
     obtain rfl:=oi hy53
     exact ⟨rfl,⟨H71,v69,rfl,h40,h41,h42,rfl,R73,R6,R34,(S.drop _ (.cons _ (.cons_cons _ .slnil)))⟩⟩
    refine CF hc59<|Wx ?_
    obtain rfl:=oi hy53
    obtain rfl:=hy54
    exact ⟨H35,v37,h39,h40,h41,R38,R6,S⟩
   rintro f w ⟨H45,v47,h49,h50,h51,R48,R6,S⟩
   refine Wg<|M' h51<|Lg<|A<|We ?_
   obtain rfl:=oi hy21
   exact ⟨rfl,⟨H45,v47,h49,h50,rfl,R48,R6,S⟩⟩
  refine CF hc25<|Wx ?_
  obtain rfl:=oi hy21
  obtain rfl:=hy22
  exact ⟨H7,v9,h11,R10,S⟩
 rintro f w ⟨H15,v17,h19,R18,S⟩
 refine Ws<|Wg<|M' h19<|A<|We ?_
 obtain rfl:=oi h
 refine WP.ret (Out.one rfl S rfl ?_)
 exact R18
theorem zI5 {w0:World} {H0:Hp} (hw:Holds w0 H0) (p_ppend:Str) {r:(Int×Bool)} (h:zDc p_ppend=some r) :
  Con Tryz.prog 188 [(str p_ppend)] w0 H0 (fun H' v=>v=(.tuple ⟨[(int r.1),(boo r.2)]⟩)):=by
 refine Con.mk (N:=65) Tryz.func188 rfl rfl kr rfl ?_
 have S:=St.start hw
 refine Ws<|Wg<|A<|A<|We<|Ws<|Ws<|Wg<|M<|Ns<|La<|M ?_
 refine WL.grp 4 [11,12,13] 14 (boo ((decide ((p_ppend.length:Int)<1))||(decide (5<(p_ppend.length:Int))))) ?_ ?_
 ·rcases boolE (decide ((p_ppend.length:Int)<1)) with hb1 | hb1
  ·refine Gn hb1<|Gn hb1<|Gn hb1<|Pt hb1 ?_
   exact We ⟨(orT hb1),ag,rfl⟩
  refine Gy hb1<|M<|Gy hb1<|Ns<|Gy hb1<|Lc<|Pf hb1 ?_
  exact We ⟨(orF hb1),ag,rfl⟩
 intro us
 refine M<|B h fun b10 hg4 h=>WL.grp 9 [16,17,18,19,20,21,22,23] 24 (boo b10) ?_ ?_
 ·rcases boolE ((decide ((p_ppend.length:Int)<1))||(decide (5<(p_ppend.length:Int)))) with hb3 | hb3
  ·replace hg4:=condT hg4 hb3
   refine Gn hb3<|Gn hb3<|Gn hb3<|Gn hb3<|WL.gund rfl rfl<|WL.gund rfl rfl<|WL.gund rfl rfl<|Gn hb3<|Pt hb3 ?_
   exact We ⟨(congrArg boo (oi hg4)),ag,rfl⟩
  replace hg4:=condF hg4 hb3
  refine Gy hb3<|M<|Gy hb3<|B hg4 fun c5 hc5 hg4=>Ja hc5<|Gy hb3<|Mf c5 48<|Gy hb3<|M<|B hg4 fun b9 hg7 hg4=>WL.grp 4 [20,21,22] 23 (boo b9) ?_ ?_
  ·rcases boolE (c5 !=48) with hb6 | hb6
   ·replace hg7:=condT hg7 hb6
    refine Gy hb6<|M<|Gy hb6<|B hg7 fun c8 hc8 hg7=>Ja hc8<|Gy hb6<|Mf c8 49<|Gy hb3<|Pt hb6 ?_
    exact We ⟨(congrArg boo (oi hg7)),ag,rfl⟩
   replace hg7:=condF hg7 hb6
   refine Gn hb6<|Gn hb6<|Gn hb6<|Gy hb3<|Pf hb6 ?_
   exact We ⟨(congrArg boo (oi hg7)),ag,rfl⟩
  intro us
  refine Pf hb3 ?_
  exact We ⟨(congrArg boo (oi hg4)),ag,rfl⟩
 intro us
 refine M<|B h fun b17 hg12 h=>WL.grp 9 [26,27,28,29,30,31,32,33] 34 (boo b17) ?_ ?_
 ·rcases boolE b10 with hb11 | hb11
  ·replace hg12:=condT hg12 hb11
   refine Gn hb11<|Gn hb11<|Gn hb11<|Gn hb11<|WL.gund rfl rfl<|WL.gund rfl rfl<|WL.gund rfl rfl<|Gn hb11<|Pt hb11 ?_
   exact We ⟨(congrArg boo (oi hg12)),ag,rfl⟩
  replace hg12:=condF hg12 hb11
  refine Gy hb11<|M<|Gy hb11<|Ns<|Gy hb11<|Lc<|Gy hb11<|M<|B hg12 fun b16 hg14 hg12=>WL.grp 4 [30,31,32] 33 (boo b16) ?_ ?_
  ·rcases boolE (decide (1<(p_ppend.length:Int))) with hb13 | hb13
   ·replace hg14:=condT hg14 hb13
    refine Gy hb13<|M<|Gy hb13<|B hg14 fun c15 hc15 hg14=>Ja hc15<|Gy hb13<|Mf c15 46<|Gy hb11<|Pt hb13 ?_
    exact We ⟨(congrArg boo (oi hg14)),ag,rfl⟩
   replace hg14:=condF hg14 hb13
   refine Gn hb13<|Gn hb13<|Gn hb13<|Gy hb11<|Pf hb13 ?_
   exact We ⟨(congrArg boo (oi hg14)),ag,rfl⟩
  intro us
  refine Pf hb11 ?_
  exact We ⟨(congrArg boo (oi hg12)),ag,rfl⟩
 intro us
 refine We ?_
 rcases condE h with ⟨hc18,h⟩ | ⟨hc18,h⟩
 ·refine CT hc18<|Ws<|Wg<|A<|A<|We ?_
  obtain rfl:=oi h
  refine WP.ret (Out.two rfl S rfl rfl ?_)
  exact rfl
 refine CF hc18<|Wk<|Ws<|Wg<|M<|B h fun c19 hc19 h=>Ja hc19<|Mh c19 48 ?_
 refine WL.w (R.i64of8 (a:=c19 - 48) rfl Tryz.underlying5 Tryz.underlying3)<|Li<|A<|We<|Ws<|Wg<|A<|We<|Ws<|Ws ?_
 refine Wg<|A<|We<|B h fun r34 hr35 h=>WP.cut (fun f w=>match r34 with | .inl y_29=>∃ (H28:Hp),f 4=(int y_29)∧St w0 H0 w H28 [] | .inr _=>False) ?_ ?_
 ·refine Wb ?_
  refine WP.loopM (zBa p_ppend) (fun s f w=>match s with | (y_22,y_24,y_26)=>∃ (H20:Hp),f 0=(str p_ppend)∧f 4=(int y_22)∧f 5=(int y_24)∧f 6=(int y_26)∧St w0 H0 w H20 []) (wr (((c19 - 48).toNat:Int)*1000),100,2) r34 hr35 ?_ ?_
  ·exact ⟨H0,rfl,rfl,rfl,rfl,S⟩
  intro s f w hI y31 hy32 hy33
  obtain ⟨y_22,y_24,y_26⟩:=s
  obtain ⟨H20,h21,h23,h25,h27,S⟩:=hI
  refine Ws<|Ws<|Wg<|M' h27<|M' h21<|Ns<|La<|We ?_
  rcases condE hy32 with ⟨hc36,hy32⟩ | ⟨hc36,hy32⟩
  ·refine CT hc36<|Wk<|Ws<|Wb<|Ws<|Ws<|Wg<|M' h21<|M' h27<|B hy32 fun c37 hc37 hy32=>Ja hc37<|B hy32 fun r38 hr38 hy32=>W.call S rfl (zHQ S.holds c37 hr38) ?_
   rintro v39 w40 H41 hle42 S rfl
   refine No<|We ?_
   rcases condE hy32 with ⟨hc43,hy32⟩ | ⟨hc43,hy32⟩
   ·refine CT hc43<|Ws<|Wg<|A<|A<|We ?_
    obtain rfl:=oi hy32
    obtain rfl:=hy33
    obtain rfl:=oi h
    refine WP.ret (Out.two rfl S rfl rfl ?_)
    exact rfl
   refine CF hc43<|Wk<|Ws<|Wg<|M' h23<|M' h21<|M' h27<|B hy32 fun c44 hc44 hy32=>Ja hc44<|Mh c44 48 ?_
   refine WL.w (R.i64of8 (a:=c44 - 48) rfl Tryz.underlying5 Tryz.underlying3)<|M' h25<|Li<|Lg<|A<|We<|Wg<|M' h25<|B hy32 fun n45 hn45 hy32=>?_
   refine WL.w (R.quo' rfl rfl hn45)<|A<|We<|Wg<|M' h27<|Lg<|A<|We ?_
   obtain rfl:=oi hy32
   exact ⟨rfl,⟨H41,h21,rfl,rfl,rfl,S⟩⟩
  refine CF hc36<|Wx ?_
  obtain rfl:=oi hy32
  obtain rfl:=hy33
  exact ⟨H20,h23,S⟩
 intro f w hM
 rcases r34 with y_29 | e
 ·obtain ⟨H28,h30,S⟩:=hM
  refine Ws<|Ws<|Wg<|M' h30<|Lc<|We ?_
  rcases condE h with ⟨hc46,h⟩ | ⟨hc46,h⟩
  ·refine CT hc46<|Ws<|Wg<|A<|A<|We ?_
   obtain rfl:=oi h
   refine WP.ret (Out.two rfl S rfl rfl ?_)
   exact rfl
  refine CF hc46<|Wk<|Ws<|Wg<|M' h30<|A<|A<|We ?_
  obtain rfl:=oi h
  refine WP.ret (Out.two rfl S rfl rfl ?_)
  exact rfl
 exact hM.elim
theorem zJn {w0:World} {H0:Hp} (hw:Holds w0 H0) (p_s:Str) {r:Str} (h:zE7 p_s=some r) :
  Con Tryz.prog 255 [(str p_s)] w0 H0 (fun H' v=>v=(str r)):=by
 refine Con.mk (N:=35) Tryz.func255 rfl rfl kr rfl ?_
 have S:=St.start hw
 refine Ws<|Wg<|A<|We<|Ws<|Wg<|W.bslice (α:=UInt8) [(byt 34)] ([34]:List UInt8) S el128 rfl rfl rfl (by decide) (Go.Eng.encS ⟨rfl,rfl⟩ enc0) ?_
 intro u1 w2 H3 hle4 R5 S
 refine A<|We<|Ws<|Ws<|Wg<|A<|We<|B h fun b_15 hr23 h=>WP.cut (fun f w=>∃ (H14:Hp) (v16:Value),f 3=v16∧Sl (α:=UInt8) H14 v16 b_15∧St w0 H0 w H14 [.row v16 5 1 b_15.length]) ?_ ?_
 ·refine Wb ?_
  refine WP.loopM (zDA p_s) (fun s f w=>match s with | (b_8,i_12)=>∃ (H6:Hp) (v9:Value),f 0=(str p_s)∧f 3=v9∧f 4=(int i_12)∧Sl (α:=UInt8) H6 v9 b_8∧St w0 H0 w H6 [.row v9 5 1 b_8.length]) (([34]:List UInt8),0) b_15 hr23 ?_ ?_
  ·exact ⟨H3,u1,rfl,rfl,rfl,R5,S⟩
  intro s f w hI y19 hy20 hy21
  obtain ⟨b_8,i_12⟩:=s
  obtain ⟨H6,v9,h7,h11,h13,R10,S⟩:=hI
  refine Ws<|Ws<|Wg<|M' h13<|M' h7<|Ns<|La<|We ?_
  rcases condE hy20 with ⟨hc24,hy20⟩ | ⟨hc24,hy20⟩
  ·refine CT hc24<|Wk<|Ws<|Wb<|Ws<|Ws<|Wg<|M' h7<|M' h13<|B hy20 fun c25 hc25 hy20=>Ja hc25<|Me c25 34<|M<|B hy20 fun b29 hg27 hy20=>WL.grp 5 [17,18,19,20] 21 (boo b29) ?_ ?_
   ·rcases boolE (c25==34) with hb26 | hb26
    ·replace hg27:=condT hg27 hb26
     refine Gn hb26<|Gn hb26<|Gn hb26<|Gn hb26<|Pt hb26 ?_
     exact We ⟨(congrArg boo (oi hg27)),ag,rfl⟩
    replace hg27:=condF hg27 hb26
    refine Gy hb26<|M' h7<|Gy hb26<|M' h13<|Gy hb26<|B hg27 fun c28 hc28 hg27=>Ja hc28<|Gy hb26<|Me c28 92<|Pf hb26 ?_
    exact We ⟨(congrArg boo (oi hg27)),ag,rfl⟩
   intro us
   refine We<|B hy20 fun b_32 hj37 hy20=>WP.cut (fun f w=>∃ (H30:Hp) (v33:Value),f 0=(str p_s)∧f 3=v33∧f 4=(int i_12)∧Sl (α:=UInt8) H30 v33 b_32∧St w0 H0 w H30 [.row v33 5 1 b_32.length]) ?_ ?_
   ·rcases condE hj37 with ⟨hc39,hj37⟩ | ⟨hc39,hj37⟩
    ·refine CT hc39<|Wg<|M' h11<|W.bslice (α:=UInt8) [(byt 92)] ([92]:List UInt8) S el128 rfl rfl rfl (by decide) (Go.Eng.encS ⟨rfl,rfl⟩ enc0) ?_
     intro u40 w41 H42 hle43 R44 S
     have R10:=Sl.mono R10 hle43
     refine B hj37 fun l45 hl45 hj37=>W.app (α:=UInt8) (i:=1) S el128 rfl rfl rfl R10 R44 hl45 ?_
     intro v46 w47 H48 hle49 R50 S
     have R10:=Sl.mono R10 hle49
     refine A<|We ?_
     obtain rfl:=oi hj37
     exact ⟨H48,v46,h7,rfl,h13,R50,(S.drop _ (.cons _ (.cons_cons _ .slnil)))⟩
    refine CF hc39<|Wk ?_
    obtain rfl:=oi hj37
    exact ⟨H6,v9,h7,h11,h13,R10,S⟩
   rintro f w ⟨H30,v33,h31,h35,h36,R34,S⟩
   refine Wg<|M' h35<|M' h31<|M' h36<|B hy20 fun c51 hc51 hy20=>Ja hc51<|W.bslice (α:=UInt8) [(byt c51)] ([c51]:List UInt8) S el128 rfl rfl rfl (by decide) (Go.Eng.encS ⟨rfl,rfl⟩ enc0) ?_
   intro u52 w53 H54 hle55 R56 S
   have R34:=Sl.mono R34 hle55
   refine B hy20 fun l57 hl57 hy20=>W.app (α:=UInt8) (i:=1) S el128 rfl rfl rfl R34 R56 hl57 ?_
   intro v58 w59 H60 hle61 R62 S
   refine A<|We<|Wg<|M' h36<|Lg<|A<|We ?_
   obtain rfl:=oi hy20
   exact ⟨rfl,⟨H60,v58,h31,rfl,rfl,R62,(S.drop _ (.cons _ (.cons_cons _ .slnil)))⟩⟩
  refine CF hc24<|Wx ?_
  obtain rfl:=oi hy20
  obtain rfl:=hy21
  exact ⟨H6,v9,h11,R10,S⟩
 rintro f w ⟨H14,v16,h18,R17,S⟩
 refine Ws<|Wg<|M' h18<|W.bslice (α:=UInt8) [(byt 34)] ([34]:List UInt8) S el128 rfl rfl rfl (by decide) (Go.Eng.encS ⟨rfl,rfl⟩ enc0) ?_
 intro u63 w64 H65 hle66 R67 S
 have R17:=Sl.mono R17 hle66
 refine B h fun l68 hl68 h=>W.app (α:=UInt8) (i:=1) S el128 rfl rfl rfl R17 R67 hl68 ?_
 intro v69 w70 H71 hle72 R73 S
 refine WL.w (R.strL S R73 rfl Tryz.underlying128 Tryz.underlying9 Tryz.underlying5)<|A<|We ?_
 obtain rfl:=oi h
 refine WP.ret (Out.one rfl S rfl ?_)
 exact rfl
theorem zGq {w0:World} {H0:Hp} (hw:Holds w0 H0) (p_value:Str) (p_l:(List GParam)) {vp_l:Value} (Rp_l:Sl (α:=GParam) H0 vp_l p_l) {r:Str} (h:zCV p_value p_l=some r) :
  Con Tryz.prog 227 [(str p_value),vp_l] w0 H0 (fun H' v=>v=(str r)):=by
 refine Con.mk (N:=35) Tryz.func227 rfl rfl kr rfl ?_
 have S:=St.start hw
 refine Ws<|Wg<|A<|We<|Ws<|Ws<|Wg<|A<|We<|B h fun value_8 hr14 h=>WP.cut (fun f w=>∃ (H7:Hp),f 0=(str value_8)∧St w0 H0 w H7 []) ?_ ?_
 ·refine Wb ?_
  refine WP.loopM (zBF p_l) (fun s f w=>match s with | (value_2,i_5)=>∃ (H1:Hp),f 0=(str value_2)∧f 1=vp_l∧f 5=(int i_5)∧Sl (α:=GParam) H1 vp_l p_l∧St w0 H0 w H1 []) (p_value,0) value_8 hr14 ?_ ?_
  ·exact ⟨H0,rfl,rfl,rfl,Rp_l,S⟩
  intro s f w hI y10 hy11 hy12
  obtain ⟨value_2,i_5⟩:=s
  obtain ⟨H1,h3,h4,h6,Rp_l,S⟩:=hI
  refine Ws<|Ws<|Wg<|M' h6<|M' h4<|Nq Rp_l<|La<|We ?_
  rcases condE hy11 with ⟨hc15,hy11⟩ | ⟨hc15,hy11⟩
  ·refine CT hc15<|Wk<|Ws<|Wb<|Ws<|Wg<|M' h4<|M' h6<|B hy11 fun x16 hx16 hy11=>W.idx (α:=GParam) Rp_l rfl rfl el156 hx16 ?_
   rintro a17 _ hA18 rfl
   refine Fc ?_
   have hA19:=At.add hA18 1 (by simp)
   refine Lq S hA19<|A<|We<|Ws<|Ws<|Wg<|M<|B hy11 fun r20 hr20 hy11=>W.call S rfl (zAu S.holds x16.fValue hr20) ?_
   rintro v21 w22 H23 hle24 S rfl
   have Rp_l:=Sl.mono Rp_l hle24
   refine No<|We<|B hy11 fun v_29 hj31 hy11=>WP.cut (fun f w=>∃ (H25:Hp),f 0=(str value_2)∧f 1=vp_l∧f 5=(int i_5)∧f 6=(str v_29)∧Sl (α:=GParam) H25 vp_l p_l∧St w0 H0 w H25 []) ?_ ?_
   ·rcases condE hj31 with ⟨hc33,hj31⟩ | ⟨hc33,hj31⟩
    ·refine CT hc33<|Wg<|M<|B hj31 fun r34 hr34 hj31=>W.call S rfl (zJn S.holds x16.fValue hr34) ?_
     rintro v35 w36 H37 hle38 S rfl
     have Rp_l:=Sl.mono Rp_l hle38
     refine A<|We ?_
     obtain rfl:=oi hj31
     exact ⟨H37,h3,h4,h6,rfl,Rp_l,S⟩
    refine CF hc33<|Wk ?_
    obtain rfl:=oi hj31
    exact ⟨H23,h3,h4,h6,rfl,Rp_l,S⟩
   rintro f w ⟨H25,h26,h27,h28,h30,Rp_l,S⟩
   refine Wg<|M' h26<|M' h27<|M' h28<|B hy11 fun x39 hx39 hy11=>W.idx (α:=GParam) Rp_l rfl rfl el156 hx39 ?_
   rintro a40 _ hA41 rfl
   refine Fc ?_
   have hA42:=At.add hA41 0 (by simp)
   refine Lq S hA42<|B hy11 fun s43 hs43 hy11=>Je hs43<|B hy11 fun s44 hs44 hy11=>Je hs44<|M' h30<|B hy11 fun s45 hs45 hy11=>Je hs45<|B hy11 fun s46 hs46 hy11=>Je hs46<|A<|We<|Wg<|M' h28<|Lg<|A<|We ?_
   obtain rfl:=oi hy11
   exact ⟨rfl,⟨H25,rfl,h27,rfl,Rp_l,S⟩⟩
  refine CF hc15<|Wx ?_
  obtain rfl:=oi hy11
  obtain rfl:=hy12
  exact ⟨H1,h3,S⟩
 rintro f w ⟨H7,h9,S⟩
 refine Ws<|Wg<|M' h9<|A<|We ?_
 obtain rfl:=oi h
 refine WP.ret (Out.one rfl S rfl ?_)
 exact rfl
theorem zHW {w0:World} {H0:Hp} (hw:Holds w0 H0) (p_t:GMediaType) {vp_t2:Value} (Rp_t2:Sl (α:=GParam) H0 vp_t2 p_t.fParams) {r:Str} (h:zCF p_t=some r) :
  Con Tryz.prog 190 [(agg [(str p_t.fType),(str p_t.fSub),vp_t2])] w0 H0 (fun H' v=>v=(str r)):=by
 refine Con.mk (N:=12) Tryz.func190 rfl rfl kr rfl ?_
 have S:=St.start hw
 refine Ws<|Wg ?_
 refine W.box [(str p_t.fType),(str p_t.fSub),vp_t2] S rfl rfl ?_
 intro b1 w2 S
 refine A<|We<|Ws<|Wg<|Fb ?_
 refine Lo 0 S<|B h fun s3 hs3 h=>Je hs3<|Fb ?_
 refine Lo 0 S<|B h fun s4 hs4 h=>Je hs4<|Fb ?_
 refine Lo 0 S<|B h fun r5 hr5 h=>W.call S rfl (zGq S.holds s4 p_t.fParams Rp_t2 hr5) ?_
 rintro v6 w7 H8 hle9 S rfl
 refine A<|We ?_
 obtain rfl:=oi h
 refine WP.ret (Out.one rfl S rfl ?_)
 exact rfl
theorem zHS {w0:World} {H0:Hp} (hw:Holds w0 H0) (p_s:Str) {r:Bool} (h:zED p_s=some r) :
  Con Tryz.prog 191 [(str p_s)] w0 H0 (fun H' v=>v=(boo r)):=by
 refine Con.mk (N:=9) Tryz.func191 rfl rfl kr rfl ?_
 have S:=St.start hw
 refine Ws<|Wg<|A<|We<|Ws<|Wg<|M<|Na<|M<|B h fun b8 hg2 h=>WL.grpw 3 [6,7] 8 (boo b8) (fun w=>∃ H':Hp,H0.le H'∧St w0 H0 w H' []) ?_ ?_
 ·rcases boolE (p_s==[42]) with hb1 | hb1
  ·replace hg2:=condT hg2 hb1
   refine Gn hb1<|Gn hb1<|Pt hb1 ?_
   exact We ⟨(congrArg boo (oi hg2)),ag,⟨H0,(Hp.le.refl _),S⟩⟩
  replace hg2:=condF hg2 hb1
  refine Gy hb1<|M<|Gy hb1<|B hg2 fun r3 hr3 hg2=>W.call S rfl (zGx S.holds p_s hr3) ?_
  rintro v4 w5 H6 hle7 S rfl
  refine Pf hb1 ?_
  exact We ⟨(congrArg boo (oi hg2)),ag,⟨H6,hle7,S⟩⟩
 intro us w10 ⟨H9,hle11,S⟩
 refine A<|We ?_
 obtain rfl:=oi h
 refine WP.ret (Out.one rfl S rfl ?_)
 exact rfl
end Go.Proofs
