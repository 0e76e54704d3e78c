/- A part of the proof of laws of the seat: written by program over the translation. -/
import Derived.Test.YtipgfplekgdoiaaGreatDoorEng38
import Derived.Test.YtipgfplekgdoiaaGreatDoorEng32
import Derived.Test.YtipgfplekgdoiaaGreatDoorGenK13
namespace Go.Proofs
set_option maxHeartbeats 4000000
set_option maxRecDepth 10000
open Go.Eng Go.Eng.Pure
set_option linter.unusedVariables false
theorem zIS {w0:World} {H0:Hp} (hw:Holds w0 H0) (p_names:(List Str)) (p_l:(List GField)) {vp_names:Value} {vp_l:Value} (Rp_names:Sl (α:=Str) H0 vp_names p_names) (Rp_l:Sl (α:=GField) H0 vp_l p_l) {r:(List Str)} (h:zEQ p_names p_l=some r) :
  Con Tryz.prog 54 [vp_names,vp_l] w0 H0 (fun H' v=>Sl (α:=Str) H' v r):=by
 refine Con.mk (N:=23) Tryz.func54 rfl rfl kr rfl ?_
 have S:=St.start hw
 refine Ws<|Wg<|A<|We<|Ws<|Wg<|A<|We<|Ws<|Ws<|Wg<|A ?_
 refine We ?_
 have S:=S.addNil 9 1
 refine B h fun out_11 hr19 h=>WP.cut (fun f w=>∃ (H10:Hp) (v12:Value),f 5=v12∧Sl (α:=Str) H10 v12 out_11∧St w0 H0 w H10 [.row v12 9 1 out_11.length]) ?_ ?_
 ·refine Wb ?_
  refine WP.loopM (zB3 p_names p_l) (fun s f w=>match s with | (out_4,i_8)=>∃ (H1:Hp) (v5:Value),f 0=vp_names∧f 1=vp_l∧f 5=v5∧f 6=(int i_8)∧Sl (α:=Str) H1 vp_names p_names∧Sl (α:=GField) H1 vp_l p_l∧Sl (α:=Str) H1 v5 out_4∧St w0 H0 w H1 [.row v5 9 1 out_4.length]) (([]:List Str),0) out_11 hr19 ?_ ?_
  ·exact ⟨H0,.slice none 0 0,rfl,rfl,rfl,rfl,Rp_names,Rp_l,Sl.nil,S⟩
  intro s f w hI y15 hy16 hy17
  obtain ⟨out_4,i_8⟩:=s
  obtain ⟨H1,v5,h2,h3,h7,h9,Rp_names,Rp_l,R6,S⟩:=hI
  refine Ws<|Ws<|Wg<|M' h9<|M' h2<|Nq Rp_names<|La<|We ?_
  rcases condE hy16 with ⟨hc20,hy16⟩ | ⟨hc20,hy16⟩
  ·refine CT hc20<|Wk<|Ws<|Wb<|Wg<|M' h7<|M' h2<|M' h9<|B hy16 fun x21 hx21 hy16=>W.idx (α:=Str) Rp_names rfl rfl el34 hx21 ?_
   rintro a22 _ hA23 rfl
   refine Lq S hA23<|M' h3<|B hy16 fun r24 hr24 hy16=>W.call S rfl (zHu S.holds x21 p_l Rp_l hr24) ?_
   rintro v25 w26 H27 hle28 S rfl
   have Rp_names:=Sl.mono Rp_names hle28
   have Rp_l:=Sl.mono Rp_l hle28
   have R6:=Sl.mono R6 hle28
   refine W.bslice (α:=Str) [(str r24)] ([r24]:List Str) S el34 rfl rfl rfl (by decide) (Go.Eng.encS ⟨rfl,rfl⟩ enc0) ?_
   intro u29 w30 H31 hle32 R33 S
   have Rp_names:=Sl.mono Rp_names hle32
   have Rp_l:=Sl.mono Rp_l hle32
   have R6:=Sl.mono R6 hle32
   refine B hy16 fun l34 hl34 hy16=>W.app (α:=Str) (i:=1) S el34 rfl rfl rfl R6 R33 hl34 ?_
   intro v35 w36 H37 hle38 R39 S
   have Rp_names:=Sl.mono Rp_names hle38
   have Rp_l:=Sl.mono Rp_l hle38
   have R6:=Sl.mono R6 hle38
   refine A<|We<|Wg<|M' h9<|Lg<|A<|We ?_
   obtain rfl:=oi hy16
   exact ⟨rfl,⟨H37,v35,h2,h3,rfl,rfl,Rp_names,Rp_l,R39,(S.drop _ (.cons _ (.cons_cons _ .slnil)))⟩⟩
  refine CF hc20<|Wx ?_
  obtain rfl:=oi hy16
  obtain rfl:=hy17
  exact ⟨H1,v5,h7,R6,S⟩
 rintro f w ⟨H10,v12,h14,R13,S⟩
 refine Ws<|Wg<|M' h14<|A<|We ?_
 obtain rfl:=oi h
 refine WP.ret (Out.one rfl S rfl ?_)
 exact R13
theorem zHH {w0:World} {H0:Hp} (hw:Holds w0 H0) (p_a:(List Str)) (p_b:(List Str)) {vp_a:Value} {vp_b:Value} (Rp_a:Sl (α:=Str) H0 vp_a p_a) (Rp_b:Sl (α:=Str) H0 vp_b p_b) {r:Bool} (h:zC1 p_a p_b=some r) :
  Con Tryz.prog 53 [vp_a,vp_b] w0 H0 (fun H' v=>v=(boo r)):=by
 refine Con.mk (N:=26) Tryz.func53 rfl rfl kr rfl ?_
 have S:=St.start hw
 refine Ws<|Wg<|A<|We<|Ws<|Ws<|Wg<|M<|Nq Rp_a<|M<|Nq Rp_b<|Lf ?_
 refine We ?_
 rcases condE h with ⟨hc1,h⟩ | ⟨hc1,h⟩
 ·refine CT hc1<|Ws<|Wg<|A<|We ?_
  obtain rfl:=oi h
  refine WP.ret (Out.one rfl S rfl ?_)
  exact rfl
 refine CF hc1<|Wk<|Ws<|Ws<|Wg<|A<|We<|B h fun r11 hr12 h=>WP.cut (fun f w=>match r11 with | .inl _=>∃ (H7:Hp),St w0 H0 w H7 [] | .inr _=>False) ?_ ?_
 ·refine Wb ?_
  refine WP.loopM (zBO p_a p_b) (fun s f w=>match s with | i_5=>∃ (H2:Hp),f 0=vp_a∧f 1=vp_b∧f 5=(int i_5)∧Sl (α:=Str) H2 vp_a p_a∧Sl (α:=Str) H2 vp_b p_b∧St w0 H0 w H2 []) 0 r11 hr12 ?_ ?_
  ·exact ⟨H0,rfl,rfl,rfl,Rp_a,Rp_b,S⟩
  intro i_5 f w hI y8 hy9 hy10
  obtain ⟨H2,h3,h4,h6,Rp_a,Rp_b,S⟩:=hI
  refine Ws<|Ws<|Wg<|M' h6<|M' h3<|Nq Rp_a<|La<|We ?_
  rcases condE hy9 with ⟨hc13,hy9⟩ | ⟨hc13,hy9⟩
  ·refine CT hc13<|Wk<|Ws<|Wb<|Ws<|WP.quiet S kr kr<|QM' h3<|QM' h6<|B hy9 fun x17 hx17 hy9=>WQ.idx (α:=Str) Rp_a rfl rfl el34 hx17 ?_
   rintro a18 _ hA19 rfl
   refine WQ.val (fun w hw=>by obtain ⟨_,hq,S⟩:=hw; exact (R.loadH (v:=str x17) S rfl (At.mono hA19 hq (by simp)) lay9 rfl))<|QM' h4<|QM' h6<|B hy9 fun x20 hx20 hy9=>WQ.idx (α:=Str) Rp_b rfl rfl el34 hx20 ?_
   rintro a21 _ hA22 rfl
   refine WQ.val (fun w hw=>by obtain ⟨_,hq,S⟩:=hw; exact (R.loadH (v:=str x20) S rfl (At.mono hA22 hq (by simp)) lay9 rfl))<|QNb<|WQ.nil ?_
   intro w14 H15 hle16 S
   have Rp_a:=Sl.mono Rp_a hle16
   have Rp_b:=Sl.mono Rp_b hle16
   rcases condE hy9 with ⟨hc23,hy9⟩ | ⟨hc23,hy9⟩
   ·refine CT hc23<|Ws<|Wg<|A<|We ?_
    obtain rfl:=oi hy9
    obtain rfl:=hy10
    obtain rfl:=oi h
    refine WP.ret (Out.one rfl S rfl ?_)
    exact rfl
   refine CF hc23<|Wk<|Wg<|M' h6<|Lg<|A<|We ?_
   obtain rfl:=oi hy9
   exact ⟨rfl,⟨H15,h3,h4,rfl,Rp_a,Rp_b,S⟩⟩
  refine CF hc13<|Wx ?_
  obtain rfl:=oi hy9
  obtain rfl:=hy10
  exact ⟨H2,S⟩
 intro f w hM
 rcases r11 with _ | e
 ·obtain ⟨H7,S⟩:=hM
  refine Ws<|Wg<|A<|We ?_
  obtain rfl:=oi h
  refine WP.ret (Out.one rfl S rfl ?_)
  exact rfl
 exact hM.elim
theorem zHw {w0:World} {H0:Hp} (hw:Holds w0 H0) (p_names:(List Str)) (p_snapshot:(List Str)) (p_l:(List GField)) {vp_names:Value} {vp_snapshot:Value} {vp_l:Value} (Rp_names:Sl (α:=Str) H0 vp_names p_names) (Rp_snapshot:Sl (α:=Str) H0 vp_snapshot p_snapshot) (Rp_l:Sl (α:=GField) H0 vp_l p_l) {r:Bool} (h:zD1 p_names p_snapshot p_l=some r) :
  Con Tryz.prog 20 [vp_names,vp_snapshot,vp_l] w0 H0 (fun H' v=>v=(boo r)):=by
 refine Con.mk (N:=19) Tryz.func20 rfl rfl kr rfl ?_
 have S:=St.start hw
 refine Ws<|Wg<|A<|We<|Ws<|Wg<|M<|Nq Rp_names<|M<|Nq Rp_snapshot<|Le<|M<|B h fun b14 hg2 h=>WL.grpw 6 [13,14,15,16,17] 18 (boo b14) (fun w=>∃ H':Hp,H0.le H'∧St w0 H0 w H' []) ?_ ?_
 ·rcases boolE ((p_names.length:Int)==(p_snapshot.length:Int)) with hb1 | hb1
  ·replace hg2:=condT hg2 hb1
   refine Gy hb1<|M<|Gy hb1<|M<|Gy hb1<|B hg2 fun r3 hr3 hg2=>W.call S rfl (zIS S.holds p_names p_l Rp_names Rp_l hr3) ?_
   rintro v4 w5 H6 hle7 S R8
   have Rp_snapshot:=Sl.mono Rp_snapshot hle7
   refine Gy hb1<|M<|Gy hb1<|B hg2 fun r9 hr9 hg2=>W.call S rfl (zHH S.holds r3 p_snapshot R8 Rp_snapshot hr9) ?_
   rintro v10 w11 H12 hle13 S rfl
   refine Pt hb1 ?_
   exact We ⟨(congrArg boo (oi hg2)),ag,⟨H12,(hle7.trans hle13),S⟩⟩
  replace hg2:=condF hg2 hb1
  refine Gn hb1<|Gn hb1<|Gn hb1<|Gn hb1<|Gn hb1<|Pf hb1 ?_
  exact We ⟨(congrArg boo (oi hg2)),ag,⟨H0,(Hp.le.refl _),S⟩⟩
 intro us w16 ⟨H15,hle17,S⟩
 refine A<|We ?_
 obtain rfl:=oi h
 refine WP.ret (Out.one rfl S rfl ?_)
 exact rfl
theorem zAD {w0:World} {H0:Hp} (hw:Holds w0 H0) (p_s:List Str) {vp_s:Value} (Rp_s:Sl (α:=Str) H0 vp_s p_s) {r:List Str} (h:zAV p_s=some r) :
  Con Tryz.prog 83 [vp_s] w0 H0 (fun H' v=>Sl (α:=Str) H' v r):=by
 unfold zAV at h
 refine Con.mk (N:=8) Tryz.func83 rfl rfl kr rfl ?_
 have S:=St.start hw
 refine Ws<|Wg<|A<|We<|Ws<|Ws<|Wg<|M ?_
 rcases Sl.nilE Rp_s with ⟨c,hv,hl⟩ | ⟨a,n,c,hv⟩
 ·refine WL.w (R.eqNil hv rfl Tryz.underlying34)<|We<|CT rfl<|Ws<|Wg<|A<|We ?_
  refine WP.ret (Out.one rfl S rfl ?_)
  subst hl
  obtain rfl:=oi h
  exact Sl.nil
 refine WL.w (R.eqNil hv rfl Tryz.underlying34)<|We<|CF rfl<|Wk<|Ws<|Wg<|W.bslice (α:=Str) (n:=0) (ps:=[]) [] [] S el34 rfl rfl rfl (by decide) (fun i v x h=>by cases h) ?_
 intro u w1 H1 hle1 R1 S
 have Rp:=Sl.mono Rp_s hle1
 refine M<|W.app (α:=Str) (i:=0) S el34 rfl rfl rfl R1 Rp h ?_
 intro v2 w2 H2 hle2 R2 S
 refine A<|We ?_
 refine WP.ret (Out.one rfl S rfl ?_)
 exact R2
theorem zH3 {w0:World} {H0:Hp} (hw:Holds w0 H0) (p_l:(List GAxis)) {vp_l:Value} (Rp_l:Sl (α:=GAxis) H0 vp_l p_l) {r:(List GAxis)} (h:zF7 p_l=some r) :
  Con Tryz.prog 46 [vp_l] w0 H0 (fun H' v=>Sl (α:=GAxis) H' v r):=by
 refine Con.mk (N:=23) Tryz.func46 rfl rfl kr rfl ?_
 have S:=St.start hw
 refine Ws<|Wg<|A<|We<|Ws<|Wg<|A<|We<|Ws<|Ws<|Wg<|M ?_
 refine Nq Rp_l<|M<|We ?_
 have S:=S.addNil 68 2
 refine B h fun out_11 hr19 h=>WP.cut (fun f w=>∃ (H10:Hp) (v12:Value),f 3=v12∧Sl (α:=GAxis) H10 v12 out_11∧St w0 H0 w H10 [.row v12 68 2 out_11.length]) ?_ ?_
 ·refine Wb ?_
  refine WP.loopM (zDp p_l) (fun s f w=>match s with | (out_2,y_8)=>∃ (H1:Hp) (v3:Value),f 3=v3∧f 6=vp_l∧f 7=(int (p_l.length:Int))∧f 8=(int y_8)∧Sl (α:=GAxis) H1 v3 out_2∧Sl (α:=GAxis) H1 vp_l p_l∧St w0 H0 w H1 [.row v3 68 2 out_2.length]) (([]:List GAxis),0) out_11 hr19 ?_ ?_
  ·exact ⟨H0,.slice none 0 0,rfl,rfl,rfl,rfl,Sl.nil,Rp_l,S⟩
  intro s f w hI y15 hy16 hy17
  obtain ⟨out_2,y_8⟩:=s
  obtain ⟨H1,v3,h5,h6,h7,h9,R4,Rp_l,S⟩:=hI
  refine Ws<|Wg<|La' h9 h7<|We<|Ws ?_
  rcases condE hy16 with ⟨hc20,hy16⟩ | ⟨hc20,hy16⟩
  ·refine CT hc20<|Wk<|Ws<|Wb<|Ws<|Wg<|B hy16 fun x21 hx21 hy16=>W.idx (α:=GAxis) Rp_l h6 h9 el22 hx21 ?_
   rintro a22 _ hA23 ⟨v24,rfl,R25⟩
   refine WL.w (R.loadHN (vs:=[(str x21.fName),v24]) S rfl hA23 lay68 rfl rfl) ?_
   refine W.alloc [(str []),(.slice none 0 0)] S zer68 ?_
   intro b26 w27 S
   refine W.store (i:=0) [(str x21.fName),v24] S rfl rfl rfl lay68 rfl (AllOne.all (l:=[(str x21.fName),v24]) (.cons rfl (.cons (Sl.oneC R25) .nil))) (Nat.le_of_ble_eq_true rfl) rfl ?_
   intro w28 S
   refine We<|WP.draw kr 10 rfl (bm 10 0) rfl ?_
   have S:=S.drew
   refine WA.take (i:=0) (bm 10 1) rfl kr kr kr rfl (fun _=>(R.mv (v:=v3) h5)) ?_
   refine WA.take (i:=1) (bm 10 3) rfl kr kr kr rfl (fun _=>(R.fieldB rfl zOL)) ?_
   refine WA.take (i:=3) (bm 10 11) rfl kr kr kr rfl (fun _=>(R.fieldB rfl zNu)) ?_
   refine WA.two (i:=2) (j:=4) (bm 10 15) (bm 10 27) rfl rfl kr rfl rfl ?_ ?_
   ·refine Lo 0 S<|We<|WA.one (i:=4) (bm 10 31) rfl kr rfl ?_
    refine Lo 0 S<|We<|WA.one (i:=5) (bm 10 63) rfl kr rfl<|B hy16 fun r29 hr29 hy16=>W.call S rfl (zAD S.holds x21.fValues R25 hr29) ?_
    rintro v30 w31 H32 hle33 S R34
    have R4:=Sl.mono R4 hle33
    have Rp_l:=Sl.mono Rp_l hle33
    have R25:=Sl.mono R25 hle33
    refine We ?_
    refine WA.take (i:=6) (bm 10 127) rfl kr kr kr rfl (fun _=>(R.build [(0,(str x21.fName)),(1,v30)] [(str x21.fName),v30] bp68 zer68 rfl (by obtain ⟨_,_,rfl,_⟩:=R34; rfl)))<|WA.one (i:=7) (bm 10 255) rfl kr rfl<|W.bslice (α:=GAxis) [(agg [(str x21.fName),v30])] ([(⟨x21.fName,r29⟩:GAxis)]:List GAxis) S el22 rfl rfl rfl (by decide) (Go.Eng.encS ⟨rfl,_,rfl,R34⟩ enc0) ?_
    intro u35 w36 H37 hle38 R39 S
    have R4:=Sl.mono R4 hle38
    have Rp_l:=Sl.mono Rp_l hle38
    have R25:=Sl.mono R25 hle38
    have R34:=Sl.mono R34 hle38
    refine We<|WA.one (i:=8) (bm 10 511) rfl kr rfl<|B hy16 fun l40 hl40 hy16=>W.app (α:=GAxis) (i:=2) S el22 rfl rfl rfl R4 R39 hl40 ?_
    intro v41 w42 H43 hle44 R45 S
    have R4:=Sl.mono R4 hle44
    have Rp_l:=Sl.mono Rp_l hle44
    have R25:=Sl.mono R25 hle44
    have R34:=Sl.mono R34 hle44
    have R39:=Sl.mono R39 hle44
    refine We ?_
    refine WA.take (i:=9) (bm 10 1023) rfl kr kr kr rfl (fun _=>(R.as (v:=v41) rfl))<|WA.done kr<|Wg<|Lg' h9 rfl<|M<|We ?_
    obtain rfl:=oi hy16
    exact ⟨rfl,⟨H43,v41,rfl,h6,h7,rfl,R45,Rp_l,(S.drop _ (.cons _ (.cons _ (.cons_cons _ .slnil))))⟩⟩
   refine Lo 0 S<|We ?_
   refine WA.two (i:=2) (j:=5) (bm 10 31) (bm 10 59) rfl rfl kr rfl rfl ?_ ?_
   ·refine Lo 0 S<|We<|WA.one (i:=5) (bm 10 63) rfl kr rfl<|B hy16 fun r29 hr29 hy16=>W.call S rfl (zAD S.holds x21.fValues R25 hr29) ?_
    rintro v30 w31 H32 hle33 S R34
    have R4:=Sl.mono R4 hle33
    have Rp_l:=Sl.mono Rp_l hle33
    have R25:=Sl.mono R25 hle33
    refine We ?_
    refine WA.take (i:=6) (bm 10 127) rfl kr kr kr rfl (fun _=>(R.build [(0,(str x21.fName)),(1,v30)] [(str x21.fName),v30] bp68 zer68 rfl (by obtain ⟨_,_,rfl,_⟩:=R34; rfl)))<|WA.one (i:=7) (bm 10 255) rfl kr rfl<|W.bslice (α:=GAxis) [(agg [(str x21.fName),v30])] ([(⟨x21.fName,r29⟩:GAxis)]:List GAxis) S el22 rfl rfl rfl (by decide) (Go.Eng.encS ⟨rfl,_,rfl,R34⟩ enc0) ?_
    intro u35 w36 H37 hle38 R39 S
    have R4:=Sl.mono R4 hle38
    have Rp_l:=Sl.mono Rp_l hle38
    have R25:=Sl.mono R25 hle38
    have R34:=Sl.mono R34 hle38
    refine We<|WA.one (i:=8) (bm 10 511) rfl kr rfl<|B hy16 fun l40 hl40 hy16=>W.app (α:=GAxis) (i:=2) S el22 rfl rfl rfl R4 R39 hl40 ?_
    intro v41 w42 H43 hle44 R45 S
    have R4:=Sl.mono R4 hle44
    have Rp_l:=Sl.mono Rp_l hle44
    have R25:=Sl.mono R25 hle44
    have R34:=Sl.mono R34 hle44
    have R39:=Sl.mono R39 hle44
    refine We ?_
    refine WA.take (i:=9) (bm 10 1023) rfl kr kr kr rfl (fun _=>(R.as (v:=v41) rfl))<|WA.done kr<|Wg<|Lg' h9 rfl<|M<|We ?_
    obtain rfl:=oi hy16
    exact ⟨rfl,⟨H43,v41,rfl,h6,h7,rfl,R45,Rp_l,(S.drop _ (.cons _ (.cons _ (.cons_cons _ .slnil))))⟩⟩
   refine B hy16 fun r29 hr29 hy16=>W.call S rfl (zAD S.holds x21.fValues R25 hr29) ?_
   rintro v30 w31 H32 hle33 S R34
   have R4:=Sl.mono R4 hle33
   have Rp_l:=Sl.mono Rp_l hle33
   refine We<|WA.one (i:=2) (bm 10 63) rfl kr rfl ?_
   refine Lo 0 S<|We ?_
   refine WA.take (i:=6) (bm 10 127) rfl kr kr kr rfl (fun _=>(R.build [(0,(str x21.fName)),(1,v30)] [(str x21.fName),v30] bp68 zer68 rfl (by obtain ⟨_,_,rfl,_⟩:=R34; rfl)))<|WA.one (i:=7) (bm 10 255) rfl kr rfl<|W.bslice (α:=GAxis) [(agg [(str x21.fName),v30])] ([(⟨x21.fName,r29⟩:GAxis)]:List GAxis) S el22 rfl rfl rfl (by decide) (Go.Eng.encS ⟨rfl,_,rfl,R34⟩ enc0) ?_
   intro u35 w36 H37 hle38 R39 S
   have R4:=Sl.mono R4 hle38
   have Rp_l:=Sl.mono Rp_l hle38
   refine We<|WA.one (i:=8) (bm 10 511) rfl kr rfl<|B hy16 fun l40 hl40 hy16=>W.app (α:=GAxis) (i:=2) S el22 rfl rfl rfl R4 R39 hl40 ?_
   intro v41 w42 H43 hle44 R45 S
   have R4:=Sl.mono R4 hle44
   have Rp_l:=Sl.mono Rp_l hle44
   refine We ?_
   refine WA.take (i:=9) (bm 10 1023) rfl kr kr kr rfl (fun _=>(R.as (v:=v41) rfl))<|WA.done kr<|Wg<|Lg' h9 rfl<|M<|We ?_
   obtain rfl:=oi hy16
   exact ⟨rfl,⟨H43,v41,rfl,h6,h7,rfl,R45,Rp_l,(S.drop _ (.cons _ (.cons _ (.cons_cons _ .slnil))))⟩⟩
  refine CF hc20<|Wx ?_
  obtain rfl:=oi hy16
  obtain rfl:=hy17
  exact ⟨H1,v3,h5,R4,S⟩
 rintro f w ⟨H10,v12,h14,R13,S⟩
 refine Ws<|Wg<|M' h14<|A<|We ?_
 obtain rfl:=oi h
 refine WP.ret (Out.one rfl S rfl ?_)
 exact R13
theorem zAH {w0:World} {H0:Hp} (hw:Holds w0 H0) (p_s:List GField) {vp_s:Value} (Rp_s:Sl (α:=GField) H0 vp_s p_s) {r:List GField} (h:zAf p_s=some r) :
  Con Tryz.prog 86 [vp_s] w0 H0 (fun H' v=>Sl (α:=GField) H' v r):=by
 unfold zAf at h
 refine Con.mk (N:=8) Tryz.func86 rfl rfl kr rfl ?_
 have S:=St.start hw
 refine Ws<|Wg<|A<|We<|Ws<|Ws<|Wg<|M ?_
 rcases Sl.nilE Rp_s with ⟨c,hv,hl⟩ | ⟨a,n,c,hv⟩
 ·refine WL.w (R.eqNil hv rfl Tryz.underlying26)<|We<|CT rfl<|Ws<|Wg<|A<|We ?_
  refine WP.ret (Out.one rfl S rfl ?_)
  subst hl
  obtain rfl:=oi h
  exact Sl.nil
 refine WL.w (R.eqNil hv rfl Tryz.underlying26)<|We<|CF rfl<|Wk<|Ws<|Wg<|W.bslice (α:=GField) (n:=0) (ps:=[]) [] [] S el26 rfl rfl rfl (by decide) (fun i v x h=>by cases h) ?_
 intro u w1 H1 hle1 R1 S
 have Rp:=Sl.mono Rp_s hle1
 refine M<|W.app (α:=GField) (i:=0) S el26 rfl rfl rfl R1 Rp h ?_
 intro v2 w2 H2 hle2 R2 S
 refine A<|We ?_
 refine WP.ret (Out.one rfl S rfl ?_)
 exact R2
end Go.Proofs
