/- A part of the proof of laws of the seat: written by program over the translation. -/
import Derived.Test.YtipgfplekgdoiaaGreatDoorEng38
import Derived.Test.YtipgfplekgdoiaaGreatDoorEng32
import Derived.Test.YtipgfplekgdoiaaGreatDoorGenK20
namespace Go.Proofs
set_option maxHeartbeats 4000000
set_option maxRecDepth 10000
open Go.Eng Go.Eng.Pure
set_option linter.unusedVariables false
theorem zQZ {w0:World} {H0:Hp} (hw:Holds w0 H0) (p_a:GTable) (p_b:GTable) {vp_a0:Value} {vp_a1:Value} {vp_b0:Value} {vp_b1:Value} (Rp_a0:Sl (α:=GAxis) H0 vp_a0 p_a.fAxes) (Rp_a1:Sl (α:=GEntry) H0 vp_a1 p_a.fEntries) (Rp_b0:Sl (α:=GAxis) H0 vp_b0 p_b.fAxes) (Rp_b1:Sl (α:=GEntry) H0 vp_b1 p_b.fEntries) {r:Bool} (h:zQQ p_a p_b=some r) :
  Con Tryz.prog 16 [(agg [vp_a0,vp_a1]),(agg [vp_b0,vp_b1])] w0 H0 (fun H' v=>v=(boo r)):=by
 refine Con.mk (N:=40) Tryz.func16 rfl rfl kr rfl ?_
 have S:=St.start hw
 refine Ws<|Wg ?_
 refine W.box [vp_a0,vp_a1] S rfl rfl ?_
 intro b1 w2 S
 refine W.box [vp_b0,vp_b1] S rfl rfl ?_
 intro b3 w4 S
 refine A<|We<|Ws<|Ws<|Wg<|Fb ?_
 refine Lo 1 S<|Fb ?_
 refine Lo 0 S<|B h fun r5 hr5 h=>W.call S rfl (zQd S.holds p_a.fAxes p_b.fAxes Rp_a0 Rp_b0 hr5) ?_
 rintro v6 w7 H8 hle9 S rfl
 have Rp_a0:=Sl.mono Rp_a0 hle9
 have Rp_a1:=Sl.mono Rp_a1 hle9
 have Rp_b0:=Sl.mono Rp_b0 hle9
 have Rp_b1:=Sl.mono Rp_b1 hle9
 refine No<|M ?_
 refine WL.grp 8 [13,14,15,16,17,18,19] 20 (boo ((!r5)||((p_a.fEntries.length:Int) !=(p_b.fEntries.length:Int)))) ?_ ?_
 ·rcases boolE (!r5) with hb10 | hb10
  ·refine Gn hb10<|Gn hb10<|Gn hb10<|Gn hb10<|Gn hb10<|Gn hb10<|Gn hb10<|Pt hb10 ?_
   exact We ⟨(orT hb10),ag,rfl⟩
  refine Gy hb10<|Fb<|Gy hb10 ?_
  refine Lo 1 S<|Gy hb10<|Nq Rp_a1<|Gy hb10<|Fb<|Gy hb10 ?_
  refine Lo 0 S<|Gy hb10<|Nq Rp_b1 ?_
  refine Gy hb10<|Lf<|Pf hb10 ?_
  exact We ⟨(orF hb10),ag,rfl⟩
 intro us
 refine We ?_
 rcases condE h with ⟨hc12,h⟩ | ⟨hc12,h⟩
 ·refine CT hc12<|Ws<|Wg<|A<|We ?_
  obtain rfl:=oi h
  refine WP.ret (Out.one rfl S rfl ?_)
  exact rfl
 refine CF hc12<|Wk<|Ws<|Ws<|Wg<|A<|We<|B h fun r22 hr23 h=>WP.cut (fun f w=>match r22 with | .inl _=>∃ (H18:Hp),St w0 H0 w H18 [] | .inr _=>False) ?_ ?_
 ·refine Wb ?_
  refine WP.loopM (zQL p_a p_b) (fun s f w=>match s with | i_16=>∃ (H13:Hp),f 2=(ptr b1 0)∧f 3=(ptr b3 0)∧f 5=(int i_16)∧Sl (α:=GAxis) H13 vp_b0 p_b.fAxes∧Sl (α:=GEntry) H13 vp_b1 p_b.fEntries∧Sl (α:=GAxis) H13 vp_a0 p_a.fAxes∧Sl (α:=GEntry) H13 vp_a1 p_a.fEntries∧St w0 H0 w H13 [.box b3 25 [vp_b0,vp_b1],.box b1 25 [vp_a0,vp_a1]]) 0 r22 hr23 ?_ ?_
  ·exact ⟨H8,rfl,rfl,rfl,Rp_b0,Rp_b1,Rp_a0,Rp_a1,S⟩
  intro i_16 f w hI y19 hy20 hy21
  obtain ⟨H13,h14,h15,h17,Rp_b0,Rp_b1,Rp_a0,Rp_a1,S⟩:=hI
  refine Ws<|Ws<|Wg<|M' h17<|Fb' h14 ?_
  refine Lo 1 S<|Nq Rp_a1<|La<|We ?_
  rcases condE hy20 with ⟨hc24,hy20⟩ | ⟨hc24,hy20⟩
  ·refine CT hc24<|Wk<|Ws<|Wb<|Ws<|WP.quiet S kr kr<|QFb' h14 ?_
   refine WQ.val (fun w hw=>by obtain ⟨_,hq,S⟩:=hw; exact (R.loadB (i:=1) (v:=vp_a1) S rfl rfl lay23 rfl))<|QM' h17<|B hy20 fun x28 hx28 hy20=>WQ.idx (α:=GEntry) Rp_a1 rfl rfl el23 hx28 ?_
   rintro a29 _ hA30 ⟨v31,v33,v35,v37,rfl,R32,R34,R36,R38⟩
   refine WQ.val (fun w hw=>by obtain ⟨_,hq,S⟩:=hw; exact (R.loadHN (vs:=[v31,v33,v35,(str x28.fReason),v37,(str x28.fBody),(int x28.fRequested),(int x28.fReceived)]) S rfl (At.mono hA30 hq (by simp)) lay36 rfl rfl))<|QFb' h15 ?_
   refine WQ.val (fun w hw=>by obtain ⟨_,hq,S⟩:=hw; exact (R.loadB (i:=0) (v:=vp_b1) S rfl rfl lay23 rfl))<|QM' h17<|B hy20 fun x39 hx39 hy20=>WQ.idx (α:=GEntry) Rp_b1 rfl rfl el23 hx39 ?_
   rintro a40 _ hA41 ⟨v42,v44,v46,v48,rfl,R43,R45,R47,R49⟩
   refine WQ.val (fun w hw=>by obtain ⟨_,hq,S⟩:=hw; exact (R.loadHN (vs:=[v42,v44,v46,(str x39.fReason),v48,(str x39.fBody),(int x39.fRequested),(int x39.fReceived)]) S rfl (At.mono hA41 hq (by simp)) lay36 rfl rfl))<|B hy20 fun r50 hr50 hy20=>WQ.call (v:=boo r50) rfl (fun w H' hq S=>zQn S.holds x28 x39 (Sl.mono R32 hq) (Sl.mono R34 hq) (Sl.mono R36 hq) (Sl.mono R38 hq) (Sl.mono R43 hq) (Sl.mono R45 hq) (Sl.mono R47 hq) (Sl.mono R49 hq) hr50)<|QNo<|WQ.nil ?_
   intro w25 H26 hle27 S
   have Rp_a1:=Sl.mono Rp_a1 hle27
   have Rp_b1:=Sl.mono Rp_b1 hle27
   have Rp_b0:=Sl.mono Rp_b0 hle27
   have Rp_a0:=Sl.mono Rp_a0 hle27
   rcases condE hy20 with ⟨hc55,hy20⟩ | ⟨hc55,hy20⟩
   ·refine CT hc55<|Ws<|Wg<|A<|We ?_
    obtain rfl:=oi hy20
    obtain rfl:=hy21
    obtain rfl:=oi h
    refine WP.ret (Out.one rfl S rfl ?_)
    exact rfl
   refine CF hc55<|Wk<|Wg<|M' h17<|Lg<|A<|We ?_
   obtain rfl:=oi hy20
   exact ⟨rfl,⟨H26,h14,h15,rfl,Rp_b0,Rp_b1,Rp_a0,Rp_a1,S⟩⟩
  refine CF hc24<|Wx ?_
  obtain rfl:=oi hy20
  obtain rfl:=hy21
  exact ⟨H13,(S.drop _ (.cons _ (.cons _ .slnil)))⟩
 intro f w hM
 rcases r22 with _ | e
 ·obtain ⟨H18,S⟩:=hM
  refine Ws<|Wg<|A<|We ?_
  obtain rfl:=oi h
  refine WP.ret (Out.one rfl S rfl ?_)
  exact rfl
 exact hM.elim
theorem zQf {w0:World} {H0:Hp} (hw:Holds w0 H0) (p_t:GTable) (p_e:GEntry) (p_axes:(List GAxis)) (p_limit:Int) {vp_t0:Value} {vp_t1:Value} {vp_e0:Value} {vp_e1:Value} {vp_e2:Value} {vp_e4:Value} {vp_axes:Value} (Rp_t0:Sl (α:=GAxis) H0 vp_t0 p_t.fAxes) (Rp_t1:Sl (α:=GEntry) H0 vp_t1 p_t.fEntries) (Rp_e0:Sl (α:=(List Str)) H0 vp_e0 p_e.fKeys) (Rp_e1:Sl (α:=Str) H0 vp_e1 p_e.fVary) (Rp_e2:Sl (α:=Str) H0 vp_e2 p_e.fSnapshot) (Rp_e4:Sl (α:=GField) H0 vp_e4 p_e.fFields) (Rp_axes:Sl (α:=GAxis) H0 vp_axes p_axes) {r:Bool} (h:zQY p_t p_e p_axes p_limit=some r) :
  Con Tryz.prog 4 [(agg [vp_t0,vp_t1]),(agg [vp_e0,vp_e1,vp_e2,(str p_e.fReason),vp_e4,(str p_e.fBody),(int p_e.fRequested),(int p_e.fReceived)]),vp_axes,(int p_limit)] w0 H0 (fun H' v=>v=(boo r)):=by
 refine Con.mk (N:=37) Tryz.func4 rfl rfl kr rfl ?_
 have S:=St.start hw
 refine Ws<|Wg ?_
 refine W.box [vp_t0,vp_t1] S rfl rfl ?_
 intro b1 w2 S
 refine W.box [vp_e0,vp_e1,vp_e2,(str p_e.fReason),vp_e4,(str p_e.fBody),(int p_e.fRequested),(int p_e.fReceived)] S rfl rfl ?_
 intro b3 w4 S
 refine A<|We<|Ws<|Ws<|Wg ?_
 refine WL.w (R.loadBN (i:=1) (vs:=[vp_t0,vp_t1]) S rfl rfl lay25 rfl rfl)<|B h fun r5 hr5 h=>W.call S rfl (zKJ S.holds p_t Rp_t0 Rp_t1 hr5) ?_
 rintro v6 w7 H8 hle9 S rfl
 have Rp_t0:=Sl.mono Rp_t0 hle9
 have Rp_t1:=Sl.mono Rp_t1 hle9
 have Rp_e0:=Sl.mono Rp_e0 hle9
 have Rp_e1:=Sl.mono Rp_e1 hle9
 have Rp_e2:=Sl.mono Rp_e2 hle9
 have Rp_e4:=Sl.mono Rp_e4 hle9
 have Rp_axes:=Sl.mono Rp_axes hle9
 refine No<|M<|B h fun b17 hg11 h=>WL.grpw 4 [13,14,15] 16 (boo b17) (fun w=>∃ H':Hp,H8.le H'∧St w0 H0 w H' [.box b3 36 [vp_e0,vp_e1,vp_e2,(str p_e.fReason),vp_e4,(str p_e.fBody),(int p_e.fRequested),(int p_e.fReceived)],.box b1 25 [vp_t0,vp_t1]]) ?_ ?_
 ·rcases boolE (!r5) with hb10 | hb10
  ·replace hg11:=condT hg11 hb10
   refine Gn hb10<|Gn hb10<|Gn hb10<|Pt hb10 ?_
   exact We ⟨(congrArg boo (oi hg11)),ag,⟨H8,(Hp.le.refl _),S⟩⟩
  replace hg11:=condF hg11 hb10
  refine Gy hb10 ?_
  refine WL.w (R.loadBN (i:=0) (vs:=[vp_e0,vp_e1,vp_e2,(str p_e.fReason),vp_e4,(str p_e.fBody),(int p_e.fRequested),(int p_e.fReceived)]) S rfl rfl lay36 rfl rfl)<|Gy hb10<|B hg11 fun r12 hr12 hg11=>W.call S rfl (zKe S.holds p_e Rp_e0 Rp_e1 Rp_e2 Rp_e4 hr12) ?_
  rintro v13 w14 H15 hle16 S rfl
  have Rp_t0:=Sl.mono Rp_t0 hle16
  have Rp_t1:=Sl.mono Rp_t1 hle16
  have Rp_e0:=Sl.mono Rp_e0 hle16
  have Rp_e1:=Sl.mono Rp_e1 hle16
  have Rp_e2:=Sl.mono Rp_e2 hle16
  have Rp_e4:=Sl.mono Rp_e4 hle16
  have Rp_axes:=Sl.mono Rp_axes hle16
  refine Gy hb10<|No<|Pf hb10 ?_
  exact We ⟨(congrArg boo (oi hg11)),ag,⟨H15,hle16,S⟩⟩
 intro us w19 ⟨H18,hle20,S⟩
 have Rp_t0:=Sl.mono Rp_t0 hle20
 have Rp_t1:=Sl.mono Rp_t1 hle20
 have Rp_e0:=Sl.mono Rp_e0 hle20
 have Rp_e1:=Sl.mono Rp_e1 hle20
 have Rp_e2:=Sl.mono Rp_e2 hle20
 have Rp_e4:=Sl.mono Rp_e4 hle20
 have Rp_axes:=Sl.mono Rp_axes hle20
 refine M<|B h fun b28 hg22 h=>WL.grpw 4 [18,19,20] 21 (boo b28) (fun w=>∃ H':Hp,H18.le H'∧St w0 H0 w H' [.box b3 36 [vp_e0,vp_e1,vp_e2,(str p_e.fReason),vp_e4,(str p_e.fBody),(int p_e.fRequested),(int p_e.fReceived)],.box b1 25 [vp_t0,vp_t1]]) ?_ ?_
 ·rcases boolE b17 with hb21 | hb21
  ·replace hg22:=condT hg22 hb21
   refine Gn hb21<|Gn hb21<|Gn hb21<|Pt hb21 ?_
   exact We ⟨(congrArg boo (oi hg22)),ag,⟨H18,(Hp.le.refl _),S⟩⟩
  replace hg22:=condF hg22 hb21
  refine Gy hb21<|M<|Gy hb21<|B hg22 fun r23 hr23 hg22=>W.call S rfl (zKh S.holds p_axes Rp_axes hr23) ?_
  rintro v24 w25 H26 hle27 S rfl
  have Rp_t0:=Sl.mono Rp_t0 hle27
  have Rp_t1:=Sl.mono Rp_t1 hle27
  have Rp_e0:=Sl.mono Rp_e0 hle27
  have Rp_e1:=Sl.mono Rp_e1 hle27
  have Rp_e2:=Sl.mono Rp_e2 hle27
  have Rp_e4:=Sl.mono Rp_e4 hle27
  have Rp_axes:=Sl.mono Rp_axes hle27
  refine Gy hb21<|No<|Pf hb21 ?_
  exact We ⟨(congrArg boo (oi hg22)),ag,⟨H26,hle27,S⟩⟩
 intro us w30 ⟨H29,hle31,S⟩
 have Rp_t0:=Sl.mono Rp_t0 hle31
 have Rp_t1:=Sl.mono Rp_t1 hle31
 have Rp_e0:=Sl.mono Rp_e0 hle31
 have Rp_e1:=Sl.mono Rp_e1 hle31
 have Rp_e2:=Sl.mono Rp_e2 hle31
 have Rp_e4:=Sl.mono Rp_e4 hle31
 have Rp_axes:=Sl.mono Rp_axes hle31
 refine We ?_
 rcases condE h with ⟨hc32,h⟩ | ⟨hc32,h⟩
 ·refine CT hc32<|Ws<|Wg<|A<|We ?_
  obtain rfl:=oi h
  refine WP.ret (Out.one rfl S rfl ?_)
  exact rfl
 refine CF hc32<|Wk<|Ws<|B h fun r33 hr33 h=>B h fun r42 hr42 h=>B h fun r51 hr51 h=>B h fun r60 hr60 h=>B h fun b72 hg66 h=>WP.cut (fun f w=>∃ (H81:Hp),f 8=(boo b72)∧St w0 H0 w H81 []) ?_ ?_
 ·refine WP.drawC (Cl w0 H0 H29 [.box b3 36 [vp_e0,vp_e1,vp_e2,(str p_e.fReason),vp_e4,(str p_e.fBody),(int p_e.fRequested),(int p_e.fReceived)],.box b1 25 [vp_t0,vp_t1]]) kr 16 rfl (bm 16 0) rfl ?_
  have S:=S.drew
  rcases boolE r60 with hb83 | hb83
  ·replace hg66:=condT hg66 hb83
   refine B hg66 fun r73 hr73 hg66=>?_
   refine WC.take (i:=0) (bm 16 1) rfl kr kr kr rfl (fun w hw=>by obtain ⟨_,hq,S⟩:=hw; exact (R.loadBN (i:=1) (vs:=[vp_t0,vp_t1]) S rfl rfl lay25 rfl rfl)) ?_
   refine WC.take (i:=2) (bm 16 5) rfl kr kr kr rfl (fun w hw=>by obtain ⟨_,hq,S⟩:=hw; exact (R.loadBN (i:=0) (vs:=[vp_e0,vp_e1,vp_e2,(str p_e.fReason),vp_e4,(str p_e.fBody),(int p_e.fRequested),(int p_e.fReceived)]) S rfl rfl lay36 rfl rfl)) ?_
   refine WC.take (i:=3) (bm 16 13) rfl kr kr kr rfl (fun _ _=>(R.mv (v:=vp_axes) rfl)) ?_
   refine WC.take (i:=4) (bm 16 29) rfl kr kr kr rfl (fun _ _=>(R.mv (v:=int p_limit) rfl)) ?_
   refine WC.take (i:=6) (bm 16 93) rfl kr kr kr rfl (fun w hw=>by obtain ⟨_,hq,S⟩:=hw; exact (R.loadBN (i:=1) (vs:=[vp_t0,vp_t1]) S rfl rfl lay25 rfl rfl)) ?_
   refine WC.take (i:=7) (bm 16 221) rfl kr kr kr rfl (fun w hw=>by obtain ⟨_,hq,S⟩:=hw; exact (R.loadBN (i:=0) (vs:=[vp_e0,vp_e1,vp_e2,(str p_e.fReason),vp_e4,(str p_e.fBody),(int p_e.fRequested),(int p_e.fReceived)]) S rfl rfl lay36 rfl rfl)) ?_
   refine WC.take (i:=8) (bm 16 477) rfl kr kr kr rfl (fun _ _=>(R.mv (v:=vp_axes) rfl)) ?_
   refine WC.take (i:=9) (bm 16 989) rfl kr kr kr rfl (fun _ _=>(R.mv (v:=int p_limit) rfl)) ?_
   refine WC.next (rs:=[1]) ⟨H29,(Hp.le.refl _),S.drop _ (.cons_cons _ (.cons_cons _ .slnil))⟩ kr (List.cons_ne_nil _ _) (all1 ?_)
   refine Nxt.mk (o:=_) (bm 16 991) rfl rfl<|W.call S rfl (zQc S.holds p_t Rp_t0 Rp_t1 hr33) ?_
   rintro v84 w85 H86 hle87 S ⟨u88,u90,rfl,R89,R91⟩
   have Rp_t0:=Sl.mono Rp_t0 hle87
   have Rp_t1:=Sl.mono Rp_t1 hle87
   have Rp_e0:=Sl.mono Rp_e0 hle87
   have Rp_e1:=Sl.mono Rp_e1 hle87
   have Rp_e2:=Sl.mono Rp_e2 hle87
   have Rp_e4:=Sl.mono Rp_e4 hle87
   have Rp_axes:=Sl.mono Rp_axes hle87
   refine We ?_
   refine WC.next (rs:=[5]) ⟨H86,hle87,S.drop _ (.cons_cons _ (.cons_cons _ .slnil))⟩ kr (List.cons_ne_nil _ _) (all1 ?_)
   refine Nxt.mk (o:=_) (bm 16 1023) rfl rfl<|W.call S rfl (zIV S.holds r33 p_e p_axes p_limit R89 R91 Rp_e0 Rp_e1 Rp_e2 Rp_e4 Rp_axes hr42) ?_
   rintro v92 w93 H94 hle95 S ⟨u96,u98,rfl,R97,R99⟩
   have Rp_t0:=Sl.mono Rp_t0 hle95
   have Rp_t1:=Sl.mono Rp_t1 hle95
   have Rp_e0:=Sl.mono Rp_e0 hle95
   have Rp_e1:=Sl.mono Rp_e1 hle95
   have Rp_e2:=Sl.mono Rp_e2 hle95
   have Rp_e4:=Sl.mono Rp_e4 hle95
   have Rp_axes:=Sl.mono Rp_axes hle95
   refine We ?_
   refine WC.next (rs:=[10]) ⟨H94,(hle87.trans hle95),S.drop _ (.cons_cons _ (.cons_cons _ .slnil))⟩ kr (List.cons_ne_nil _ _) (all1 ?_)
   refine Nxt.mk (o:=_) (bm 16 2047) rfl rfl<|W.call S rfl (zQj S.holds p_t p_e p_axes p_limit Rp_t0 Rp_t1 Rp_e0 Rp_e1 Rp_e2 Rp_e4 Rp_axes hr51) ?_
   rintro v100 w101 H102 hle103 S ⟨u104,u106,rfl,R105,R107⟩
   have Rp_t0:=Sl.mono Rp_t0 hle103
   have Rp_t1:=Sl.mono Rp_t1 hle103
   have Rp_e0:=Sl.mono Rp_e0 hle103
   have Rp_e1:=Sl.mono Rp_e1 hle103
   have Rp_e2:=Sl.mono Rp_e2 hle103
   have Rp_e4:=Sl.mono Rp_e4 hle103
   have Rp_axes:=Sl.mono Rp_axes hle103
   have R97:=Sl.mono R97 hle103
   have R99:=Sl.mono R99 hle103
   refine We ?_
   refine WC.next (rs:=[11]) ⟨H102,((hle87.trans hle95).trans hle103),S.drop _ (.cons_cons _ (.cons_cons _ .slnil))⟩ kr (List.cons_ne_nil _ _) (all1 ?_)
   refine Nxt.mk (o:=_) (bm 16 4095) rfl rfl<|W.call S rfl (zQZ S.holds r42 r51 R97 R99 R105 R107 hr60) ?_
   rintro v108 w109 H110 hle111 S rfl
   have Rp_t0:=Sl.mono Rp_t0 hle111
   have Rp_t1:=Sl.mono Rp_t1 hle111
   have Rp_e0:=Sl.mono Rp_e0 hle111
   have Rp_e1:=Sl.mono Rp_e1 hle111
   have Rp_e2:=Sl.mono Rp_e2 hle111
   have Rp_e4:=Sl.mono Rp_e4 hle111
   have Rp_axes:=Sl.mono Rp_axes hle111
   refine We ?_
   refine WC.take (i:=12) (bm 16 8191) rfl kr kr kr rfl (fun _ _=>(R.mv (v:=boo r60) rfl)) ?_
   refine WC.next (rs:=[13]) ⟨H110,(((hle87.trans hle95).trans hle103).trans hle111),S.drop _ (.cons_cons _ (.cons_cons _ .slnil))⟩ kr (List.cons_ne_nil _ _) (all1 ?_)
   refine Nxt.mk (o:=_) (bm 16 16383) rfl rfl<|Gy hb83<|W.call S rfl (zJi S.holds  hr73) ?_
   rintro v112 w113 H114 hle115 S rfl
   have Rp_t0:=Sl.mono Rp_t0 hle115
   have Rp_t1:=Sl.mono Rp_t1 hle115
   have Rp_e0:=Sl.mono Rp_e0 hle115
   have Rp_e1:=Sl.mono Rp_e1 hle115
   have Rp_e2:=Sl.mono Rp_e2 hle115
   have Rp_e4:=Sl.mono Rp_e4 hle115
   have Rp_axes:=Sl.mono Rp_axes hle115
   refine We ?_
   refine WC.take (i:=14) (v:=boo b72) (bm 16 32767) rfl kr kr kr rfl (fun _ _=>(R.ofEq (R.pickT rfl hb83 rfl) (congrArg boo (oi hg66)))) ?_
   refine WC.take (i:=15) (bm 16 65535) rfl kr kr kr rfl (fun _ _=>(R.as (v:=boo b72) rfl))<|WC.done ⟨H114,((((hle87.trans hle95).trans hle103).trans hle111).trans hle115),S.drop _ (.cons_cons _ (.cons_cons _ .slnil))⟩ kr ?_
   have S3:=S
   replace S3:St w0 H0 _ H114 [.box b3 36 [vp_e0,vp_e1,vp_e2,(str p_e.fReason),vp_e4,(str p_e.fBody),(int p_e.fRequested),(int p_e.fReceived)],.box b1 25 [vp_t0,vp_t1]]:=S3
   replace S3:St w0 H0 _ H114 []:=S3.drop _ (.cons _ (.cons _ .slnil))
   exact ⟨H114,rfl,S3⟩
  replace hg66:=condF hg66 hb83
  refine WC.take (i:=0) (bm 16 1) rfl kr kr kr rfl (fun w hw=>by obtain ⟨_,hq,S⟩:=hw; exact (R.loadBN (i:=1) (vs:=[vp_t0,vp_t1]) S rfl rfl lay25 rfl rfl)) ?_
  refine WC.take (i:=2) (bm 16 5) rfl kr kr kr rfl (fun w hw=>by obtain ⟨_,hq,S⟩:=hw; exact (R.loadBN (i:=0) (vs:=[vp_e0,vp_e1,vp_e2,(str p_e.fReason),vp_e4,(str p_e.fBody),(int p_e.fRequested),(int p_e.fReceived)]) S rfl rfl lay36 rfl rfl)) ?_
  refine WC.take (i:=3) (bm 16 13) rfl kr kr kr rfl (fun _ _=>(R.mv (v:=vp_axes) rfl)) ?_
  refine WC.take (i:=4) (bm 16 29) rfl kr kr kr rfl (fun _ _=>(R.mv (v:=int p_limit) rfl)) ?_
  refine WC.take (i:=6) (bm 16 93) rfl kr kr kr rfl (fun w hw=>by obtain ⟨_,hq,S⟩:=hw; exact (R.loadBN (i:=1) (vs:=[vp_t0,vp_t1]) S rfl rfl lay25 rfl rfl)) ?_
  refine WC.take (i:=7) (bm 16 221) rfl kr kr kr rfl (fun w hw=>by obtain ⟨_,hq,S⟩:=hw; exact (R.loadBN (i:=0) (vs:=[vp_e0,vp_e1,vp_e2,(str p_e.fReason),vp_e4,(str p_e.fBody),(int p_e.fRequested),(int p_e.fReceived)]) S rfl rfl lay36 rfl rfl)) ?_
  refine WC.take (i:=8) (bm 16 477) rfl kr kr kr rfl (fun _ _=>(R.mv (v:=vp_axes) rfl)) ?_
  refine WC.take (i:=9) (bm 16 989) rfl kr kr kr rfl (fun _ _=>(R.mv (v:=int p_limit) rfl)) ?_
  refine WC.next (rs:=[1]) ⟨H29,(Hp.le.refl _),S.drop _ (.cons_cons _ (.cons_cons _ .slnil))⟩ kr (List.cons_ne_nil _ _) (all1 ?_)
  refine Nxt.mk (o:=_) (bm 16 991) rfl rfl<|W.call S rfl (zQc S.holds p_t Rp_t0 Rp_t1 hr33) ?_
  rintro v116 w117 H118 hle119 S ⟨u120,u122,rfl,R121,R123⟩
  have Rp_t0:=Sl.mono Rp_t0 hle119
  have Rp_t1:=Sl.mono Rp_t1 hle119
  have Rp_e0:=Sl.mono Rp_e0 hle119
  have Rp_e1:=Sl.mono Rp_e1 hle119
  have Rp_e2:=Sl.mono Rp_e2 hle119
  have Rp_e4:=Sl.mono Rp_e4 hle119
  have Rp_axes:=Sl.mono Rp_axes hle119
  refine We ?_
  refine WC.next (rs:=[5]) ⟨H118,hle119,S.drop _ (.cons_cons _ (.cons_cons _ .slnil))⟩ kr (List.cons_ne_nil _ _) (all1 ?_)
  refine Nxt.mk (o:=_) (bm 16 1023) rfl rfl<|W.call S rfl (zIV S.holds r33 p_e p_axes p_limit R121 R123 Rp_e0 Rp_e1 Rp_e2 Rp_e4 Rp_axes hr42) ?_
  rintro v124 w125 H126 hle127 S ⟨u128,u130,rfl,R129,R131⟩
  have Rp_t0:=Sl.mono Rp_t0 hle127
  have Rp_t1:=Sl.mono Rp_t1 hle127
  have Rp_e0:=Sl.mono Rp_e0 hle127
  have Rp_e1:=Sl.mono Rp_e1 hle127
  have Rp_e2:=Sl.mono Rp_e2 hle127
  have Rp_e4:=Sl.mono Rp_e4 hle127
  have Rp_axes:=Sl.mono Rp_axes hle127
  refine We ?_
  refine WC.next (rs:=[10]) ⟨H126,(hle119.trans hle127),S.drop _ (.cons_cons _ (.cons_cons _ .slnil))⟩ kr (List.cons_ne_nil _ _) (all1 ?_)
  refine Nxt.mk (o:=_) (bm 16 2047) rfl rfl<|W.call S rfl (zQj S.holds p_t p_e p_axes p_limit Rp_t0 Rp_t1 Rp_e0 Rp_e1 Rp_e2 Rp_e4 Rp_axes hr51) ?_
  rintro v132 w133 H134 hle135 S ⟨u136,u138,rfl,R137,R139⟩
  have R129:=Sl.mono R129 hle135
  have R131:=Sl.mono R131 hle135
  refine We ?_
  refine WC.next (rs:=[11]) ⟨H134,((hle119.trans hle127).trans hle135),S.drop _ (.cons_cons _ (.cons_cons _ .slnil))⟩ kr (List.cons_ne_nil _ _) (all1 ?_)
  refine Nxt.mk (o:=_) (bm 16 4095) rfl rfl<|W.call S rfl (zQZ S.holds r42 r51 R129 R131 R137 R139 hr60) ?_
  rintro v140 w141 H142 hle143 S rfl
  refine We ?_
  refine WC.take (i:=12) (bm 16 8191) rfl kr kr kr rfl (fun _ _=>(R.mv (v:=boo r60) rfl))<|WC.takeN (i:=13) (bm 16 16383) rfl rfl rfl hb83 kr kr kr rfl ?_
  refine WC.take (i:=14) (v:=boo b72) (bm 16 32767) rfl kr kr kr rfl (fun _ _=>(R.ofEq (R.pickF rfl hb83 rfl) (congrArg boo (oi hg66)))) ?_
  refine WC.take (i:=15) (bm 16 65535) rfl kr kr kr rfl (fun _ _=>(R.as (v:=boo b72) rfl))<|WC.done ⟨H142,(((hle119.trans hle127).trans hle135).trans hle143),S.drop _ (.cons_cons _ (.cons_cons _ .slnil))⟩ kr ?_
  have S3:=S
  replace S3:St w0 H0 _ H142 [.box b3 36 [vp_e0,vp_e1,vp_e2,(str p_e.fReason),vp_e4,(str p_e.fBody),(int p_e.fRequested),(int p_e.fReceived)],.box b1 25 [vp_t0,vp_t1]]:=S3
  replace S3:St w0 H0 _ H142 []:=S3.drop _ (.cons _ (.cons _ .slnil))
  exact ⟨H142,rfl,S3⟩
 rintro f w ⟨H81,h82,S⟩
 obtain rfl:=oi h
 refine WP.ret (Out.one rfl S h82 ?_)
 exact rfl
end Go.Proofs
