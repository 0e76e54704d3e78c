/- A part of the proof of laws of the seat: written by program over the translation. -/
import Derived.Test.YtipgfplekgdoiaaGreatDoorEng38
import Derived.Test.YtipgfplekgdoiaaGreatDoorEng32
import Derived.Test.YtipgfplekgdoiaaGreatDoorGenK19
namespace Go.Proofs
set_option maxHeartbeats 4000000
set_option maxRecDepth 10000
open Go.Eng Go.Eng.Pure
set_option linter.unusedVariables false
theorem zQd {w0:World} {H0:Hp} (hw:Holds w0 H0) (p_a:(List GAxis)) (p_b:(List GAxis)) {vp_a:Value} {vp_b:Value} (Rp_a:Sl (α:=GAxis) H0 vp_a p_a) (Rp_b:Sl (α:=GAxis) H0 vp_b p_b) {r:Bool} (h:zQX p_a p_b=some r) :
  Con Tryz.prog 33 [vp_a,vp_b] w0 H0 (fun H' v=>v=(boo r)):=by
 refine Con.mk (N:=42) Tryz.func33 rfl rfl kr rfl ?_
 have S:=St.start hw
 refine Ws<|Wg<|A<|We<|Ws<|Ws<|Wg<|M<|Nq Rp_a<|M<|Nq Rp_b<|Lf ?_
 refine We ?_
 rcases condE h with ⟨hc1,h⟩ | ⟨hc1,h⟩
 ·refine CT hc1<|Ws<|Wg<|A<|We ?_
  obtain rfl:=oi h
  refine WP.ret (Out.one rfl S rfl ?_)
  exact rfl
 refine CF hc1<|Wk<|Ws<|Ws<|Wg<|A<|We<|B h fun r11 hr12 h=>WP.cut (fun f w=>match r11 with | .inl _=>∃ (H7:Hp),St w0 H0 w H7 [] | .inr _=>False) ?_ ?_
 ·refine Wb ?_
  refine WP.loopM (zQS p_a p_b) (fun s f w=>match s with | i_5=>∃ (H2:Hp),f 0=vp_a∧f 1=vp_b∧f 5=(int i_5)∧Sl (α:=GAxis) H2 vp_a p_a∧Sl (α:=GAxis) H2 vp_b p_b∧St w0 H0 w H2 []) 0 r11 hr12 ?_ ?_
  ·exact ⟨H0,rfl,rfl,rfl,Rp_a,Rp_b,S⟩
  intro i_5 f w hI y8 hy9 hy10
  obtain ⟨H2,h3,h4,h6,Rp_a,Rp_b,S⟩:=hI
  refine Ws<|Ws<|Wg<|M' h6<|M' h3<|Nq Rp_a<|La<|We ?_
  rcases condE hy9 with ⟨hc13,hy9⟩ | ⟨hc13,hy9⟩
  ·refine CT hc13<|Wk<|Ws<|Wb<|Ws<|WP.quiet S kr kr<|QM' h3<|QM' h6<|B hy9 fun x17 hx17 hy9=>WQ.idx (α:=GAxis) Rp_a rfl rfl el22 hx17 ?_
   rintro a18 _ hA19 ⟨v20,rfl,R21⟩
   refine QFc ?_
   have hA22:=At.add hA19 0 (by simp)
   refine WQ.val (fun w hw=>by obtain ⟨_,hq,S⟩:=hw; exact (R.loadH (v:=str x17.fName) S rfl (At.mono hA22 hq (by simp)) lay9 rfl))<|QM' h4<|QM' h6<|B hy9 fun x23 hx23 hy9=>WQ.idx (α:=GAxis) Rp_b rfl rfl el22 hx23 ?_
   rintro a24 _ hA25 ⟨v26,rfl,R27⟩
   refine QFc ?_
   have hA28:=At.add hA25 0 (by simp)
   refine WQ.val (fun w hw=>by obtain ⟨_,hq,S⟩:=hw; exact (R.loadH (v:=str x23.fName) S rfl (At.mono hA28 hq (by simp)) lay9 rfl))<|QNb<|QM<|B hy9 fun b48 hg30 hy9=>WQ.grp 13 [29,30,31,32,33,34,35,36,37,38,39,40] 41 (boo b48) ?_ ?_
   ·rcases boolE (x17.fName !=x23.fName) with hb29 | hb29
    ·replace hg30:=condT hg30 hb29
     refine QGn hb29<|QGn hb29<|QGn hb29<|QGn hb29<|QGn hb29<|QGn hb29<|QGn hb29<|QGn hb29<|QGn hb29<|QGn hb29<|QGn hb29<|QGn hb29 ?_
     refine QPt hb29 ?_
     exact WQ.nil ⟨(congrArg boo (oi hg30)),ag⟩
    replace hg30:=condF hg30 hb29
    refine QGy hb29<|QM' h3<|QGy hb29<|QM' h6<|QGy hb29<|B hg30 fun x31 hx31 hg30=>WQ.idx (α:=GAxis) Rp_a rfl rfl el22 hx31 ?_
    rintro a32 _ hA33 ⟨v34,rfl,R35⟩
    refine QGy hb29<|QFc ?_
    have hA36:=At.add hA33 1 (by simp)
    refine QGy hb29 ?_
    refine WQ.val (fun w hw=>by obtain ⟨_,hq,S⟩:=hw; exact (R.loadH (v:=v34) S rfl (At.mono hA36 hq (by simp)) lay34 rfl))<|QGy hb29<|QM' h4<|QGy hb29<|QM' h6<|QGy hb29<|B hg30 fun x37 hx37 hg30=>WQ.idx (α:=GAxis) Rp_b rfl rfl el22 hx37 ?_
    rintro a38 _ hA39 ⟨v40,rfl,R41⟩
    refine QGy hb29<|QFc ?_
    have hA42:=At.add hA39 1 (by simp)
    refine QGy hb29 ?_
    refine WQ.val (fun w hw=>by obtain ⟨_,hq,S⟩:=hw; exact (R.loadH (v:=v40) S rfl (At.mono hA42 hq (by simp)) lay34 rfl))<|QGy hb29<|B hg30 fun r43 hr43 hg30=>WQ.call (v:=boo r43) rfl (fun w H' hq S=>zHH S.holds x31.fValues x37.fValues (Sl.mono R35 hq) (Sl.mono R41 hq) hr43)<|QGy hb29<|QNo<|QPf hb29 ?_
    exact WQ.nil ⟨(congrArg boo (oi hg30)),ag⟩
   intro us
   refine WQ.nil ?_
   intro w14 H15 hle16 S
   have Rp_a:=Sl.mono Rp_a hle16
   have Rp_b:=Sl.mono Rp_b hle16
   rcases condE hy9 with ⟨hc49,hy9⟩ | ⟨hc49,hy9⟩
   ·refine CT hc49<|Ws<|Wg<|A<|We ?_
    obtain rfl:=oi hy9
    obtain rfl:=hy10
    obtain rfl:=oi h
    refine WP.ret (Out.one rfl S rfl ?_)
    exact rfl
   refine CF hc49<|Wk<|Wg<|M' h6<|Lg<|A<|We ?_
   obtain rfl:=oi hy9
   exact ⟨rfl,⟨H15,h3,h4,rfl,Rp_a,Rp_b,S⟩⟩
  refine CF hc13<|Wx ?_
  obtain rfl:=oi hy9
  obtain rfl:=hy10
  exact ⟨H2,S⟩
 intro f w hM
 rcases r11 with _ | e
 ·obtain ⟨H7,S⟩:=hM
  refine Ws<|Wg<|A<|We ?_
  obtain rfl:=oi h
  refine WP.ret (Out.one rfl S rfl ?_)
  exact rfl
 exact hM.elim
theorem zQh {w0:World} {H0:Hp} (hw:Holds w0 H0) (p_axes:(List GAxis)) (p_e:GEntry) (p_x:GEntry) {vp_axes:Value} {vp_e0:Value} {vp_e1:Value} {vp_e2:Value} {vp_e4:Value} {vp_x0:Value} {vp_x1:Value} {vp_x2:Value} {vp_x4:Value} (Rp_axes:Sl (α:=GAxis) H0 vp_axes p_axes) (Rp_e0:Sl (α:=(List Str)) H0 vp_e0 p_e.fKeys) (Rp_e1:Sl (α:=Str) H0 vp_e1 p_e.fVary) (Rp_e2:Sl (α:=Str) H0 vp_e2 p_e.fSnapshot) (Rp_e4:Sl (α:=GField) H0 vp_e4 p_e.fFields) (Rp_x0:Sl (α:=(List Str)) H0 vp_x0 p_x.fKeys) (Rp_x1:Sl (α:=Str) H0 vp_x1 p_x.fVary) (Rp_x2:Sl (α:=Str) H0 vp_x2 p_x.fSnapshot) (Rp_x4:Sl (α:=GField) H0 vp_x4 p_x.fFields) {r:Bool} (h:zQR p_axes p_e p_x=some r) :
  Con Tryz.prog 52 [vp_axes,(agg [vp_e0,vp_e1,vp_e2,(str p_e.fReason),vp_e4,(str p_e.fBody),(int p_e.fRequested),(int p_e.fReceived)]),(agg [vp_x0,vp_x1,vp_x2,(str p_x.fReason),vp_x4,(str p_x.fBody),(int p_x.fRequested),(int p_x.fReceived)])] w0 H0 (fun H' v=>v=(boo r)):=by
 refine Con.mk (N:=38) Tryz.func52 rfl rfl kr rfl ?_
 have S:=St.start hw
 refine Ws<|Wg ?_
 refine W.box [vp_e0,vp_e1,vp_e2,(str p_e.fReason),vp_e4,(str p_e.fBody),(int p_e.fRequested),(int p_e.fReceived)] S rfl rfl ?_
 intro b1 w2 S
 refine W.box [vp_x0,vp_x1,vp_x2,(str p_x.fReason),vp_x4,(str p_x.fBody),(int p_x.fRequested),(int p_x.fReceived)] S rfl rfl ?_
 intro b3 w4 S
 refine A<|We<|Ws<|Ws<|Wg<|M<|Nq Rp_axes<|Le<|We ?_
 rcases condE h with ⟨hc5,h⟩ | ⟨hc5,h⟩
 ·refine CT hc5<|Ws<|Wg<|Fb ?_
  refine Lo 1 S<|Fb ?_
  refine Lo 0 S<|B h fun r6 hr6 h=>W.call S rfl (zHH S.holds p_e.fVary p_x.fVary Rp_e1 Rp_x1 hr6) ?_
  rintro v7 w8 H9 hle10 S rfl
  have Rp_axes:=Sl.mono Rp_axes hle10
  have Rp_e0:=Sl.mono Rp_e0 hle10
  have Rp_e1:=Sl.mono Rp_e1 hle10
  have Rp_e2:=Sl.mono Rp_e2 hle10
  have Rp_e4:=Sl.mono Rp_e4 hle10
  have Rp_x0:=Sl.mono Rp_x0 hle10
  have Rp_x1:=Sl.mono Rp_x1 hle10
  have Rp_x2:=Sl.mono Rp_x2 hle10
  have Rp_x4:=Sl.mono Rp_x4 hle10
  refine M<|B h fun b18 hg12 h=>WL.grpw 6 [17,18,19,20,21] 22 (boo b18) (fun w=>∃ H':Hp,H9.le H'∧St w0 H0 w H' [.box b3 36 [vp_x0,vp_x1,vp_x2,(str p_x.fReason),vp_x4,(str p_x.fBody),(int p_x.fRequested),(int p_x.fReceived)],.box b1 36 [vp_e0,vp_e1,vp_e2,(str p_e.fReason),vp_e4,(str p_e.fBody),(int p_e.fRequested),(int p_e.fReceived)]]) ?_ ?_
  ·rcases boolE r6 with hb11 | hb11
   ·replace hg12:=condT hg12 hb11
    refine Gy hb11<|Fb<|Gy hb11 ?_
    refine Lo 1 S<|Gy hb11<|Fb<|Gy hb11 ?_
    refine Lo 0 S<|Gy hb11<|B hg12 fun r13 hr13 hg12=>W.call S rfl (zHH S.holds p_e.fSnapshot p_x.fSnapshot Rp_e2 Rp_x2 hr13) ?_
    rintro v14 w15 H16 hle17 S rfl
    have Rp_axes:=Sl.mono Rp_axes hle17
    have Rp_e0:=Sl.mono Rp_e0 hle17
    have Rp_e1:=Sl.mono Rp_e1 hle17
    have Rp_e2:=Sl.mono Rp_e2 hle17
    have Rp_e4:=Sl.mono Rp_e4 hle17
    have Rp_x0:=Sl.mono Rp_x0 hle17
    have Rp_x1:=Sl.mono Rp_x1 hle17
    have Rp_x2:=Sl.mono Rp_x2 hle17
    have Rp_x4:=Sl.mono Rp_x4 hle17
    refine Pt hb11 ?_
    exact We ⟨(congrArg boo (oi hg12)),ag,⟨H16,hle17,S⟩⟩
   replace hg12:=condF hg12 hb11
   refine Gn hb11<|Gn hb11<|Gn hb11<|Gn hb11<|Gn hb11<|Pf hb11 ?_
   exact We ⟨(congrArg boo (oi hg12)),ag,⟨H9,(Hp.le.refl _),S⟩⟩
  intro us w20 ⟨H19,hle21,S⟩
  have Rp_axes:=Sl.mono Rp_axes hle21
  have Rp_e0:=Sl.mono Rp_e0 hle21
  have Rp_e1:=Sl.mono Rp_e1 hle21
  have Rp_e2:=Sl.mono Rp_e2 hle21
  have Rp_e4:=Sl.mono Rp_e4 hle21
  have Rp_x0:=Sl.mono Rp_x0 hle21
  have Rp_x1:=Sl.mono Rp_x1 hle21
  have Rp_x2:=Sl.mono Rp_x2 hle21
  have Rp_x4:=Sl.mono Rp_x4 hle21
  refine A<|We ?_
  obtain rfl:=oi h
  refine WP.ret (Out.one rfl S rfl ?_)
  exact rfl
 refine CF hc5<|Wk<|Ws<|Ws<|Wg<|A<|We<|B h fun r32 hr33 h=>WP.cut (fun f w=>match r32 with | .inl _=>∃ (H28:Hp),St w0 H0 w H28 [] | .inr _=>False) ?_ ?_
 ·refine Wb ?_
  refine WP.loopM (zQI p_axes p_e p_x) (fun s f w=>match s with | i_26=>∃ (H22:Hp),f 0=vp_axes∧f 4=(ptr b1 0)∧f 5=(ptr b3 0)∧f 7=(int i_26)∧Sl (α:=GAxis) H22 vp_axes p_axes∧Sl (α:=(List Str)) H22 vp_x0 p_x.fKeys∧Sl (α:=Str) H22 vp_x1 p_x.fVary∧Sl (α:=Str) H22 vp_x2 p_x.fSnapshot∧Sl (α:=GField) H22 vp_x4 p_x.fFields∧Sl (α:=(List Str)) H22 vp_e0 p_e.fKeys∧Sl (α:=Str) H22 vp_e1 p_e.fVary∧Sl (α:=Str) H22 vp_e2 p_e.fSnapshot∧Sl (α:=GField) H22 vp_e4 p_e.fFields∧St w0 H0 w H22 [.box b3 36 [vp_x0,vp_x1,vp_x2,(str p_x.fReason),vp_x4,(str p_x.fBody),(int p_x.fRequested),(int p_x.fReceived)],.box b1 36 [vp_e0,vp_e1,vp_e2,(str p_e.fReason),vp_e4,(str p_e.fBody),(int p_e.fRequested),(int p_e.fReceived)]]) 0 r32 hr33 ?_ ?_
  ·exact ⟨H0,rfl,rfl,rfl,rfl,Rp_axes,Rp_x0,Rp_x1,Rp_x2,Rp_x4,Rp_e0,Rp_e1,Rp_e2,Rp_e4,S⟩
  intro i_26 f w hI y29 hy30 hy31
  obtain ⟨H22,h23,h24,h25,h27,Rp_axes,Rp_x0,Rp_x1,Rp_x2,Rp_x4,Rp_e0,Rp_e1,Rp_e2,Rp_e4,S⟩:=hI
  refine Ws<|Ws<|Wg<|M' h27<|Fb' h24 ?_
  refine Lo 1 S<|Nq Rp_e0<|La<|We ?_
  rcases condE hy30 with ⟨hc34,hy30⟩ | ⟨hc34,hy30⟩
  ·refine CT hc34<|Wk<|Ws<|Wb<|Ws<|WP.quiet S kr kr<|QM' h23 ?_
   refine WQ.val (fun w hw=>by obtain ⟨_,hq,S⟩:=hw; exact (R.loadBN (i:=0) (vs:=[vp_x0,vp_x1,vp_x2,(str p_x.fReason),vp_x4,(str p_x.fBody),(int p_x.fRequested),(int p_x.fReceived)]) S h25 rfl lay36 rfl rfl))<|QFb' h24 ?_
   refine WQ.val (fun w hw=>by obtain ⟨_,hq,S⟩:=hw; exact (R.loadB (i:=1) (v:=vp_e0) S rfl rfl lay33 rfl))<|QM' h27<|B hy30 fun x38 hx38 hy30=>WQ.idx (α:=(List Str)) Rp_e0 rfl rfl el33 hx38 ?_
   rintro a39 _ hA40 ⟨v41,rfl,R42⟩
   refine WQ.val (fun w hw=>by obtain ⟨_,hq,S⟩:=hw; exact (R.loadH (v:=v41) S rfl (At.mono hA40 hq (by simp)) lay34 rfl))<|B hy30 fun r43 hr43 hy30=>WQ.call (v:=boo r43) rfl (fun w H' hq S=>zLS S.holds p_axes p_x x38 (Sl.mono Rp_axes hq) (Sl.mono Rp_x0 hq) (Sl.mono Rp_x1 hq) (Sl.mono Rp_x2 hq) (Sl.mono Rp_x4 hq) (Sl.mono R42 hq) hr43)<|WQ.nil ?_
   intro w35 H36 hle37 S
   have Rp_axes:=Sl.mono Rp_axes hle37
   have Rp_e0:=Sl.mono Rp_e0 hle37
   have Rp_x0:=Sl.mono Rp_x0 hle37
   have Rp_x1:=Sl.mono Rp_x1 hle37
   have Rp_x2:=Sl.mono Rp_x2 hle37
   have Rp_x4:=Sl.mono Rp_x4 hle37
   have Rp_e1:=Sl.mono Rp_e1 hle37
   have Rp_e2:=Sl.mono Rp_e2 hle37
   have Rp_e4:=Sl.mono Rp_e4 hle37
   rcases condE hy30 with ⟨hc48,hy30⟩ | ⟨hc48,hy30⟩
   ·refine CT hc48<|Ws<|Wg<|A<|We ?_
    obtain rfl:=oi hy30
    obtain rfl:=hy31
    obtain rfl:=oi h
    refine WP.ret (Out.one rfl S rfl ?_)
    exact rfl
   refine CF hc48<|Wk<|Wg<|M' h27<|Lg<|A<|We ?_
   obtain rfl:=oi hy30
   exact ⟨rfl,⟨H36,h23,h24,h25,rfl,Rp_axes,Rp_x0,Rp_x1,Rp_x2,Rp_x4,Rp_e0,Rp_e1,Rp_e2,Rp_e4,S⟩⟩
  refine CF hc34<|Wx ?_
  obtain rfl:=oi hy30
  obtain rfl:=hy31
  exact ⟨H22,(S.drop _ (.cons _ (.cons _ .slnil)))⟩
 intro f w hM
 rcases r32 with _ | e
 ·obtain ⟨H28,S⟩:=hM
  refine Ws<|Wg<|A<|We ?_
  obtain rfl:=oi h
  refine WP.ret (Out.one rfl S rfl ?_)
  exact rfl
 exact hM.elim
theorem zQj {w0:World} {H0:Hp} (hw:Holds w0 H0) (p_t:GTable) (p_e:GEntry) (p_axes:(List GAxis)) (p_limit:Int) {vp_t0:Value} {vp_t1:Value} {vp_e0:Value} {vp_e1:Value} {vp_e2:Value} {vp_e4:Value} {vp_axes:Value} (Rp_t0:Sl (α:=GAxis) H0 vp_t0 p_t.fAxes) (Rp_t1:Sl (α:=GEntry) H0 vp_t1 p_t.fEntries) (Rp_e0:Sl (α:=(List Str)) H0 vp_e0 p_e.fKeys) (Rp_e1:Sl (α:=Str) H0 vp_e1 p_e.fVary) (Rp_e2:Sl (α:=Str) H0 vp_e2 p_e.fSnapshot) (Rp_e4:Sl (α:=GField) H0 vp_e4 p_e.fFields) (Rp_axes:Sl (α:=GAxis) H0 vp_axes p_axes) {r:GTable} (h:zQg p_t p_e p_axes p_limit=some r) :
  Con Tryz.prog 19 [(agg [vp_t0,vp_t1]),(agg [vp_e0,vp_e1,vp_e2,(str p_e.fReason),vp_e4,(str p_e.fBody),(int p_e.fRequested),(int p_e.fReceived)]),vp_axes,(int p_limit)] w0 H0 (fun H' v=>∃ u1 u2:Value,v=(agg [u1,u2])∧Sl (α:=GAxis) H' u1 r.fAxes∧Sl (α:=GEntry) H' u2 r.fEntries):=by
 refine Con.mk (N:=61) Tryz.func19 rfl rfl kr rfl ?_
 have S:=St.start hw
 refine Ws<|Wg ?_
 refine W.box [vp_t0,vp_t1] S rfl rfl ?_
 intro b1 w2 S
 refine W.box [vp_e0,vp_e1,vp_e2,(str p_e.fReason),vp_e4,(str p_e.fBody),(int p_e.fRequested),(int p_e.fReceived)] S rfl rfl ?_
 intro b3 w4 S
 refine W.alloc [(.slice none 0 0),(.slice none 0 0)] S zer25 ?_
 intro b5 w6 S
 refine We<|Ws<|Wg<|M ?_
 refine WL.w (R.build [(0,vp_axes)] [vp_axes,(.slice none 0 0)] bp25 zer25 rfl (by obtain ⟨_,_,rfl,_⟩:=Rp_axes; rfl)) ?_
 refine W.alloc [(.slice none 0 0),(.slice none 0 0)] S zer25 ?_
 intro b7 w8 S
 refine W.store (i:=0) [vp_axes,(.slice none 0 0)] S rfl rfl rfl lay25 rfl (AllOne.all (l:=[vp_axes,(.slice none 0 0)]) (.cons (Sl.oneC Rp_axes) (.cons rfl .nil))) (Nat.le_of_ble_eq_true rfl) rfl ?_
 intro w9 S
 refine We<|Ws<|Ws<|Wg<|Fb ?_
 refine Lo 3 S<|M<|B h fun r10 hr10 h=>W.call S rfl (zQd S.holds p_t.fAxes p_axes Rp_t0 Rp_axes hr10) ?_
 rintro v11 w12 H13 hle14 S rfl
 have Rp_t0:=Sl.mono Rp_t0 hle14
 have Rp_t1:=Sl.mono Rp_t1 hle14
 have Rp_e0:=Sl.mono Rp_e0 hle14
 have Rp_e1:=Sl.mono Rp_e1 hle14
 have Rp_e2:=Sl.mono Rp_e2 hle14
 have Rp_e4:=Sl.mono Rp_e4 hle14
 have Rp_axes:=Sl.mono Rp_axes hle14
 refine We ?_
 obtain ⟨v15,hv16⟩:∃ v:Value,v=.slice none 0 0:=⟨_,rfl⟩
 have R17:Sl (α:=GEntry) H13 v15 []:=by rw [hv16]; exact Sl.nil
 replace S:=(show ∀ {w:World},St w0 H0 w H13 [.box b7 25 [vp_axes,(.slice none 0 0)],.box b5 25 [(.slice none 0 0),(.slice none 0 0)],.box b3 36 [vp_e0,vp_e1,vp_e2,(str p_e.fReason),vp_e4,(str p_e.fBody),(int p_e.fRequested),(int p_e.fReceived)],.box b1 25 [vp_t0,vp_t1]]→St w0 H0 w H13 [.box b7 25 [vp_axes,v15],.box b5 25 [(.slice none 0 0),(.slice none 0 0)],.box b3 36 [vp_e0,vp_e1,vp_e2,(str p_e.fReason),vp_e4,(str p_e.fBody),(int p_e.fRequested),(int p_e.fReceived)],.box b1 25 [vp_t0,vp_t1]] from fun S=>by rw [hv16]; exact S) S
 replace S:=St.addNilV hv16 S 36 8
 obtain ⟨⟨m23,m26⟩,hj29,h⟩:=bindE h
 refine WP.cut (fun f w=>∃ (H18:Hp) (v24:Value) (v27:Value),f 3=(int p_limit)∧f 5=(ptr b3 0)∧f 8=(ptr b5 0)∧f 9=(ptr b7 0)∧Sl (α:=GAxis) H18 v24 m23∧Sl (α:=GEntry) H18 v27 m26∧Sl (α:=(List Str)) H18 vp_e0 p_e.fKeys∧Sl (α:=Str) H18 vp_e1 p_e.fVary∧Sl (α:=Str) H18 vp_e2 p_e.fSnapshot∧Sl (α:=GField) H18 vp_e4 p_e.fFields∧St w0 H0 w H18 [.row v27 36 8 m26.length,.box b7 25 [v24,v27],.box b5 25 [(.slice none 0 0),(.slice none 0 0)],.box b3 36 [vp_e0,vp_e1,vp_e2,(str p_e.fReason),vp_e4,(str p_e.fBody),(int p_e.fRequested),(int p_e.fReceived)]]) ?_ ?_
 ·rcases condE hj29 with ⟨hc31,hj29⟩ | ⟨hc31,hj29⟩
  ·refine CT hc31<|Ws<|Wg<|A<|We<|B hj29 fun r61 hr62 hj29=>WP.cut (fun f w=>match r61 with | (m52,m55)=>∃ (H47:Hp) (v53:Value) (v56:Value),f 3=(int p_limit)∧f 5=(ptr b3 0)∧f 8=(ptr b5 0)∧f 9=(ptr b7 0)∧Sl (α:=GAxis) H47 v53 m52∧Sl (α:=GEntry) H47 v56 m55∧Sl (α:=(List Str)) H47 vp_e0 p_e.fKeys∧Sl (α:=Str) H47 vp_e1 p_e.fVary∧Sl (α:=Str) H47 vp_e2 p_e.fSnapshot∧Sl (α:=GField) H47 vp_e4 p_e.fFields∧St w0 H0 w H47 [.row v56 36 8 m55.length,.box b7 25 [v53,v56],.box b5 25 [(.slice none 0 0),(.slice none 0 0)],.box b3 36 [vp_e0,vp_e1,vp_e2,(str p_e.fReason),vp_e4,(str p_e.fBody),(int p_e.fRequested),(int p_e.fReceived)]]) ?_ ?_
   ·refine Wb ?_
    refine WP.loopM (zQN p_t p_e p_axes) (fun s f w=>match s with | (i_39,m41,m44)=>∃ (H32:Hp) (v42:Value) (v45:Value),f 2=vp_axes∧f 3=(int p_limit)∧f 4=(ptr b1 0)∧f 5=(ptr b3 0)∧f 8=(ptr b5 0)∧f 9=(ptr b7 0)∧f 10=(int i_39)∧Sl (α:=GAxis) H32 vp_axes p_axes∧Sl (α:=GAxis) H32 v42 m41∧Sl (α:=GEntry) H32 v45 m44∧Sl (α:=(List Str)) H32 vp_e0 p_e.fKeys∧Sl (α:=Str) H32 vp_e1 p_e.fVary∧Sl (α:=Str) H32 vp_e2 p_e.fSnapshot∧Sl (α:=GField) H32 vp_e4 p_e.fFields∧Sl (α:=GAxis) H32 vp_t0 p_t.fAxes∧Sl (α:=GEntry) H32 vp_t1 p_t.fEntries∧St w0 H0 w H32 [.row v45 36 8 m44.length,.box b7 25 [v42,v45],.box b5 25 [(.slice none 0 0),(.slice none 0 0)],.box b3 36 [vp_e0,vp_e1,vp_e2,(str p_e.fReason),vp_e4,(str p_e.fBody),(int p_e.fRequested),(int p_e.fReceived)],.box b1 25 [vp_t0,vp_t1]]) (0,p_axes,([]:List GEntry)) r61 hr62 ?_ ?_
    ·exact ⟨H13,vp_axes,v15,rfl,rfl,rfl,rfl,rfl,rfl,rfl,Rp_axes,Rp_axes,R17,Rp_e0,Rp_e1,Rp_e2,Rp_e4,Rp_t0,Rp_t1,S⟩
    intro s f w hI y58 hy59 hy60
    obtain ⟨i_39,m41,m44⟩:=s
    obtain ⟨H32,v42,v45,h33,h34,h35,h36,h37,h38,h40,Rp_axes,R43,R46,Rp_e0,Rp_e1,Rp_e2,Rp_e4,Rp_t0,Rp_t1,S⟩:=hI
    refine Ws<|Ws<|Wg<|M' h40<|Fb' h35 ?_
    refine Lo 4 S<|Nq Rp_t1<|La<|We ?_
    rcases condE hy59 with ⟨hc63,hy59⟩ | ⟨hc63,hy59⟩
    ·refine CT hc63<|Wk<|Ws<|Wb<|Ws<|WP.quiet S kr kr<|QM' h33 ?_
     refine WQ.val (fun w hw=>by obtain ⟨_,hq,S⟩:=hw; exact (R.loadBN (i:=3) (vs:=[vp_e0,vp_e1,vp_e2,(str p_e.fReason),vp_e4,(str p_e.fBody),(int p_e.fRequested),(int p_e.fReceived)]) S h36 rfl lay36 rfl rfl))<|QFb' h35 ?_
     refine WQ.val (fun w hw=>by obtain ⟨_,hq,S⟩:=hw; exact (R.loadB (i:=4) (v:=vp_t1) S rfl rfl lay23 rfl))<|QM' h40<|B hy59 fun x67 hx67 hy59=>WQ.idx (α:=GEntry) Rp_t1 rfl rfl el23 hx67 ?_
     rintro a68 _ hA69 ⟨v70,v72,v74,v76,rfl,R71,R73,R75,R77⟩
     refine WQ.val (fun w hw=>by obtain ⟨_,hq,S⟩:=hw; exact (R.loadHN (vs:=[v70,v72,v74,(str x67.fReason),v76,(str x67.fBody),(int x67.fRequested),(int x67.fReceived)]) S rfl (At.mono hA69 hq (by simp)) lay36 rfl rfl))<|B hy59 fun r78 hr78 hy59=>WQ.call (v:=boo r78) rfl (fun w H' hq S=>zQh S.holds p_axes p_e x67 (Sl.mono Rp_axes hq) (Sl.mono Rp_e0 hq) (Sl.mono Rp_e1 hq) (Sl.mono Rp_e2 hq) (Sl.mono Rp_e4 hq) (Sl.mono R71 hq) (Sl.mono R73 hq) (Sl.mono R75 hq) (Sl.mono R77 hq) hr78)<|QNo<|WQ.nil ?_
     intro w64 H65 hle66 S
     have Rp_axes:=Sl.mono Rp_axes hle66
     have Rp_t1:=Sl.mono Rp_t1 hle66
     have Rp_e0:=Sl.mono Rp_e0 hle66
     have Rp_e1:=Sl.mono Rp_e1 hle66
     have Rp_e2:=Sl.mono Rp_e2 hle66
     have Rp_e4:=Sl.mono Rp_e4 hle66
     have R43:=Sl.mono R43 hle66
     have R46:=Sl.mono R46 hle66
     have Rp_t0:=Sl.mono Rp_t0 hle66
     rcases condE hy59 with ⟨hc83,hy59⟩ | ⟨hc83,hy59⟩
     ·refine CT hc83<|WP.draw kr 11 rfl (bm 11 0) rfl ?_
      have S:=S.drew
      refine WA.take (i:=0) (bm 11 1) rfl kr kr kr rfl (fun _=>(R.fieldB h38 zE9)) ?_
      refine WA.take (i:=2) (bm 11 5) rfl kr kr kr rfl (fun _=>(R.fieldB h35 zE9)) ?_
      refine WA.take (i:=4) (bm 11 21) rfl kr kr kr rfl (fun _=>(R.mv (v:=int i_39) h40)) ?_
      refine WA.two (i:=1) (j:=3) (bm 11 23) (bm 11 29) rfl rfl kr rfl rfl ?_ ?_
      ·refine Lo 1 S<|We<|WA.one (i:=3) (bm 11 31) rfl kr rfl ?_
       refine Lo 4 S<|We<|WA.one (i:=5) (bm 11 63) rfl kr rfl<|B hy59 fun x84 hx84 hy59=>W.idx (α:=GEntry) Rp_t1 rfl rfl el23 hx84 ?_
       rintro a85 _ hA86 ⟨v87,v89,v91,v93,rfl,R88,R90,R92,R94⟩
       refine We<|WA.one (i:=6) (bm 11 127) rfl kr rfl ?_
       refine WL.w (R.loadHN (vs:=[v87,v89,v91,(str x84.fReason),v93,(str x84.fBody),(int x84.fRequested),(int x84.fReceived)]) S rfl hA86 lay36 rfl rfl)<|We<|WA.one (i:=7) (bm 11 255) rfl kr rfl<|W.bslice (α:=GEntry) [(agg [v87,v89,v91,(str x84.fReason),v93,(str x84.fBody),(int x84.fRequested),(int x84.fReceived)])] ([x84]:List GEntry) S el23 rfl rfl rfl (by decide) (Go.Eng.encS ⟨rfl,_,_,_,_,rfl,R88,R90,R92,R94⟩ enc0) ?_
       intro u95 w96 H97 hle98 R99 S
       have Rp_axes:=Sl.mono Rp_axes hle98
       have Rp_t1:=Sl.mono Rp_t1 hle98
       have Rp_e0:=Sl.mono Rp_e0 hle98
       have Rp_e1:=Sl.mono Rp_e1 hle98
       have Rp_e2:=Sl.mono Rp_e2 hle98
       have Rp_e4:=Sl.mono Rp_e4 hle98
       have R46:=Sl.mono R46 hle98
       have hA86:=At.mono hA86 hle98 (by simp)
       have R88:=Sl.mono R88 hle98
       have R90:=Sl.mono R90 hle98
       have R92:=Sl.mono R92 hle98
       have R94:=Sl.mono R94 hle98
       have R43:=Sl.mono R43 hle98
       have Rp_t0:=Sl.mono Rp_t0 hle98
       refine We<|WA.one (i:=8) (bm 11 511) rfl kr rfl<|B hy59 fun l100 hl100 hy59=>W.app (α:=GEntry) (i:=1) S el23 rfl rfl rfl R46 R99 hl100 ?_
       intro v101 w102 H103 hle104 R105 S
       have Rp_axes:=Sl.mono Rp_axes hle104
       have Rp_t1:=Sl.mono Rp_t1 hle104
       have Rp_e0:=Sl.mono Rp_e0 hle104
       have Rp_e1:=Sl.mono Rp_e1 hle104
       have Rp_e2:=Sl.mono Rp_e2 hle104
       have Rp_e4:=Sl.mono Rp_e4 hle104
       have R46:=Sl.mono R46 hle104
       have hA86:=At.mono hA86 hle104 (by simp)
       have R88:=Sl.mono R88 hle104
       have R90:=Sl.mono R90 hle104
       have R92:=Sl.mono R92 hle104
       have R94:=Sl.mono R94 hle104
       have R99:=Sl.mono R99 hle104
       have R43:=Sl.mono R43 hle104
       have Rp_t0:=Sl.mono Rp_t0 hle104
       refine We ?_
       refine WA.take (i:=9) (bm 11 1023) rfl kr kr kr rfl (fun _=>(R.fieldB h38 zE9))<|WA.one (i:=10) (bm 11 2047) rfl kr rfl ?_
       refine W.storeSl (α:=GEntry) (i:=2) [v42,v101] S R105 rfl rfl rfl lay23 (Nat.le_of_ble_eq_true rfl) rfl ?_
       intro w106 S
       refine We<|WA.done kr<|Wg<|M' h40<|Lg<|A<|We ?_
       obtain rfl:=oi hy59
       exact ⟨rfl,⟨H103,v42,v101,h33,h34,h35,h36,h37,h38,rfl,Rp_axes,R43,R105,Rp_e0,Rp_e1,Rp_e2,Rp_e4,Rp_t0,Rp_t1,(S.drop _ (.cons _ (.cons_cons _ (.cons_cons _ (.cons_cons _ (.cons_cons _ (.cons_cons _ .slnil)))))))⟩⟩
      refine Lo 4 S<|We ?_
      refine WA.two (i:=1) (j:=5) (bm 11 31) (bm 11 61) rfl rfl kr rfl rfl ?_ ?_
      ·refine Lo 1 S<|We<|WA.one (i:=5) (bm 11 63) rfl kr rfl<|B hy59 fun x84 hx84 hy59=>W.idx (α:=GEntry) Rp_t1 rfl rfl el23 hx84 ?_
       rintro a85 _ hA86 ⟨v87,v89,v91,v93,rfl,R88,R90,R92,R94⟩
       refine We<|WA.one (i:=6) (bm 11 127) rfl kr rfl ?_
       refine WL.w (R.loadHN (vs:=[v87,v89,v91,(str x84.fReason),v93,(str x84.fBody),(int x84.fRequested),(int x84.fReceived)]) S rfl hA86 lay36 rfl rfl)<|We<|WA.one (i:=7) (bm 11 255) rfl kr rfl<|W.bslice (α:=GEntry) [(agg [v87,v89,v91,(str x84.fReason),v93,(str x84.fBody),(int x84.fRequested),(int x84.fReceived)])] ([x84]:List GEntry) S el23 rfl rfl rfl (by decide) (Go.Eng.encS ⟨rfl,_,_,_,_,rfl,R88,R90,R92,R94⟩ enc0) ?_
       intro u95 w96 H97 hle98 R99 S
       have Rp_axes:=Sl.mono Rp_axes hle98
       have Rp_t1:=Sl.mono Rp_t1 hle98
       have Rp_e0:=Sl.mono Rp_e0 hle98
       have Rp_e1:=Sl.mono Rp_e1 hle98
       have Rp_e2:=Sl.mono Rp_e2 hle98
       have Rp_e4:=Sl.mono Rp_e4 hle98
       have R46:=Sl.mono R46 hle98
       have hA86:=At.mono hA86 hle98 (by simp)
       have R88:=Sl.mono R88 hle98
       have R90:=Sl.mono R90 hle98
       have R92:=Sl.mono R92 hle98
       have R94:=Sl.mono R94 hle98
       have R43:=Sl.mono R43 hle98
       have Rp_t0:=Sl.mono Rp_t0 hle98
       refine We<|WA.one (i:=8) (bm 11 511) rfl kr rfl<|B hy59 fun l100 hl100 hy59=>W.app (α:=GEntry) (i:=1) S el23 rfl rfl rfl R46 R99 hl100 ?_
       intro v101 w102 H103 hle104 R105 S
       have Rp_axes:=Sl.mono Rp_axes hle104
       have Rp_t1:=Sl.mono Rp_t1 hle104
       have Rp_e0:=Sl.mono Rp_e0 hle104
       have Rp_e1:=Sl.mono Rp_e1 hle104
       have Rp_e2:=Sl.mono Rp_e2 hle104
       have Rp_e4:=Sl.mono Rp_e4 hle104
       have R46:=Sl.mono R46 hle104
       have hA86:=At.mono hA86 hle104 (by simp)
       have R88:=Sl.mono R88 hle104
       have R90:=Sl.mono R90 hle104
       have R92:=Sl.mono R92 hle104
       have R94:=Sl.mono R94 hle104
       have R99:=Sl.mono R99 hle104
       have R43:=Sl.mono R43 hle104
       have Rp_t0:=Sl.mono Rp_t0 hle104
       refine We ?_
       refine WA.take (i:=9) (bm 11 1023) rfl kr kr kr rfl (fun _=>(R.fieldB h38 zE9))<|WA.one (i:=10) (bm 11 2047) rfl kr rfl ?_
       refine W.storeSl (α:=GEntry) (i:=2) [v42,v101] S R105 rfl rfl rfl lay23 (Nat.le_of_ble_eq_true rfl) rfl ?_
       intro w106 S
       refine We<|WA.done kr<|Wg<|M' h40<|Lg<|A<|We ?_
       obtain rfl:=oi hy59
       exact ⟨rfl,⟨H103,v42,v101,h33,h34,h35,h36,h37,h38,rfl,Rp_axes,R43,R105,Rp_e0,Rp_e1,Rp_e2,Rp_e4,Rp_t0,Rp_t1,(S.drop _ (.cons _ (.cons_cons _ (.cons_cons _ (.cons_cons _ (.cons_cons _ (.cons_cons _ .slnil)))))))⟩⟩
      refine B hy59 fun x84 hx84 hy59=>W.idx (α:=GEntry) Rp_t1 rfl rfl el23 hx84 ?_
      rintro a85 _ hA86 ⟨v87,v89,v91,v93,rfl,R88,R90,R92,R94⟩
      refine We ?_
      refine WA.two (i:=1) (j:=6) (bm 11 63) (bm 11 125) rfl rfl kr rfl rfl ?_ ?_
      ·refine Lo 1 S<|We<|WA.one (i:=6) (bm 11 127) rfl kr rfl ?_
       refine WL.w (R.loadHN (vs:=[v87,v89,v91,(str x84.fReason),v93,(str x84.fBody),(int x84.fRequested),(int x84.fReceived)]) S rfl hA86 lay36 rfl rfl)<|We<|WA.one (i:=7) (bm 11 255) rfl kr rfl<|W.bslice (α:=GEntry) [(agg [v87,v89,v91,(str x84.fReason),v93,(str x84.fBody),(int x84.fRequested),(int x84.fReceived)])] ([x84]:List GEntry) S el23 rfl rfl rfl (by decide) (Go.Eng.encS ⟨rfl,_,_,_,_,rfl,R88,R90,R92,R94⟩ enc0) ?_
       intro u95 w96 H97 hle98 R99 S
       have Rp_axes:=Sl.mono Rp_axes hle98
       have Rp_t1:=Sl.mono Rp_t1 hle98
       have Rp_e0:=Sl.mono Rp_e0 hle98
       have Rp_e1:=Sl.mono Rp_e1 hle98
       have Rp_e2:=Sl.mono Rp_e2 hle98
       have Rp_e4:=Sl.mono Rp_e4 hle98
       have hA86:=At.mono hA86 hle98 (by simp)
       have R88:=Sl.mono R88 hle98
       have R90:=Sl.mono R90 hle98
       have R92:=Sl.mono R92 hle98
       have R94:=Sl.mono R94 hle98
       have R46:=Sl.mono R46 hle98
       have R43:=Sl.mono R43 hle98
       have Rp_t0:=Sl.mono Rp_t0 hle98
       refine We<|WA.one (i:=8) (bm 11 511) rfl kr rfl<|B hy59 fun l100 hl100 hy59=>W.app (α:=GEntry) (i:=1) S el23 rfl rfl rfl R46 R99 hl100 ?_
       intro v101 w102 H103 hle104 R105 S
       have Rp_axes:=Sl.mono Rp_axes hle104
       have Rp_t1:=Sl.mono Rp_t1 hle104
       have Rp_e0:=Sl.mono Rp_e0 hle104
       have Rp_e1:=Sl.mono Rp_e1 hle104
       have Rp_e2:=Sl.mono Rp_e2 hle104
       have Rp_e4:=Sl.mono Rp_e4 hle104
       have hA86:=At.mono hA86 hle104 (by simp)
       have R88:=Sl.mono R88 hle104
       have R90:=Sl.mono R90 hle104
       have R92:=Sl.mono R92 hle104
       have R94:=Sl.mono R94 hle104
       have R46:=Sl.mono R46 hle104
       have R99:=Sl.mono R99 hle104
       have R43:=Sl.mono R43 hle104
       have Rp_t0:=Sl.mono Rp_t0 hle104
       refine We ?_
       refine WA.take (i:=9) (bm 11 1023) rfl kr kr kr rfl (fun _=>(R.fieldB h38 zE9))<|WA.one (i:=10) (bm 11 2047) rfl kr rfl ?_
       refine W.storeSl (α:=GEntry) (i:=2) [v42,v101] S R105 rfl rfl rfl lay23 (Nat.le_of_ble_eq_true rfl) rfl ?_
       intro w106 S
       refine We<|WA.done kr<|Wg<|M' h40<|Lg<|A<|We ?_
       obtain rfl:=oi hy59
       exact ⟨rfl,⟨H103,v42,v101,h33,h34,h35,h36,h37,h38,rfl,Rp_axes,R43,R105,Rp_e0,Rp_e1,Rp_e2,Rp_e4,Rp_t0,Rp_t1,(S.drop _ (.cons _ (.cons_cons _ (.cons_cons _ (.cons_cons _ (.cons_cons _ (.cons_cons _ .slnil)))))))⟩⟩
      refine WL.w (R.loadHN (vs:=[v87,v89,v91,(str x84.fReason),v93,(str x84.fBody),(int x84.fRequested),(int x84.fReceived)]) S rfl hA86 lay36 rfl rfl)<|We ?_
      refine WA.two (i:=1) (j:=7) (bm 11 127) (bm 11 253) rfl rfl kr rfl rfl ?_ ?_
      ·refine Lo 1 S<|We<|WA.one (i:=7) (bm 11 255) rfl kr rfl<|W.bslice (α:=GEntry) [(agg [v87,v89,v91,(str x84.fReason),v93,(str x84.fBody),(int x84.fRequested),(int x84.fReceived)])] ([x84]:List GEntry) S el23 rfl rfl rfl (by decide) (Go.Eng.encS ⟨rfl,_,_,_,_,rfl,R88,R90,R92,R94⟩ enc0) ?_
       intro u95 w96 H97 hle98 R99 S
       have Rp_axes:=Sl.mono Rp_axes hle98
       have Rp_t1:=Sl.mono Rp_t1 hle98
       have Rp_e0:=Sl.mono Rp_e0 hle98
       have Rp_e1:=Sl.mono Rp_e1 hle98
       have Rp_e2:=Sl.mono Rp_e2 hle98
       have Rp_e4:=Sl.mono Rp_e4 hle98
       have R88:=Sl.mono R88 hle98
       have R90:=Sl.mono R90 hle98
       have R92:=Sl.mono R92 hle98
       have R94:=Sl.mono R94 hle98
       have R46:=Sl.mono R46 hle98
       have R43:=Sl.mono R43 hle98
       have Rp_t0:=Sl.mono Rp_t0 hle98
       refine We<|WA.one (i:=8) (bm 11 511) rfl kr rfl<|B hy59 fun l100 hl100 hy59=>W.app (α:=GEntry) (i:=1) S el23 rfl rfl rfl R46 R99 hl100 ?_
       intro v101 w102 H103 hle104 R105 S
       have Rp_axes:=Sl.mono Rp_axes hle104
       have Rp_t1:=Sl.mono Rp_t1 hle104
       have Rp_e0:=Sl.mono Rp_e0 hle104
       have Rp_e1:=Sl.mono Rp_e1 hle104
       have Rp_e2:=Sl.mono Rp_e2 hle104
       have Rp_e4:=Sl.mono Rp_e4 hle104
       have R88:=Sl.mono R88 hle104
       have R90:=Sl.mono R90 hle104
       have R92:=Sl.mono R92 hle104
       have R94:=Sl.mono R94 hle104
       have R46:=Sl.mono R46 hle104
       have R99:=Sl.mono R99 hle104
       have R43:=Sl.mono R43 hle104
       have Rp_t0:=Sl.mono Rp_t0 hle104
       refine We ?_
       refine WA.take (i:=9) (bm 11 1023) rfl kr kr kr rfl (fun _=>(R.fieldB h38 zE9))<|WA.one (i:=10) (bm 11 2047) rfl kr rfl ?_
       refine W.storeSl (α:=GEntry) (i:=2) [v42,v101] S R105 rfl rfl rfl lay23 (Nat.le_of_ble_eq_true rfl) rfl ?_
       intro w106 S
       refine We<|WA.done kr<|Wg<|M' h40<|Lg<|A<|We ?_
       obtain rfl:=oi hy59
       exact ⟨rfl,⟨H103,v42,v101,h33,h34,h35,h36,h37,h38,rfl,Rp_axes,R43,R105,Rp_e0,Rp_e1,Rp_e2,Rp_e4,Rp_t0,Rp_t1,(S.drop _ (.cons _ (.cons_cons _ (.cons_cons _ (.cons_cons _ (.cons_cons _ (.cons_cons _ .slnil)))))))⟩⟩
      refine W.bslice (α:=GEntry) [(agg [v87,v89,v91,(str x84.fReason),v93,(str x84.fBody),(int x84.fRequested),(int x84.fReceived)])] ([x84]:List GEntry) S el23 rfl rfl rfl (by decide) (Go.Eng.encS ⟨rfl,_,_,_,_,rfl,R88,R90,R92,R94⟩ enc0) ?_
      intro u95 w96 H97 hle98 R99 S
      have Rp_axes:=Sl.mono Rp_axes hle98
      have Rp_t1:=Sl.mono Rp_t1 hle98
      have Rp_e0:=Sl.mono Rp_e0 hle98
      have Rp_e1:=Sl.mono Rp_e1 hle98
      have Rp_e2:=Sl.mono Rp_e2 hle98
      have Rp_e4:=Sl.mono Rp_e4 hle98
      have R43:=Sl.mono R43 hle98
      have R46:=Sl.mono R46 hle98
      have Rp_t0:=Sl.mono Rp_t0 hle98
      refine We<|WA.one (i:=1) (bm 11 255) rfl kr rfl ?_
      refine Lo 2 S<|We<|WA.one (i:=8) (bm 11 511) rfl kr rfl<|B hy59 fun l100 hl100 hy59=>W.app (α:=GEntry) (i:=1) S el23 rfl rfl rfl R46 R99 hl100 ?_
      intro v101 w102 H103 hle104 R105 S
      have Rp_axes:=Sl.mono Rp_axes hle104
      have Rp_t1:=Sl.mono Rp_t1 hle104
      have Rp_e0:=Sl.mono Rp_e0 hle104
      have Rp_e1:=Sl.mono Rp_e1 hle104
      have Rp_e2:=Sl.mono Rp_e2 hle104
      have Rp_e4:=Sl.mono Rp_e4 hle104
      have R46:=Sl.mono R46 hle104
      have R43:=Sl.mono R43 hle104
      have Rp_t0:=Sl.mono Rp_t0 hle104
      refine We ?_
      refine WA.take (i:=9) (bm 11 1023) rfl kr kr kr rfl (fun _=>(R.fieldB h38 zE9))<|WA.one (i:=10) (bm 11 2047) rfl kr rfl ?_
      refine W.storeSl (α:=GEntry) (i:=2) [v42,v101] S R105 rfl rfl rfl lay23 (Nat.le_of_ble_eq_true rfl) rfl ?_
      intro w106 S
      refine We<|WA.done kr<|Wg<|M' h40<|Lg<|A<|We ?_
      obtain rfl:=oi hy59
      exact ⟨rfl,⟨H103,v42,v101,h33,h34,h35,h36,h37,h38,rfl,Rp_axes,R43,R105,Rp_e0,Rp_e1,Rp_e2,Rp_e4,Rp_t0,Rp_t1,(S.drop _ (.cons _ (.cons_cons _ (.cons_cons _ (.cons_cons _ (.cons_cons _ (.cons_cons _ .slnil)))))))⟩⟩
     refine CF hc83<|Wk<|Wg<|M' h40<|Lg<|A<|We ?_
     obtain rfl:=oi hy59
     exact ⟨rfl,⟨H65,v42,v45,h33,h34,h35,h36,h37,h38,rfl,Rp_axes,R43,R46,Rp_e0,Rp_e1,Rp_e2,Rp_e4,Rp_t0,Rp_t1,S⟩⟩
    refine CF hc63<|Wx ?_
    obtain rfl:=oi hy59
    obtain rfl:=hy60
    exact ⟨H32,v42,v45,h34,h36,h37,h38,R43,R46,Rp_e0,Rp_e1,Rp_e2,Rp_e4,(S.drop _ (.cons_cons _ (.cons_cons _ (.cons_cons _ (.cons_cons _ (.cons _ .slnil))))))⟩
   intro f w hM
   obtain ⟨m52,m55⟩:=r61
   obtain ⟨H47,v53,v56,h48,h49,h50,h51,R54,R57,Rp_e0,Rp_e1,Rp_e2,Rp_e4,S⟩:=hM
   cases oi hj29
   exact ⟨H47,v53,v56,h48,h49,h50,h51,R54,R57,Rp_e0,Rp_e1,Rp_e2,Rp_e4,S⟩
  refine CF hc31<|Wk ?_
  cases oi hj29
  exact ⟨H13,vp_axes,v15,rfl,rfl,rfl,rfl,Rp_axes,R17,Rp_e0,Rp_e1,Rp_e2,Rp_e4,(S.drop _ (.cons_cons _ (.cons_cons _ (.cons_cons _ (.cons_cons _ (.cons _ .slnil))))))⟩
 rintro f w ⟨H18,v24,v27,h19,h20,h21,h22,R25,R28,Rp_e0,Rp_e1,Rp_e2,Rp_e4,S⟩
 refine Ws<|Wg<|Fb' h22 ?_
 refine Lo 1 S ?_
 refine WL.w (R.loadBN (i:=3) (vs:=[vp_e0,vp_e1,vp_e2,(str p_e.fReason),vp_e4,(str p_e.fBody),(int p_e.fRequested),(int p_e.fReceived)]) S h20 rfl lay36 rfl rfl)<|W.bslice (α:=GEntry) [(agg [vp_e0,vp_e1,vp_e2,(str p_e.fReason),vp_e4,(str p_e.fBody),(int p_e.fRequested),(int p_e.fReceived)])] ([p_e]:List GEntry) S el23 rfl rfl rfl (by decide) (Go.Eng.encS ⟨rfl,_,_,_,_,rfl,Rp_e0,Rp_e1,Rp_e2,Rp_e4⟩ enc0) ?_
 intro u107 w108 H109 hle110 R111 S
 have R28:=Sl.mono R28 hle110
 have R25:=Sl.mono R25 hle110
 refine B h fun l112 hl112 h=>W.app (α:=GEntry) (i:=1) S el23 rfl rfl rfl R28 R111 hl112 ?_
 intro v113 w114 H115 hle116 R117 S
 have R25:=Sl.mono R25 hle116
 refine Fb' h22 ?_
 refine W.storeSl (α:=GEntry) (i:=2) [v24,v113] S R117 rfl rfl rfl lay23 (Nat.le_of_ble_eq_true rfl) rfl ?_
 intro w118 S
 refine We<|Ws<|B h fun r141 hr142 h=>WP.cut (fun f w=>match r141 with | (m132,m135)=>∃ (H129:Hp) (v133:Value) (v136:Value),f 8=(ptr b5 0)∧f 9=(ptr b7 0)∧Sl (α:=GAxis) H129 v133 m132∧Sl (α:=GEntry) H129 v136 m135∧St w0 H0 w H129 [.box b7 25 [v133,v136],.box b5 25 [(.slice none 0 0),(.slice none 0 0)]]) ?_ ?_
 ·refine Wb ?_
  refine WP.loopM (zQK p_limit) (fun s f w=>match s with | (m123,m126)=>∃ (H119:Hp) (v124:Value) (v127:Value),f 3=(int p_limit)∧f 8=(ptr b5 0)∧f 9=(ptr b7 0)∧Sl (α:=GAxis) H119 v124 m123∧Sl (α:=GEntry) H119 v127 m126∧St w0 H0 w H119 [.box b7 25 [v124,v127],.box b5 25 [(.slice none 0 0),(.slice none 0 0)]]) (m23,l112) r141 hr142 ?_ ?_
  ·exact ⟨H115,v24,v113,h19,h21,h22,R25,R117,(S.drop _ (.cons _ (.cons _ (.cons_cons _ (.cons_cons _ (.cons _ .slnil))))))⟩
  intro s f w hI y138 hy139 hy140
  obtain ⟨m123,m126⟩:=s
  obtain ⟨H119,v124,v127,h120,h121,h122,R125,R128,S⟩:=hI
  refine Ws<|Ws<|Wg<|Fb' h122 ?_
  refine Lo 0 S<|Nq R128<|M' h120<|Nj<|Lc<|We ?_
  rcases condE hy139 with ⟨hc143,hy139⟩ | ⟨hc143,hy139⟩
  ·refine CT hc143<|Wk<|Wb<|Wg<|Fb' h122 ?_
   refine Lo 0 S<|B hy139 fun l144 hl144 hy139=>W.subLo (α:=GEntry) R128 rfl rfl el23 hl144 ?_
   intro v145 R146
   refine Fb' h122 ?_
   refine W.storeSl (α:=GEntry) (i:=0) [v124,v145] S R146 rfl rfl rfl lay23 (Nat.le_of_ble_eq_true rfl) rfl ?_
   intro w147 S
   refine We ?_
   obtain rfl:=oi hy139
   exact ⟨rfl,⟨H119,v124,v145,h120,h121,h122,R125,R146,S⟩⟩
  refine CF hc143<|Wx ?_
  obtain rfl:=oi hy139
  obtain rfl:=hy140
  exact ⟨H119,v124,v127,h121,h122,R125,R128,S⟩
 intro f w hM
 obtain ⟨m132,m135⟩:=r141
 obtain ⟨H129,v133,v136,h130,h131,R134,R137,S⟩:=hM
 refine Ws<|Wg ?_
 refine WL.w (R.loadBN (i:=0) (vs:=[v133,v136]) S h131 rfl lay25 rfl rfl)<|B h fun r148 hr148 h=>W.call S rfl (zQc S.holds (⟨m132,m135⟩:GTable) R134 R137 hr148) ?_
 rintro v149 w150 H151 hle152 S ⟨u153,u155,rfl,R154,R156⟩
 refine W.store (i:=1) [u153,u155] S h130 rfl rfl lay25 rfl (AllOne.all (l:=[u153,u155]) (.cons (Sl.oneC R154) (.cons (Sl.oneC R156) .nil))) (Nat.le_of_ble_eq_true rfl) rfl ?_
 intro w157 S
 refine We ?_
 obtain rfl:=oi h
 refine WP.ret (Out.one rfl S (Res.cellB (i:=1) (cs:=[u153,u155]) S h130 rfl lay25 rfl rfl) ?_)
 exact ⟨_,_,rfl,R154,R156⟩
theorem zQi {w0:World} {H0:Hp} (hw:Holds w0 H0) (p_a:(List (List Str))) (p_b:(List (List Str))) {vp_a:Value} {vp_b:Value} (Rp_a:Sl (α:=(List Str)) H0 vp_a p_a) (Rp_b:Sl (α:=(List Str)) H0 vp_b p_b) {r:Bool} (h:zQU p_a p_b=some r) :
  Con Tryz.prog 79 [vp_a,vp_b] w0 H0 (fun H' v=>v=(boo r)):=by
 refine Con.mk (N:=27) Tryz.func79 rfl rfl kr rfl ?_
 have S:=St.start hw
 refine Ws<|Wg<|A<|We<|Ws<|Ws<|Wg<|M<|Nq Rp_a<|M<|Nq Rp_b<|Lf ?_
 refine We ?_
 rcases condE h with ⟨hc1,h⟩ | ⟨hc1,h⟩
 ·refine CT hc1<|Ws<|Wg<|A<|We ?_
  obtain rfl:=oi h
  refine WP.ret (Out.one rfl S rfl ?_)
  exact rfl
 refine CF hc1<|Wk<|Ws<|Ws<|Wg<|A<|We<|B h fun r11 hr12 h=>WP.cut (fun f w=>match r11 with | .inl _=>∃ (H7:Hp),St w0 H0 w H7 [] | .inr _=>False) ?_ ?_
 ·refine Wb ?_
  refine WP.loopM (zQO p_a p_b) (fun s f w=>match s with | i_5=>∃ (H2:Hp),f 0=vp_a∧f 1=vp_b∧f 5=(int i_5)∧Sl (α:=(List Str)) H2 vp_a p_a∧Sl (α:=(List Str)) H2 vp_b p_b∧St w0 H0 w H2 []) 0 r11 hr12 ?_ ?_
  ·exact ⟨H0,rfl,rfl,rfl,Rp_a,Rp_b,S⟩
  intro i_5 f w hI y8 hy9 hy10
  obtain ⟨H2,h3,h4,h6,Rp_a,Rp_b,S⟩:=hI
  refine Ws<|Ws<|Wg<|M' h6<|M' h3<|Nq Rp_a<|La<|We ?_
  rcases condE hy9 with ⟨hc13,hy9⟩ | ⟨hc13,hy9⟩
  ·refine CT hc13<|Wk<|Ws<|Wb<|Ws<|WP.quiet S kr kr<|QM' h3<|QM' h6<|B hy9 fun x17 hx17 hy9=>WQ.idx (α:=(List Str)) Rp_a rfl rfl el33 hx17 ?_
   rintro a18 _ hA19 ⟨v20,rfl,R21⟩
   refine WQ.val (fun w hw=>by obtain ⟨_,hq,S⟩:=hw; exact (R.loadH (v:=v20) S rfl (At.mono hA19 hq (by simp)) lay34 rfl))<|QM' h4<|QM' h6<|B hy9 fun x22 hx22 hy9=>WQ.idx (α:=(List Str)) Rp_b rfl rfl el33 hx22 ?_
   rintro a23 _ hA24 ⟨v25,rfl,R26⟩
   refine WQ.val (fun w hw=>by obtain ⟨_,hq,S⟩:=hw; exact (R.loadH (v:=v25) S rfl (At.mono hA24 hq (by simp)) lay34 rfl))<|B hy9 fun r27 hr27 hy9=>WQ.call (v:=boo r27) rfl (fun w H' hq S=>zHH S.holds x17 x22 (Sl.mono R21 hq) (Sl.mono R26 hq) hr27)<|QNo<|WQ.nil ?_
   intro w14 H15 hle16 S
   have Rp_a:=Sl.mono Rp_a hle16
   have Rp_b:=Sl.mono Rp_b hle16
   rcases condE hy9 with ⟨hc32,hy9⟩ | ⟨hc32,hy9⟩
   ·refine CT hc32<|Ws<|Wg<|A<|We ?_
    obtain rfl:=oi hy9
    obtain rfl:=hy10
    obtain rfl:=oi h
    refine WP.ret (Out.one rfl S rfl ?_)
    exact rfl
   refine CF hc32<|Wk<|Wg<|M' h6<|Lg<|A<|We ?_
   obtain rfl:=oi hy9
   exact ⟨rfl,⟨H15,h3,h4,rfl,Rp_a,Rp_b,S⟩⟩
  refine CF hc13<|Wx ?_
  obtain rfl:=oi hy9
  obtain rfl:=hy10
  exact ⟨H2,S⟩
 intro f w hM
 rcases r11 with _ | e
 ·obtain ⟨H7,S⟩:=hM
  refine Ws<|Wg<|A<|We ?_
  obtain rfl:=oi h
  refine WP.ret (Out.one rfl S rfl ?_)
  exact rfl
 exact hM.elim
theorem zQe {w0:World} {H0:Hp} (hw:Holds w0 H0) (p_a:(List GField)) (p_b:(List GField)) {vp_a:Value} {vp_b:Value} (Rp_a:Sl (α:=GField) H0 vp_a p_a) (Rp_b:Sl (α:=GField) H0 vp_b p_b) {r:Bool} (h:zQP p_a p_b=some r) :
  Con Tryz.prog 80 [vp_a,vp_b] w0 H0 (fun H' v=>v=(boo r)):=by
 refine Con.mk (N:=26) Tryz.func80 rfl rfl kr rfl ?_
 have S:=St.start hw
 refine Ws<|Wg<|A<|We<|Ws<|Ws<|Wg<|M<|Nq Rp_a<|M<|Nq Rp_b<|Lf ?_
 refine We ?_
 rcases condE h with ⟨hc1,h⟩ | ⟨hc1,h⟩
 ·refine CT hc1<|Ws<|Wg<|A<|We ?_
  obtain rfl:=oi h
  refine WP.ret (Out.one rfl S rfl ?_)
  exact rfl
 refine CF hc1<|Wk<|Ws<|Ws<|Wg<|A<|We<|B h fun r11 hr12 h=>WP.cut (fun f w=>match r11 with | .inl _=>∃ (H7:Hp),St w0 H0 w H7 [] | .inr _=>False) ?_ ?_
 ·refine Wb ?_
  refine WP.loopM (zQM p_a p_b) (fun s f w=>match s with | i_5=>∃ (H2:Hp),f 0=vp_a∧f 1=vp_b∧f 5=(int i_5)∧Sl (α:=GField) H2 vp_a p_a∧Sl (α:=GField) H2 vp_b p_b∧St w0 H0 w H2 []) 0 r11 hr12 ?_ ?_
  ·exact ⟨H0,rfl,rfl,rfl,Rp_a,Rp_b,S⟩
  intro i_5 f w hI y8 hy9 hy10
  obtain ⟨H2,h3,h4,h6,Rp_a,Rp_b,S⟩:=hI
  refine Ws<|Ws<|Wg<|M' h6<|M' h3<|Nq Rp_a<|La<|We ?_
  rcases condE hy9 with ⟨hc13,hy9⟩ | ⟨hc13,hy9⟩
  ·refine CT hc13<|Wk<|Ws<|Wb<|Ws<|WP.quiet S kr kr<|QM' h3<|QM' h6<|B hy9 fun x17 hx17 hy9=>WQ.idx (α:=GField) Rp_a rfl rfl el26 hx17 ?_
   rintro a18 _ hA19 rfl
   refine WQ.val (fun w hw=>by obtain ⟨_,hq,S⟩:=hw; exact (R.loadHN (vs:=[(str x17.fName),(str x17.fValue)]) S rfl (At.mono hA19 hq (by simp)) lay64 rfl rfl))<|QM' h4<|QM' h6<|B hy9 fun x20 hx20 hy9=>WQ.idx (α:=GField) Rp_b rfl rfl el26 hx20 ?_
   rintro a21 _ hA22 rfl
   refine WQ.val (fun w hw=>by obtain ⟨_,hq,S⟩:=hw; exact (R.loadHN (vs:=[(str x20.fName),(str x20.fValue)]) S rfl (At.mono hA22 hq (by simp)) lay64 rfl rfl)) ?_
   refine WQ.val (fun _ _=>(R.neqA (!((x17.fName==x20.fName)&&((x17.fValue==x20.fValue)&&true))) rfl rfl ps64 fk64 rfl rfl rfl))<|WQ.nil ?_
   intro w14 H15 hle16 S
   have Rp_a:=Sl.mono Rp_a hle16
   have Rp_b:=Sl.mono Rp_b hle16
   rcases condE hy9 with ⟨hc23,hy9⟩ | ⟨hc23,hy9⟩
   ·refine CT hc23<|Ws<|Wg<|A<|We ?_
    obtain rfl:=oi hy9
    obtain rfl:=hy10
    obtain rfl:=oi h
    refine WP.ret (Out.one rfl S rfl ?_)
    exact rfl
   refine CF hc23<|Wk<|Wg<|M' h6<|Lg<|A<|We ?_
   obtain rfl:=oi hy9
   exact ⟨rfl,⟨H15,h3,h4,rfl,Rp_a,Rp_b,S⟩⟩
  refine CF hc13<|Wx ?_
  obtain rfl:=oi hy9
  obtain rfl:=hy10
  exact ⟨H2,S⟩
 intro f w hM
 rcases r11 with _ | e
 ·obtain ⟨H7,S⟩:=hM
  refine Ws<|Wg<|A<|We ?_
  obtain rfl:=oi h
  refine WP.ret (Out.one rfl S rfl ?_)
  exact rfl
 exact hM.elim
theorem zQn {w0:World} {H0:Hp} (hw:Holds w0 H0) (p_a:GEntry) (p_b:GEntry) {vp_a0:Value} {vp_a1:Value} {vp_a2:Value} {vp_a4:Value} {vp_b0:Value} {vp_b1:Value} {vp_b2:Value} {vp_b4:Value} (Rp_a0:Sl (α:=(List Str)) H0 vp_a0 p_a.fKeys) (Rp_a1:Sl (α:=Str) H0 vp_a1 p_a.fVary) (Rp_a2:Sl (α:=Str) H0 vp_a2 p_a.fSnapshot) (Rp_a4:Sl (α:=GField) H0 vp_a4 p_a.fFields) (Rp_b0:Sl (α:=(List Str)) H0 vp_b0 p_b.fKeys) (Rp_b1:Sl (α:=Str) H0 vp_b1 p_b.fVary) (Rp_b2:Sl (α:=Str) H0 vp_b2 p_b.fSnapshot) (Rp_b4:Sl (α:=GField) H0 vp_b4 p_b.fFields) {r:Bool} (h:zQb p_a p_b=some r) :
  Con Tryz.prog 43 [(agg [vp_a0,vp_a1,vp_a2,(str p_a.fReason),vp_a4,(str p_a.fBody),(int p_a.fRequested),(int p_a.fReceived)]),(agg [vp_b0,vp_b1,vp_b2,(str p_b.fReason),vp_b4,(str p_b.fBody),(int p_b.fRequested),(int p_b.fReceived)])] w0 H0 (fun H' v=>v=(boo r)):=by
 refine Con.mk (N:=59) Tryz.func43 rfl rfl kr rfl ?_
 have S:=St.start hw
 refine Ws<|Wg ?_
 refine W.box [vp_a0,vp_a1,vp_a2,(str p_a.fReason),vp_a4,(str p_a.fBody),(int p_a.fRequested),(int p_a.fReceived)] S rfl rfl ?_
 intro b1 w2 S
 refine W.box [vp_b0,vp_b1,vp_b2,(str p_b.fReason),vp_b4,(str p_b.fBody),(int p_b.fRequested),(int p_b.fReceived)] S rfl rfl ?_
 intro b3 w4 S
 refine A<|We<|Ws<|Wg<|Fb ?_
 refine Lo 1 S<|Fb ?_
 refine Lo 0 S<|B h fun r5 hr5 h=>W.call S rfl (zQi S.holds p_a.fKeys p_b.fKeys Rp_a0 Rp_b0 hr5) ?_
 rintro v6 w7 H8 hle9 S rfl
 have Rp_a1:=Sl.mono Rp_a1 hle9
 have Rp_a2:=Sl.mono Rp_a2 hle9
 have Rp_a4:=Sl.mono Rp_a4 hle9
 have Rp_b1:=Sl.mono Rp_b1 hle9
 have Rp_b2:=Sl.mono Rp_b2 hle9
 have Rp_b4:=Sl.mono Rp_b4 hle9
 refine M<|B h fun b17 hg11 h=>WL.grpw 6 [11,12,13,14,15] 16 (boo b17) (fun w=>∃ H':Hp,H8.le H'∧St w0 H0 w H' [.box b3 36 [vp_b0,vp_b1,vp_b2,(str p_b.fReason),vp_b4,(str p_b.fBody),(int p_b.fRequested),(int p_b.fReceived)],.box b1 36 [vp_a0,vp_a1,vp_a2,(str p_a.fReason),vp_a4,(str p_a.fBody),(int p_a.fRequested),(int p_a.fReceived)]]) ?_ ?_
 ·rcases boolE r5 with hb10 | hb10
  ·replace hg11:=condT hg11 hb10
   refine Gy hb10<|Fb<|Gy hb10 ?_
   refine Lo 1 S<|Gy hb10<|Fb<|Gy hb10 ?_
   refine Lo 0 S<|Gy hb10<|B hg11 fun r12 hr12 hg11=>W.call S rfl (zHH S.holds p_a.fVary p_b.fVary Rp_a1 Rp_b1 hr12) ?_
   rintro v13 w14 H15 hle16 S rfl
   have Rp_a2:=Sl.mono Rp_a2 hle16
   have Rp_a4:=Sl.mono Rp_a4 hle16
   have Rp_b2:=Sl.mono Rp_b2 hle16
   have Rp_b4:=Sl.mono Rp_b4 hle16
   refine Pt hb10 ?_
   exact We ⟨(congrArg boo (oi hg11)),ag,⟨H15,hle16,S⟩⟩
  replace hg11:=condF hg11 hb10
  refine Gn hb10<|Gn hb10<|Gn hb10<|Gn hb10<|Gn hb10<|Pf hb10 ?_
  exact We ⟨(congrArg boo (oi hg11)),ag,⟨H8,(Hp.le.refl _),S⟩⟩
 intro us w19 ⟨H18,hle20,S⟩
 have Rp_a2:=Sl.mono Rp_a2 hle20
 have Rp_a4:=Sl.mono Rp_a4 hle20
 have Rp_b2:=Sl.mono Rp_b2 hle20
 have Rp_b4:=Sl.mono Rp_b4 hle20
 refine M<|B h fun b28 hg22 h=>WL.grpw 6 [18,19,20,21,22] 23 (boo b28) (fun w=>∃ H':Hp,H18.le H'∧St w0 H0 w H' [.box b3 36 [vp_b0,vp_b1,vp_b2,(str p_b.fReason),vp_b4,(str p_b.fBody),(int p_b.fRequested),(int p_b.fReceived)],.box b1 36 [vp_a0,vp_a1,vp_a2,(str p_a.fReason),vp_a4,(str p_a.fBody),(int p_a.fRequested),(int p_a.fReceived)]]) ?_ ?_
 ·rcases boolE b17 with hb21 | hb21
  ·replace hg22:=condT hg22 hb21
   refine Gy hb21<|Fb<|Gy hb21 ?_
   refine Lo 1 S<|Gy hb21<|Fb<|Gy hb21 ?_
   refine Lo 0 S<|Gy hb21<|B hg22 fun r23 hr23 hg22=>W.call S rfl (zHH S.holds p_a.fSnapshot p_b.fSnapshot Rp_a2 Rp_b2 hr23) ?_
   rintro v24 w25 H26 hle27 S rfl
   have Rp_a4:=Sl.mono Rp_a4 hle27
   have Rp_b4:=Sl.mono Rp_b4 hle27
   refine Pt hb21 ?_
   exact We ⟨(congrArg boo (oi hg22)),ag,⟨H26,hle27,S⟩⟩
  replace hg22:=condF hg22 hb21
  refine Gn hb21<|Gn hb21<|Gn hb21<|Gn hb21<|Gn hb21<|Pf hb21 ?_
  exact We ⟨(congrArg boo (oi hg22)),ag,⟨H18,(Hp.le.refl _),S⟩⟩
 intro us w30 ⟨H29,hle31,S⟩
 have Rp_a4:=Sl.mono Rp_a4 hle31
 have Rp_b4:=Sl.mono Rp_b4 hle31
 refine M ?_
 refine WL.grp 6 [25,26,27,28,29] 30 (boo (b28&&(p_a.fReason==p_b.fReason))) ?_ ?_
 ·rcases boolE b28 with hb32 | hb32
  ·refine Gy hb32<|Fb<|Gy hb32 ?_
   refine Lo 1 S<|Gy hb32<|Fb<|Gy hb32 ?_
   refine Lo 0 S<|Gy hb32<|Na<|Pt hb32 ?_
   exact We ⟨(andT hb32),ag,rfl⟩
  refine Gn hb32<|Gn hb32<|Gn hb32<|Gn hb32<|Gn hb32<|Pf hb32 ?_
  exact We ⟨(andF hb32),ag,rfl⟩
 intro us
 refine M<|B h fun b41 hg35 h=>WL.grpw 6 [32,33,34,35,36] 37 (boo b41) (fun w=>∃ H':Hp,H29.le H'∧St w0 H0 w H' [.box b3 36 [vp_b0,vp_b1,vp_b2,(str p_b.fReason),vp_b4,(str p_b.fBody),(int p_b.fRequested),(int p_b.fReceived)],.box b1 36 [vp_a0,vp_a1,vp_a2,(str p_a.fReason),vp_a4,(str p_a.fBody),(int p_a.fRequested),(int p_a.fReceived)]]) ?_ ?_
 ·rcases boolE (b28&&(p_a.fReason==p_b.fReason)) with hb34 | hb34
  ·replace hg35:=condT hg35 hb34
   refine Gy hb34<|Fb<|Gy hb34 ?_
   refine Lo 1 S<|Gy hb34<|Fb<|Gy hb34 ?_
   refine Lo 0 S<|Gy hb34<|B hg35 fun r36 hr36 hg35=>W.call S rfl (zQe S.holds p_a.fFields p_b.fFields Rp_a4 Rp_b4 hr36) ?_
   rintro v37 w38 H39 hle40 S rfl
   refine Pt hb34 ?_
   exact We ⟨(congrArg boo (oi hg35)),ag,⟨H39,hle40,S⟩⟩
  replace hg35:=condF hg35 hb34
  refine Gn hb34<|Gn hb34<|Gn hb34<|Gn hb34<|Gn hb34<|Pf hb34 ?_
  exact We ⟨(congrArg boo (oi hg35)),ag,⟨H29,(Hp.le.refl _),S⟩⟩
 intro us w43 ⟨H42,hle44,S⟩
 refine M ?_
 refine WL.grp 6 [39,40,41,42,43] 44 (boo (b41&&(p_a.fBody==p_b.fBody))) ?_ ?_
 ·rcases boolE b41 with hb45 | hb45
  ·refine Gy hb45<|Fb<|Gy hb45 ?_
   refine Lo 1 S<|Gy hb45<|Fb<|Gy hb45 ?_
   refine Lo 0 S<|Gy hb45<|Na<|Pt hb45 ?_
   exact We ⟨(andT hb45),ag,rfl⟩
  refine Gn hb45<|Gn hb45<|Gn hb45<|Gn hb45<|Gn hb45<|Pf hb45 ?_
  exact We ⟨(andF hb45),ag,rfl⟩
 intro us
 refine M ?_
 refine WL.grp 6 [46,47,48,49,50] 51 (boo ((b41&&(p_a.fBody==p_b.fBody))&&(p_a.fRequested==p_b.fRequested))) ?_ ?_
 ·rcases boolE (b41&&(p_a.fBody==p_b.fBody)) with hb47 | hb47
  ·refine Gy hb47<|Fb<|Gy hb47 ?_
   refine Lo 1 S<|Gy hb47<|Fb<|Gy hb47 ?_
   refine Lo 0 S<|Gy hb47<|Le<|Pt hb47 ?_
   exact We ⟨(andT hb47),ag,rfl⟩
  refine Gn hb47<|Gn hb47<|Gn hb47<|Gn hb47<|Gn hb47<|Pf hb47 ?_
  exact We ⟨(andF hb47),ag,rfl⟩
 intro us
 refine M ?_
 refine WL.grp 6 [53,54,55,56,57] 58 (boo (((b41&&(p_a.fBody==p_b.fBody))&&(p_a.fRequested==p_b.fRequested))&&(p_a.fReceived==p_b.fReceived))) ?_ ?_
 ·rcases boolE ((b41&&(p_a.fBody==p_b.fBody))&&(p_a.fRequested==p_b.fRequested)) with hb49 | hb49
  ·refine Gy hb49<|Fb<|Gy hb49 ?_
   refine Lo 1 S<|Gy hb49<|Fb<|Gy hb49 ?_
   refine Lo 0 S<|Gy hb49<|Le<|Pt hb49 ?_
   exact We ⟨(andT hb49),ag,rfl⟩
  refine Gn hb49<|Gn hb49<|Gn hb49<|Gn hb49<|Gn hb49<|Pf hb49 ?_
  exact We ⟨(andF hb49),ag,rfl⟩
 intro us
 refine A<|We ?_
 obtain rfl:=oi h
 refine WP.ret (Out.one rfl S rfl ?_)
 exact rfl
end Go.Proofs
