/- A part of the proof of laws of the seat: written by program over the translation. -/
import Derived.Test.YtipgfplekgdoiaaGreatDoorEng38
import Derived.Test.YtipgfplekgdoiaaGreatDoorEng32
import Derived.Test.YtipgfplekgdoiaaGreatDoorGenK9
namespace Go.Proofs
set_option maxHeartbeats 4000000
set_option maxRecDepth 10000
open Go.Eng Go.Eng.Pure
set_option linter.unusedVariables false
theorem zIg {w0:World} {H0:Hp} (hw:Holds w0 H0) (p_axes:(List GAxis)) (p_a:(List Str)) (p_b:(List Str)) {vp_axes:Value} {vp_a:Value} {vp_b:Value} (Rp_axes:Sl (α:=GAxis) H0 vp_axes p_axes) (Rp_a:Sl (α:=Str) H0 vp_a p_a) (Rp_b:Sl (α:=Str) H0 vp_b p_b) {r:Bool} (h:zEv p_axes p_a p_b=some r) :
  Con Tryz.prog 22 [vp_axes,vp_a,vp_b] w0 H0 (fun H' v=>v=(boo r)):=by
 refine Con.mk (N:=41) Tryz.func22 rfl rfl kr rfl ?_
 have S:=St.start hw
 refine Ws<|Wg<|A<|We<|Ws<|Ws<|Wg<|M<|Nq Rp_a<|M<|Nq Rp_axes<|Lf ?_
 refine M ?_
 refine WL.grp 6 [14,15,16,17,18] 19 (boo (((p_a.length:Int) !=(p_axes.length:Int))||((p_b.length:Int) !=(p_axes.length:Int)))) ?_ ?_
 ·rcases boolE ((p_a.length:Int) !=(p_axes.length:Int)) with hb1 | hb1
  ·refine Gn hb1<|Gn hb1<|Gn hb1<|Gn hb1<|Gn hb1<|Pt hb1 ?_
   exact We ⟨(orT hb1),ag,rfl⟩
  refine Gy hb1<|M<|Gy hb1<|Nq Rp_b<|Gy hb1<|M<|Gy hb1<|Nq Rp_axes<|Gy hb1<|Lf<|Pf hb1 ?_
  exact We ⟨(orF hb1),ag,rfl⟩
 intro us
 refine We ?_
 rcases condE h with ⟨hc3,h⟩ | ⟨hc3,h⟩
 ·refine CT hc3<|Ws<|Wg<|A<|We ?_
  obtain rfl:=oi h
  refine WP.ret (Out.one rfl S rfl ?_)
  exact rfl
 refine CF hc3<|Wk<|Ws<|Ws<|Wg<|A<|We<|B h fun r14 hr15 h=>WP.cut (fun f w=>match r14 with | .inl _=>∃ (H10:Hp),St w0 H0 w H10 [] | .inr _=>False) ?_ ?_
 ·refine Wb ?_
  refine WP.loopM (zBh p_axes p_a p_b) (fun s f w=>match s with | i_8=>∃ (H4:Hp),f 0=vp_axes∧f 1=vp_a∧f 2=vp_b∧f 7=(int i_8)∧Sl (α:=GAxis) H4 vp_axes p_axes∧Sl (α:=Str) H4 vp_a p_a∧Sl (α:=Str) H4 vp_b p_b∧St w0 H0 w H4 []) 0 r14 hr15 ?_ ?_
  ·exact ⟨H0,rfl,rfl,rfl,rfl,Rp_axes,Rp_a,Rp_b,S⟩
  intro i_8 f w hI y11 hy12 hy13
  obtain ⟨H4,h5,h6,h7,h9,Rp_axes,Rp_a,Rp_b,S⟩:=hI
  refine Ws<|Ws<|Wg<|M' h9<|M' h5<|Nq Rp_axes<|La<|We ?_
  rcases condE hy12 with ⟨hc16,hy12⟩ | ⟨hc16,hy12⟩
  ·refine CT hc16<|Wk<|Ws<|Wb<|Ws<|WP.quiet S kr kr<|QM' h5<|QM' h9<|B hy12 fun x20 hx20 hy12=>WQ.idx (α:=GAxis) Rp_axes rfl rfl el22 hx20 ?_
   rintro a21 _ hA22 ⟨v23,rfl,R24⟩
   refine QFc ?_
   have hA25:=At.add hA22 0 (by simp)
   refine WQ.val (fun w hw=>by obtain ⟨_,hq,S⟩:=hw; exact (R.loadH (v:=str x20.fName) S rfl (At.mono hA25 hq (by simp)) lay9 rfl))<|QM' h6<|QM' h9<|B hy12 fun x26 hx26 hy12=>WQ.idx (α:=Str) Rp_a rfl rfl el34 hx26 ?_
   rintro a27 _ hA28 rfl
   refine WQ.val (fun w hw=>by obtain ⟨_,hq,S⟩:=hw; exact (R.loadH (v:=str x26) S rfl (At.mono hA28 hq (by simp)) lay9 rfl))<|QM' h7<|QM' h9<|B hy12 fun x29 hx29 hy12=>WQ.idx (α:=Str) Rp_b rfl rfl el34 hx29 ?_
   rintro a30 _ hA31 rfl
   refine WQ.val (fun w hw=>by obtain ⟨_,hq,S⟩:=hw; exact (R.loadH (v:=str x29) S rfl (At.mono hA31 hq (by simp)) lay9 rfl))<|B hy12 fun r32 hr32 hy12=>WQ.call (v:=boo r32) rfl (fun w H' hq S=>zH9 S.holds x20.fName x26 x29 hr32)<|QNo<|WQ.nil ?_
   intro w17 H18 hle19 S
   have Rp_axes:=Sl.mono Rp_axes hle19
   have Rp_a:=Sl.mono Rp_a hle19
   have Rp_b:=Sl.mono Rp_b hle19
   rcases condE hy12 with ⟨hc37,hy12⟩ | ⟨hc37,hy12⟩
   ·refine CT hc37<|Ws<|Wg<|A<|We ?_
    obtain rfl:=oi hy12
    obtain rfl:=hy13
    obtain rfl:=oi h
    refine WP.ret (Out.one rfl S rfl ?_)
    exact rfl
   refine CF hc37<|Wk<|Wg<|M' h9<|Lg<|A<|We ?_
   obtain rfl:=oi hy12
   exact ⟨rfl,⟨H18,h5,h6,h7,rfl,Rp_axes,Rp_a,Rp_b,S⟩⟩
  refine CF hc16<|Wx ?_
  obtain rfl:=oi hy12
  obtain rfl:=hy13
  exact ⟨H4,S⟩
 intro f w hM
 rcases r14 with _ | e
 ·obtain ⟨H10,S⟩:=hM
  refine Ws<|Wg<|A<|We ?_
  obtain rfl:=oi h
  refine WP.ret (Out.one rfl S rfl ?_)
  exact rfl
 exact hM.elim
theorem zLS {w0:World} {H0:Hp} (hw:Holds w0 H0) (p_axes:(List GAxis)) (p_e:GEntry) (p_key:(List Str)) {vp_axes:Value} {vp_e0:Value} {vp_e1:Value} {vp_e2:Value} {vp_e4:Value} {vp_key:Value} (Rp_axes:Sl (α:=GAxis) H0 vp_axes p_axes) (Rp_e0:Sl (α:=(List Str)) H0 vp_e0 p_e.fKeys) (Rp_e1:Sl (α:=Str) H0 vp_e1 p_e.fVary) (Rp_e2:Sl (α:=Str) H0 vp_e2 p_e.fSnapshot) (Rp_e4:Sl (α:=GField) H0 vp_e4 p_e.fFields) (Rp_key:Sl (α:=Str) H0 vp_key p_key) {r:Bool} (h:zHn p_axes p_e p_key=some r) :
  Con Tryz.prog 40 [vp_axes,(agg [vp_e0,vp_e1,vp_e2,(str p_e.fReason),vp_e4,(str p_e.fBody),(int p_e.fRequested),(int p_e.fReceived)]),vp_key] w0 H0 (fun H' v=>v=(boo r)):=by
 refine Con.mk (N:=23) Tryz.func40 rfl rfl kr rfl ?_
 have S:=St.start hw
 refine Ws<|Wg ?_
 refine W.box [vp_e0,vp_e1,vp_e2,(str p_e.fReason),vp_e4,(str p_e.fBody),(int p_e.fRequested),(int p_e.fReceived)] S rfl rfl ?_
 intro b1 w2 S
 refine A<|We<|Ws<|Ws<|Wg<|A<|We<|B h fun r13 hr14 h=>WP.cut (fun f w=>match r13 with | .inl _=>∃ (H9:Hp),St w0 H0 w H9 [] | .inr _=>False) ?_ ?_
 ·refine Wb ?_
  refine WP.loopM (zES p_axes p_e p_key) (fun s f w=>match s with | i_7=>∃ (H3:Hp),f 0=vp_axes∧f 2=vp_key∧f 4=(ptr b1 0)∧f 7=(int i_7)∧Sl (α:=GAxis) H3 vp_axes p_axes∧Sl (α:=Str) H3 vp_key p_key∧Sl (α:=(List Str)) H3 vp_e0 p_e.fKeys∧Sl (α:=Str) H3 vp_e1 p_e.fVary∧Sl (α:=Str) H3 vp_e2 p_e.fSnapshot∧Sl (α:=GField) H3 vp_e4 p_e.fFields∧St w0 H0 w H3 [.box b1 36 [vp_e0,vp_e1,vp_e2,(str p_e.fReason),vp_e4,(str p_e.fBody),(int p_e.fRequested),(int p_e.fReceived)]]) 0 r13 hr14 ?_ ?_
  ·exact ⟨H0,rfl,rfl,rfl,rfl,Rp_axes,Rp_key,Rp_e0,Rp_e1,Rp_e2,Rp_e4,S⟩
  intro i_7 f w hI y10 hy11 hy12
  obtain ⟨H3,h4,h5,h6,h8,Rp_axes,Rp_key,Rp_e0,Rp_e1,Rp_e2,Rp_e4,S⟩:=hI
  refine Ws<|Ws<|Wg<|M' h8<|Fb' h6 ?_
  refine Lo 0 S<|Nq Rp_e0<|La<|We ?_
  rcases condE hy11 with ⟨hc15,hy11⟩ | ⟨hc15,hy11⟩
  ·refine CT hc15<|Wk<|Ws<|Wb<|Ws<|Wg<|M' h4<|Fb' h6 ?_
   refine Lo 0 S<|M' h8<|B hy11 fun x16 hx16 hy11=>W.idx (α:=(List Str)) Rp_e0 rfl rfl el33 hx16 ?_
   rintro a17 _ hA18 ⟨v19,rfl,R20⟩
   refine Lq S hA18<|M' h5<|B hy11 fun r21 hr21 hy11=>W.call S rfl (zIg S.holds p_axes x16 p_key Rp_axes R20 Rp_key hr21) ?_
   rintro v22 w23 H24 hle25 S rfl
   have Rp_axes:=Sl.mono Rp_axes hle25
   have Rp_key:=Sl.mono Rp_key hle25
   have Rp_e0:=Sl.mono Rp_e0 hle25
   have Rp_e1:=Sl.mono Rp_e1 hle25
   have Rp_e2:=Sl.mono Rp_e2 hle25
   have Rp_e4:=Sl.mono Rp_e4 hle25
   refine We ?_
   rcases condE hy11 with ⟨hc26,hy11⟩ | ⟨hc26,hy11⟩
   ·refine CT hc26<|Ws<|Wg<|A<|We ?_
    obtain rfl:=oi hy11
    obtain rfl:=hy12
    obtain rfl:=oi h
    refine WP.ret (Out.one rfl S rfl ?_)
    exact rfl
   refine CF hc26<|Wk<|Wg<|M' h8<|Lg<|A<|We ?_
   obtain rfl:=oi hy11
   exact ⟨rfl,⟨H24,h4,h5,h6,rfl,Rp_axes,Rp_key,Rp_e0,Rp_e1,Rp_e2,Rp_e4,S⟩⟩
  refine CF hc15<|Wx ?_
  obtain rfl:=oi hy11
  obtain rfl:=hy12
  exact ⟨H3,(S.drop _ (.cons _ .slnil))⟩
 intro f w hM
 rcases r13 with _ | e
 ·obtain ⟨H9,S⟩:=hM
  refine Ws<|Wg<|A<|We ?_
  obtain rfl:=oi h
  refine WP.ret (Out.one rfl S rfl ?_)
  exact rfl
 exact hM.elim
end Go.Proofs
