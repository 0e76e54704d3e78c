/- A part of the proof of laws of the seat: written by program over the translation. -/
import Derived.Test.YtipgfplekgdoiaaGreatDoorEng38
import Derived.Test.YtipgfplekgdoiaaGreatDoorEng32
import Derived.Test.YtipgfplekgdoiaaGreatDoorGenK17
namespace Go.Proofs
set_option maxHeartbeats 4000000
set_option maxRecDepth 10000
open Go.Eng Go.Eng.Pure
set_option linter.unusedVariables false
theorem zHb {w0:World} {H0:Hp} (hw:Holds w0 H0) (p_t:GTable) (p_l:(List GField)) (p_strict:Bool) {vp_t0:Value} {vp_t1:Value} {vp_l:Value} (Rp_t0:Sl (α:=GAxis) H0 vp_t0 p_t.fAxes) (Rp_t1:Sl (α:=GEntry) H0 vp_t1 p_t.fEntries) (Rp_l:Sl (α:=GField) H0 vp_l p_l) {r:Bool} (h:zEd p_t p_l p_strict=some r) :
  Con Tryz.prog 3 [(agg [vp_t0,vp_t1]),vp_l,(boo p_strict)] w0 H0 (fun H' v=>v=(boo r)):=by
 refine Con.mk (N:=44) Tryz.func3 rfl rfl kr rfl ?_
 have S:=St.start hw
 refine Ws<|Wg ?_
 refine W.box [vp_t0,vp_t1] S rfl rfl ?_
 intro b1 w2 S
 refine A<|We<|Ws<|Ws<|Wg ?_
 refine WL.w (R.loadBN (i:=0) (vs:=[vp_t0,vp_t1]) S rfl rfl lay25 rfl rfl)<|B h fun r3 hr3 h=>W.call S rfl (zKJ S.holds p_t Rp_t0 Rp_t1 hr3) ?_
 rintro v4 w5 H6 hle7 S rfl
 have Rp_t0:=Sl.mono Rp_t0 hle7
 have Rp_t1:=Sl.mono Rp_t1 hle7
 have Rp_l:=Sl.mono Rp_l hle7
 refine No<|M<|B h fun b15 hg9 h=>WL.grpw 4 [15,16,17] 18 (boo b15) (fun w=>∃ H':Hp,H6.le H'∧St w0 H0 w H' [.box b1 25 [vp_t0,vp_t1]]) ?_ ?_
 ·rcases boolE (!r3) with hb8 | hb8
  ·replace hg9:=condT hg9 hb8
   refine Gn hb8<|Gn hb8<|Gn hb8<|Pt hb8 ?_
   exact We ⟨(congrArg boo (oi hg9)),ag,⟨H6,(Hp.le.refl _),S⟩⟩
  replace hg9:=condF hg9 hb8
  refine Gy hb8<|M<|Gy hb8<|B hg9 fun r10 hr10 hg9=>W.call S rfl (zHP S.holds p_l Rp_l hr10) ?_
  rintro v11 w12 H13 hle14 S rfl
  have Rp_t0:=Sl.mono Rp_t0 hle14
  have Rp_t1:=Sl.mono Rp_t1 hle14
  have Rp_l:=Sl.mono Rp_l hle14
  refine Gy hb8<|No<|Pf hb8 ?_
  exact We ⟨(congrArg boo (oi hg9)),ag,⟨H13,hle14,S⟩⟩
 intro us w17 ⟨H16,hle18,S⟩
 have Rp_t0:=Sl.mono Rp_t0 hle18
 have Rp_t1:=Sl.mono Rp_t1 hle18
 have Rp_l:=Sl.mono Rp_l hle18
 refine We ?_
 rcases condE h with ⟨hc19,h⟩ | ⟨hc19,h⟩
 ·refine CT hc19<|Ws<|Wg<|A<|We ?_
  obtain rfl:=oi h
  refine WP.ret (Out.one rfl S rfl ?_)
  exact rfl
 refine CF hc19<|Wk<|Ws<|Wg ?_
 refine WL.w (R.loadBN (i:=0) (vs:=[vp_t0,vp_t1]) S rfl rfl lay25 rfl rfl)<|M<|M<|B h fun r20 hr20 h=>W.call S rfl (zHx S.holds p_t p_l p_strict Rp_t0 Rp_t1 Rp_l hr20) ?_
 rintro v21 w22 H23 hle24 S rfl
 have Rp_t0:=Sl.mono Rp_t0 hle24
 have Rp_t1:=Sl.mono Rp_t1 hle24
 have Rp_l:=Sl.mono Rp_l hle24
 refine M ?_
 refine Ex ?_
 refine Ex<|A<|A<|We<|Ws<|Wg ?_
 refine WL.w (R.loadBN (i:=0) (vs:=[vp_t0,vp_t1]) S rfl rfl lay25 rfl rfl)<|M<|M<|B h fun r25 hr25 h=>W.call S rfl (zKD S.holds p_t p_l p_strict Rp_t0 Rp_t1 Rp_l hr25) ?_
 rintro v26 w27 H28 hle29 S rfl
 refine M ?_
 refine Ex ?_
 refine Ex<|A<|A<|We<|Ws<|Wg<|M<|M<|Le<|M ?_
 refine WL.grp 4 [37,38,39] 40 (boo ((r20.1==r25.1)&&(r20.2==r25.2))) ?_ ?_
 ·rcases boolE (r20.1==r25.1) with hb30 | hb30
  ·refine Gy hb30<|M<|Gy hb30<|M<|Gy hb30<|Ng<|Pt hb30 ?_
   exact We ⟨(andT hb30),ag,rfl⟩
  refine Gn hb30<|Gn hb30<|Gn hb30<|Pf hb30 ?_
  exact We ⟨(andF hb30),ag,rfl⟩
 intro us
 refine M<|B h fun b39 hg33 h=>WL.grpw 2 [42] 43 (boo b39) (fun w=>∃ H':Hp,H28.le H'∧St w0 H0 w H' [.box b1 25 [vp_t0,vp_t1]]) ?_ ?_
 ·rcases boolE ((r20.1==r25.1)&&(r20.2==r25.2)) with hb32 | hb32
  ·replace hg33:=condT hg33 hb32
   refine Gy hb32<|B hg33 fun r34 hr34 hg33=>W.call S rfl (zJi S.holds  hr34) ?_
   rintro v35 w36 H37 hle38 S rfl
   refine Pt hb32 ?_
   exact We ⟨(congrArg boo (oi hg33)),ag,⟨H37,hle38,S⟩⟩
  replace hg33:=condF hg33 hb32
  refine Gn hb32<|Pf hb32 ?_
  exact We ⟨(congrArg boo (oi hg33)),ag,⟨H28,(Hp.le.refl _),S⟩⟩
 intro us w41 ⟨H40,hle42,S⟩
 refine A<|We ?_
 obtain rfl:=oi h
 refine WP.ret (Out.one rfl S rfl ?_)
 exact rfl
end Go.Proofs
