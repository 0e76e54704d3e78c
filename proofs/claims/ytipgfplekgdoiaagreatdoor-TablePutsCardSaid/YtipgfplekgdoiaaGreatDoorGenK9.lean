/- A part of the proof of laws of the seat: written by program over the translation. -/
import Derived.Test.YtipgfplekgdoiaaGreatDoorEng38
import Derived.Test.YtipgfplekgdoiaaGreatDoorEng32
import Derived.Test.YtipgfplekgdoiaaGreatDoorGenK8
namespace Go.Proofs
set_option maxHeartbeats 4000000
set_option maxRecDepth 10000
open Go.Eng Go.Eng.Pure
set_option linter.unusedVariables false
theorem zBk {w0:World} {H0:Hp} (hw:Holds w0 H0) (p_kind:Int) (p_s:Str) {r:Str} (h:zAx p_kind p_s=some r) :
  Con Tryz.prog 91 [(int p_kind),(str p_s)] w0 H0 (fun H' v=>v=(str r)):=by
 refine Con.mk (N:=20) Tryz.func91 rfl rfl kr rfl ?_
 have S:=St.start hw
 refine Ws<|Wg<|A<|We<|Ws<|Wg<|M<|B h fun r1 hr1 h=>W.call S rfl (zBU S.holds p_s hr1) ?_
 rintro v2 w3 H4 hle5 S rfl
 refine A<|We<|Ws<|Ws<|Wg<|M<|Le<|M ?_
 refine WL.grp 3 [10,11] 12 (boo ((p_kind==4)&&(r1==[120,45,103,122,105,112]))) ?_ ?_
 ·rcases boolE (p_kind==4) with hb6 | hb6
  ·refine Gy hb6<|M<|Gy hb6<|Na<|Pt hb6 ?_
   exact We ⟨(andT hb6),ag,rfl⟩
  refine Gn hb6<|Gn hb6<|Pf hb6 ?_
  exact We ⟨(andF hb6),ag,rfl⟩
 intro us
 refine We ?_
 rcases condE h with ⟨hc8,h⟩ | ⟨hc8,h⟩
 ·refine CT hc8<|Ws<|Wg<|A<|We ?_
  obtain rfl:=oi h
  refine WP.ret (Out.one rfl S rfl ?_)
  exact rfl
 refine CF hc8<|Wk<|Ws<|Ws<|Wg<|M<|Le<|M ?_
 refine WL.grp 3 [16,17] 18 (boo ((p_kind==4)&&(r1==[120,45,99,111,109,112,114,101,115,115]))) ?_ ?_
 ·rcases boolE (p_kind==4) with hb9 | hb9
  ·refine Gy hb9<|M<|Gy hb9<|Na<|Pt hb9 ?_
   exact We ⟨(andT hb9),ag,rfl⟩
  refine Gn hb9<|Gn hb9<|Pf hb9 ?_
  exact We ⟨(andF hb9),ag,rfl⟩
 intro us
 refine We ?_
 rcases condE h with ⟨hc11,h⟩ | ⟨hc11,h⟩
 ·refine CT hc11<|Ws<|Wg<|A<|We ?_
  obtain rfl:=oi h
  refine WP.ret (Out.one rfl S rfl ?_)
  exact rfl
 refine CF hc11<|Wk<|Ws<|Wg<|M<|A<|We ?_
 obtain rfl:=oi h
 refine WP.ret (Out.one rfl S rfl ?_)
 exact rfl
theorem zH9 {w0:World} {H0:Hp} (hw:Holds w0 H0) (p_axis:Str) (p_a:Str) (p_b:Str) {r:Bool} (h:zFw p_axis p_a p_b=some r) :
  Con Tryz.prog 56 [(str p_axis),(str p_a),(str p_b)] w0 H0 (fun H' v=>v=(boo r)):=by
 refine Con.mk (N:=30) Tryz.func56 rfl rfl kr rfl ?_
 have S:=St.start hw
 refine Ws<|Wg<|A<|We<|Ws<|Ws<|Wg<|M<|B h fun r1 hr1 h=>W.call S rfl (zEx S.holds p_axis hr1) ?_
 rintro v2 w3 H4 hle5 S rfl
 refine A<|We<|Ws<|Wg<|M<|We<|B h fun j10 hj9 h=>WP.cut (fun f w=>match j10 with | .inl _=>∃ (H6:Hp),f 1=(str p_a)∧f 2=(str p_b)∧St w0 H0 w H6 [] | .inr _=>False) ?_ ?_
 ·refine Wb<|Ws<|Ws<|Wg<|Le<|A<|We<|B hj9 fun y_16 hj18 hj9=>WP.cut (fun f w=>∃ (H11:Hp),f 1=(str p_a)∧f 2=(str p_b)∧f 7=(int r1)∧f 10=(int r1)∧f 11=(boo y_16)∧St w0 H0 w H11 []) ?_ ?_
  ·rcases condE hj18 with ⟨hc20,hj18⟩ | ⟨hc20,hj18⟩
   ·refine CT hc20<|Wk ?_
    obtain rfl:=oi hj18
    exact ⟨H4,rfl,rfl,rfl,rfl,rfl,S⟩
   refine CF hc20<|Wg<|Le<|A<|We ?_
   obtain rfl:=oi hj18
   exact ⟨H4,rfl,rfl,rfl,rfl,rfl,S⟩
  rintro f w ⟨H11,h12,h13,h14,h15,h17,S⟩
  rcases condE hj9 with ⟨hc21,hj9⟩ | ⟨hc21,hj9⟩
  ·refine WP.condT h17 hc21<|Ws<|Wg<|M' h12<|M' h13<|B hj9 fun r22 hr22 hj9=>W.call S rfl (zBS S.holds p_a p_b hr22) ?_
   rintro v23 w24 H25 hle26 S rfl
   refine A<|We ?_
   obtain rfl:=oi hj9
   obtain rfl:=oi h
   refine WP.ret (Out.one rfl S rfl ?_)
   exact rfl
  refine WP.condF h17 hc21<|Ws<|Ws<|Wg<|Le' h15 rfl<|A<|We<|B hj9 fun y_31 hj33 hj9=>WP.cut (fun f w=>∃ (H27:Hp),f 1=(str p_a)∧f 2=(str p_b)∧f 7=(int r1)∧f 17=(boo y_31)∧St w0 H0 w H27 []) ?_ ?_
  ·rcases condE hj33 with ⟨hc35,hj33⟩ | ⟨hc35,hj33⟩
   ·refine CT hc35<|Wk ?_
    obtain rfl:=oi hj33
    exact ⟨H11,h12,h13,h14,rfl,S⟩
   refine CF hc35<|Wg<|Le' h15 rfl<|A<|We ?_
   obtain rfl:=oi hj33
   exact ⟨H11,h12,h13,h14,rfl,S⟩
  rintro f w ⟨H27,h28,h29,h30,h32,S⟩
  rcases condE hj9 with ⟨hc36,hj9⟩ | ⟨hc36,hj9⟩
  ·refine WP.condT h32 hc36<|Ws<|Wg<|M' h30<|M' h28<|B hj9 fun r37 hr37 hj9=>W.call S rfl (zBk S.holds r1 p_a hr37) ?_
   rintro v38 w39 H40 hle41 S rfl
   refine M' h30<|M' h29<|B hj9 fun r42 hr42 hj9=>W.call S rfl (zBk S.holds r1 p_b hr42) ?_
   rintro v43 w44 H45 hle46 S rfl
   refine Na<|A<|We ?_
   obtain rfl:=oi hj9
   obtain rfl:=oi h
   refine WP.ret (Out.one rfl S rfl ?_)
   exact rfl
  refine WP.condF h32 hc36<|Wk ?_
  obtain rfl:=oi hj9
  exact ⟨H27,h28,h29,S⟩
 intro f w hM
 rcases j10 with _ | e
 ·obtain ⟨H6,h7,h8,S⟩:=hM
  refine Ws<|Wg<|M' h7<|M' h8<|Na<|A<|We ?_
  obtain rfl:=oi h
  refine WP.ret (Out.one rfl S rfl ?_)
  exact rfl
 exact hM.elim
end Go.Proofs
