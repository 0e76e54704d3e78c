/- A part. -/
import Derived.Test.YtljjaiijlaeoeaaGreatDoorEng38
import Derived.Test.YtljjaiijlaeoeaaGreatDoorEng36
import Derived.Test.YtljjaiijlaeoeaaGreatDoorGenP10
namespace Go.Proofs
set_option maxHeartbeats 4000000
set_option maxRecDepth 10000
open Go.Eng Go.Eng.Pure
set_option linter.unusedVariables false
theorem zDh {j:World} {k:Hp} (hw:Holds j k) (hG:Tryz.Gl j) (b:GRequest) {i:Value} (q:Sl k i b.fFields) {r:Str} (h:zB7 b=some r) :
  Cs Tryz.prog 106 [(agg [(str b.fMethod),(str b.fTarget),(int b.fMinor),i,(str b.fBody)])] j k r:=by
 refine CM 41 Tryz.func106 hw fun S=>?_
 refine Ws<|Wg ?_
 refine W.box [(str b.fMethod),(str b.fTarget),(int b.fMinor),i,(str b.fBody)] S rfl rfl ?_
 intro z w2 S
 refine A<|We<|Ws<|Ws<|Wg<|Fb ?_
 refine Lo 0 S<|Ns<|Lc<|We ?_
 rcases condE h with ⟨l,h⟩ | ⟨l,h⟩
 ·refine CT l ?_
  cases h
 refine CF l<|Wk<|Ws<|Wg<|Fb ?_
 refine Lo 0 S<|Ns<|A<|We<|Ws<|Ws<|Wg ?_
 refine M<|Le<|M ?_
 refine WL.grp 4 [14,15,16] 17 (boo (((b.fBody.length:Int)==0)&&(b.fMethod !=[80,79,83,84]))) ?_ ?_
 ·rcases boolE ((b.fBody.length:Int)==0) with c | c
  ·refine Gy c<|Fb<|Gy c ?_
   refine Lo 0 S<|Gy c<|Nb<|Pt c ?_
   exact We ⟨(andT c),ag,rfl⟩
  refine Gn c<|Gn c<|Gn c<|Pf c ?_
  exact We ⟨(andF c),ag,rfl⟩
 intro us
 refine M ?_
 refine WL.grp 4 [19,20,21] 22 (boo ((((b.fBody.length:Int)==0)&&(b.fMethod !=[80,79,83,84]))&&(b.fMethod !=[80,85,84]))) ?_ ?_
 ·rcases boolE (((b.fBody.length:Int)==0)&&(b.fMethod !=[80,79,83,84])) with d | d
  ·refine Gy d<|Fb<|Gy d ?_
   refine Lo 0 S<|Gy d<|Nb<|Pt d ?_
   exact We ⟨(andT d),ag,rfl⟩
  refine Gn d<|Gn d<|Gn d<|Pf d ?_
  exact We ⟨(andF d),ag,rfl⟩
 intro us
 refine M ?_
 refine WL.grp 4 [24,25,26] 27 (boo (((((b.fBody.length:Int)==0)&&(b.fMethod !=[80,79,83,84]))&&(b.fMethod !=[80,85,84]))&&(b.fMethod !=[80,65,84,67,72]))) ?_ ?_
 ·rcases boolE ((((b.fBody.length:Int)==0)&&(b.fMethod !=[80,79,83,84]))&&(b.fMethod !=[80,85,84])) with f | f
  ·refine Gy f<|Fb<|Gy f ?_
   refine Lo 0 S<|Gy f<|Nb<|Pt f ?_
   exact We ⟨(andT f),ag,rfl⟩
  refine Gn f<|Gn f<|Gn f<|Pf f ?_
  exact We ⟨(andF f),ag,rfl⟩
 intro us
 refine We ?_
 rcases condE h with ⟨o,h⟩ | ⟨o,h⟩
 ·refine CT o<|Wg<|A<|We<|Ws<|WP.quiet S kr kr<|QFb ?_
  refine QB 0 (str b.fMethod)<|QFb ?_
  refine QB 0 (str b.fTarget)<|QFb ?_
  refine QB 0 (int b.fMinor)<|B h fun p t h=>WQ.call (v:=str p) rfl (fun w H' hq S=>zDG S.holds (hG.post S.post) b.fMethod b.fTarget b.fMinor t)<|QFb ?_
  refine QB 0 i<|QM<|QFb ?_
  refine QB 0 (str b.fBody)<|B h fun u x h=>WQ.call (v:=str u) rfl (fun w H' hq S=>zDY S.holds (hG.post S.post) p b.fFields (-1) b.fBody (q.up hq) x)<|QA<|WQ.nil ?_
  intro ab ac ad S
  exact WP.ret (Rs h S)
 refine CF o ?_
 cases h
end Go.Proofs
