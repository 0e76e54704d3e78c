/- A part. -/
import Derived.Test.YtipgfplekgdoiaaGreatDoorEng38
import Derived.Test.YtipgfplekgdoiaaGreatDoorEng33
import Derived.Test.YtipgfplekgdoiaaGreatDoorGenK17
namespace Go.Proofs
set_option maxHeartbeats 4000000
set_option maxRecDepth 10000
open Go.Eng Go.Eng.Pure
set_option linter.unusedVariables false
theorem zJv {l:World} {j:Hp} (hw:Holds l j) (b:GRequest) {k:Value} (p:Sl j k b.fFields) {r:Bool} (h:zF1 b=some r) :
  Cb Tryz.prog 29 [(agg [(str b.fMethod),(str b.fTarget),(int b.fMinor),k,(str b.fBody)])] l j r:=by
 refine CM 24 Tryz.func29 hw fun S=>?_
 refine Ws<|Wg ?_
 refine W.box [(str b.fMethod),(str b.fTarget),(int b.fMinor),k,(str b.fBody)] S rfl rfl ?_
 intro q x S
 refine A<|We<|Ws<|Wg<|Fb ?_
 refine Lo 0 S<|Ns<|Lb<|M ?_
 refine WL.grp 5 [8,9,10,11] 12 (boo ((decide ((b.fMethod.length:Int)≤100))&&(decide ((b.fTarget.length:Int)≤2100)))) ?_ ?_
 ·rcases boolE (decide ((b.fMethod.length:Int)≤100)) with c | c
  ·refine Gy c<|Fb<|Gy c ?_
   refine Lo 0 S<|Gy c<|Ns<|Gy c<|Lb<|Pt c ?_
   exact We ⟨(andT c),ag,rfl⟩
  refine Gn c<|Gn c<|Gn c<|Gn c<|Pf c ?_
  exact We ⟨(andF c),ag,rfl⟩
 intro us
 refine M<|B h fun o i h=>WL.grpw 4 [14,15,16] 17 (boo o) (fun w=>∃ H':Hp,j.le H'∧St l j w H' [.box q 52 [(str b.fMethod),(str b.fTarget),(int b.fMinor),k,(str b.fBody)]]) ?_ ?_
 ·rcases boolE ((decide ((b.fMethod.length:Int)≤100))&&(decide ((b.fTarget.length:Int)≤2100))) with f | f
  ·replace i:=condT i f
   refine Gy f<|Fb<|Gy f ?_
   refine Lo 0 S<|Gy f<|B i fun z t i=>W.call S rfl (zGE S.holds b.fFields p t) ?_
   rintro v8 w9 u v S rfl
   refine Pt f ?_
   exact We ⟨(ob i),ag,⟨u,v,S⟩⟩
  replace i:=condF i f
  refine Gn f<|Gn f<|Gn f<|Pf f ?_
  exact We ⟨(ob i),ag,⟨j,lr,S⟩⟩
 intro us ac ⟨ad,ae,S⟩
 refine M ?_
 refine WL.grp 5 [19,20,21,22] 23 (boo (o&&(decide ((b.fBody.length:Int)≤2000)))) ?_ ?_
 ·rcases boolE o with d | d
  ·refine Gy d<|Fb<|Gy d ?_
   refine Lo 0 S<|Gy d<|Ns<|Gy d<|Lb<|Pt d ?_
   exact We ⟨(andT d),ag,rfl⟩
  refine Gn d<|Gn d<|Gn d<|Gn d<|Pf d ?_
  exact We ⟨(andF d),ag,rfl⟩
 intro us
 refine A<|We ?_
 exact WP.ret (Rb h S)
theorem zJV {k:World} {i:Hp} (hw:Holds k i) (b:GResponse) {j:Value} (o:Sl i j b.fFields) {r:Bool} (h:zFR b=some r) :
  Cb Tryz.prog 30 [(agg [(int b.fMinor),(int b.fStatus),(str b.fReason),j,(str b.fBody)])] k i r:=by
 refine CM 18 Tryz.func30 hw fun S=>?_
 refine Ws<|Wg ?_
 refine W.box [(int b.fMinor),(int b.fStatus),(str b.fReason),j,(str b.fBody)] S rfl rfl ?_
 intro p v S
 refine A<|We<|Ws<|Wg<|Fb ?_
 refine Lo 0 S<|Ns<|Lb<|M<|B h fun l f h=>WL.grpw 4 [8,9,10] 11 (boo l) (fun w=>∃ H':Hp,i.le H'∧St k i w H' [.box p 54 [(int b.fMinor),(int b.fStatus),(str b.fReason),j,(str b.fBody)]]) ?_ ?_
 ·rcases boolE (decide ((b.fReason.length:Int)≤2100)) with d | d
  ·replace f:=condT f d
   refine Gy d<|Fb<|Gy d ?_
   refine Lo 0 S<|Gy d<|B f fun x q f=>W.call S rfl (zGE S.holds b.fFields o q) ?_
   rintro z w7 t u S rfl
   refine Pt d ?_
   exact We ⟨(ob f),ag,⟨t,u,S⟩⟩
  replace f:=condF f d
  refine Gn d<|Gn d<|Gn d<|Pf d ?_
  exact We ⟨(ob f),ag,⟨i,lr,S⟩⟩
 intro us ab ⟨ac,ad,S⟩
 refine M ?_
 refine WL.grp 5 [13,14,15,16] 17 (boo (l&&(decide ((b.fBody.length:Int)≤2000)))) ?_ ?_
 ·rcases boolE l with c | c
  ·refine Gy c<|Fb<|Gy c ?_
   refine Lo 0 S<|Gy c<|Ns<|Gy c<|Lb<|Pt c ?_
   exact We ⟨(andT c),ag,rfl⟩
  refine Gn c<|Gn c<|Gn c<|Gn c<|Pf c ?_
  exact We ⟨(andF c),ag,rfl⟩
 intro us
 refine A<|We ?_
 exact WP.ret (Rb h S)
end Go.Proofs
