/- A part. -/
import Derived.Test.YtljjaiijlaeoeaaGreatDoorEng38
import Derived.Test.YtljjaiijlaeoeaaGreatDoorEng36
import Derived.Test.YtljjaiijlaeoeaaGreatDoorGenP20
namespace Go.Proofs
set_option maxHeartbeats 4000000
set_option maxRecDepth 10000
open Go.Eng Go.Eng.Pure
set_option linter.unusedVariables false
theorem zJ4 {o:World} {p:Hp} (hw:Holds o p) (hG:Tryz.Gl o) (b:UInt8) {r:Bool} (h:zJx b=some r) :
  Cb Tryz.prog 77 [(byt b)] o p r:=by
 refine CM 34 Tryz.func77 hw fun S=>?_
 refine Ws<|Wg<|A<|We<|Ws<|Ws<|Wg<|M<|Md b 97<|M ?_
 refine WL.grp 3 [7,8] 9 (boo ((decide (97≤b))&&(decide (b≤122)))) ?_ ?_
 ·rcases boolE (decide (97≤b)) with j | j
  ·refine Gy j<|M<|Gy j<|Mb b 122<|Pt j ?_
   exact We ⟨(andT j),ag,rfl⟩
  refine Gn j<|Gn j<|Pf j ?_
  exact We ⟨(andF j),ag,rfl⟩
 intro us
 refine M ?_
 refine WL.grp 7 [11,12,13,14,15,16] 17 (boo (((decide (97≤b))&&(decide (b≤122)))||((decide (65≤b))&&(decide (b≤90))))) ?_ ?_
 ·rcases boolE ((decide (97≤b))&&(decide (b≤122))) with c | c
  ·refine Gn c<|Gn c<|Gn c<|WL.gund rfl rfl<|WL.gund rfl rfl<|Gn c<|Pt c ?_
   exact We ⟨(orT c),ag,rfl⟩
  refine Gy c<|M<|Gy c<|Md b 65<|Gy c<|M ?_
  refine WL.grp 3 [14,15] 16 (boo ((decide (65≤b))&&(decide (b≤90)))) ?_ ?_
  ·rcases boolE (decide (65≤b)) with k | k
   ·refine Gy k<|M<|Gy k<|Mb b 90<|Gy c<|Pt k ?_
    exact We ⟨(andT k),ag,rfl⟩
   refine Gn k<|Gn k<|Gy c<|Pf k ?_
   exact We ⟨(andF k),ag,rfl⟩
  intro us
  refine Pf c ?_
  exact We ⟨(orF c),ag,rfl⟩
 intro us
 refine M ?_
 refine WL.grp 7 [19,20,21,22,23,24] 25 (boo ((((decide (97≤b))&&(decide (b≤122)))||((decide (65≤b))&&(decide (b≤90))))||((decide (48≤b))&&(decide (b≤57))))) ?_ ?_
 ·rcases boolE (((decide (97≤b))&&(decide (b≤122)))||((decide (65≤b))&&(decide (b≤90)))) with d | d
  ·refine Gn d<|Gn d<|Gn d<|WL.gund rfl rfl<|WL.gund rfl rfl<|Gn d<|Pt d ?_
   exact We ⟨(orT d),ag,rfl⟩
  refine Gy d<|M<|Gy d<|Md b 48<|Gy d<|M ?_
  refine WL.grp 3 [22,23] 24 (boo ((decide (48≤b))&&(decide (b≤57)))) ?_ ?_
  ·rcases boolE (decide (48≤b)) with l | l
   ·refine Gy l<|M<|Gy l<|Mb b 57<|Gy d<|Pt l ?_
    exact We ⟨(andT l),ag,rfl⟩
   refine Gn l<|Gn l<|Gy d<|Pf l ?_
   exact We ⟨(andF l),ag,rfl⟩
  intro us
  refine Pf d ?_
  exact We ⟨(orF d),ag,rfl⟩
 intro us
 refine We ?_
 rcases condE h with ⟨t,h⟩ | ⟨t,h⟩
 ·refine CT t<|Ws<|Wg<|A<|We ?_
  exact WP.ret (Rb h S)
 refine CF t<|Wk<|Ws<|Ws<|Wg<|A<|We<|B h fun u ae h=>WP.cut (fun f w=>match u with | .inl _=>∃ (aa:Hp),St o p w aa [] | .inr _=>False) ?_ ?_
 ·refine Wb ?_
  refine WP.loopM (zJ0 b) (fun s f w=>match s with | ab=>∃ (q:Hp),f 0=(byt b)∧f 3=(int ab)∧St o p w q []) 0 u (lfW ae) ?_ ?_
  ·exact ⟨p,rfl,rfl,S⟩
  intro ab f w hI ai i ac
  obtain ⟨q,ad,v,S⟩:=hI
  refine Ws<|Ws<|Wg<|M' v<|La<|We ?_
  rcases condE i with ⟨x,i⟩ | ⟨x,i⟩
  ·refine CT x<|Wk<|Ws<|Wb<|Ws<|Wg<|M' v<|B i fun af ah i=>Ja ah<|M' ad<|Me af b<|We ?_
   rcases condE i with ⟨z,i⟩ | ⟨z,i⟩
   ·refine CT z<|Ws<|Wg<|A<|We ?_
    obtain rfl:=oi i
    obtain rfl:=ac
    exact WP.ret (Rb h S)
   refine CF z<|Wk<|Wg<|M' v<|Lg<|A<|We ?_
   obtain rfl:=oi i
   exact ⟨rfl,⟨q,ad,rfl,S⟩⟩
  refine CF x<|Wx ?_
  obtain rfl:=oi i
  obtain rfl:=ac
  exact ⟨q,S⟩
 intro f w hM
 rcases u with _ | e
 ·obtain ⟨aa,S⟩:=hM
  refine Ws<|Wg<|A<|We ?_
  exact WP.ret (Rb h S)
 exact hM.elim
theorem zJ8 {c:World} {d:Hp} (hw:Holds c d) (hG:Tryz.Gl c) (i:Str) {r:Bool} (h:zJ1 i=some r) :
  Cb Tryz.prog 39 [(str i)] c d r:=by
 refine CM 17 Tryz.func39 hw fun S=>?_
 refine Ws<|Wg<|A<|We<|Ws<|Ws<|Wg<|A<|We<|B h fun k x h=>WP.cut (fun f w=>match k with | .inl _=>∃ (t:Hp),f 0=(str i)∧St c d w t [] | .inr _=>False) ?_ ?_
 ·refine Wb ?_
  refine WP.loopM (zJw i) (fun s f w=>match s with | u=>∃ (l:Hp),f 0=(str i)∧f 3=(int u)∧St c d w l []) 0 k (lfW x) ?_ ?_
  ·exact ⟨d,rfl,rfl,S⟩
  intro u f w hI y7 b v
  obtain ⟨l,j,o,S⟩:=hI
  refine Ws<|Ws<|Wg<|M' o<|M' j<|Ns<|La<|We ?_
  rcases condE b with ⟨p,b⟩ | ⟨p,b⟩
  ·refine CT p<|Wk<|Ws<|Wb<|Ws<|Wg<|M' j<|M' o<|B b fun z aa b=>Ja aa<|B b fun af ab b=>W.call S rfl (zJ4 S.holds (hG.post S.post) z ab) ?_
   rintro ah ai ac aj S rfl
   refine No<|We ?_
   rcases condE b with ⟨q,b⟩ | ⟨q,b⟩
   ·refine CT q<|Ws<|Wg<|A<|We ?_
    obtain rfl:=oi b
    obtain rfl:=v
    exact WP.ret (Rb h S)
   refine CF q<|Wk<|Wg<|M' o<|Lg<|A<|We ?_
   obtain rfl:=oi b
   exact ⟨rfl,⟨ac,j,rfl,S⟩⟩
  refine CF p<|Wx ?_
  obtain rfl:=oi b
  obtain rfl:=v
  exact ⟨l,j,S⟩
 intro f w hM
 rcases k with _ | e
 ·obtain ⟨t,h6,S⟩:=hM
  refine Ws<|Wg<|M' h6<|Nb<|A<|We ?_
  exact WP.ret (Rb h S)
 exact hM.elim
end Go.Proofs
