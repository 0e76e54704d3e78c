/- A part. -/
import Derived.Test.YtljjaiijlaeoeaaGreatDoorEng38
import Derived.Test.YtljjaiijlaeoeaaGreatDoorEng36
import Derived.Test.YtljjaiijlaeoeaaGreatDoorGenP19
namespace Go.Proofs
set_option maxHeartbeats 4000000
set_option maxRecDepth 10000
open Go.Eng Go.Eng.Pure
set_option linter.unusedVariables false
theorem zE3 {j:World} {d:Hp} (hw:Holds j d) (hG:Tryz.Gl j) (l:(List GField)) (o:(List GField)) {p:Value} {q:Value} (c:Sl d p l) (i:Sl d q o) {r:Bool} (h:zDp l o=some r) :
  Cb Tryz.prog 25 [p,q] j d r:=by
 refine CM 26 Tryz.func25 hw fun S=>?_
 refine Ws<|Wg<|A<|We<|Ws<|Ws<|Wg<|M<|Nq c<|M<|Nq i<|Lf ?_
 refine We ?_
 rcases condE h with ⟨x,h⟩ | ⟨x,h⟩
 ·refine CT x<|Ws<|Wg<|A<|We ?_
  exact WP.ret (Rb h S)
 refine CF x<|Wk<|Ws<|Ws<|Wg<|A<|We<|B h fun z ai h=>WP.cut (fun f w=>match z with | .inl _=>∃ (H7:Hp),St j d w H7 [] | .inr _=>False) ?_ ?_
 ·refine Wb ?_
  refine WP.loopM (zCl l o) (fun s f w=>match s with | ae=>∃ (k:Hp),f 0=p∧f 1=q∧f 5=(int ae)∧Sl k p l∧Sl k q o∧St j d w k []) 0 z (lfW ai) ?_ ?_
  ·exact ⟨d,rfl,rfl,rfl,c,i,S⟩
  intro ae f w hI y8 b af
  obtain ⟨k,h3,h4,t,c,i,S⟩:=hI
  refine Ws<|Ws<|Wg<|M' t<|M' h3<|Nq c<|La<|We ?_
  rcases condE b with ⟨ab,b⟩ | ⟨ab,b⟩
  ·refine CT ab<|Wk<|Ws<|Wb<|Ws<|WP.quiet S kr kr<|QM' h3<|QM' t<|B b fun u aj b=>WQ.idx (α:=GField) c rfl rfl el22 aj ?_
   rintro aq _ ak rfl
   refine WQ.val (fun w hw=>by obtain ⟨_,hq,S⟩:=hw; exact (R.loadHN (vs:=[(str u.fName),(str u.fValue)]) S rfl (At.mono ak hq (by simp)) lay68 rfl rfl))<|QM' h4<|QM' t<|B b fun v al b=>WQ.idx (α:=GField) i rfl rfl el22 al ?_
   rintro ar _ am rfl
   refine WQ.val (fun w hw=>by obtain ⟨_,hq,S⟩:=hw; exact (R.loadHN (vs:=[(str v.fName),(str v.fValue)]) S rfl (At.mono am hq (by simp)) lay68 rfl rfl)) ?_
   refine WQ.val (fun _ _=>(R.neqA (!((u.fName==v.fName)&&((u.fValue==v.fValue)&&true))) rfl rfl ps68 fk68 rfl rfl rfl))<|WQ.nil ?_
   intro au an ao S
   have ⟨c,i⟩:=U2 ao c i
   rcases condE b with ⟨ac,b⟩ | ⟨ac,b⟩
   ·refine CT ac<|Ws<|Wg<|A<|We ?_
    obtain rfl:=oi b
    obtain rfl:=af
    exact WP.ret (Rb h S)
   refine CF ac<|Wk<|Wg<|M' t<|Lg<|A<|We ?_
   obtain rfl:=oi b
   exact ⟨rfl,⟨an,h3,h4,rfl,c,i,S⟩⟩
  refine CF ab<|Wx ?_
  obtain rfl:=oi b
  obtain rfl:=af
  exact ⟨k,S⟩
 intro f w hM
 rcases z with _ | e
 ·obtain ⟨H7,S⟩:=hM
  refine Ws<|Wg<|A<|We ?_
  exact WP.ret (Rb h S)
 exact hM.elim
end Go.Proofs
