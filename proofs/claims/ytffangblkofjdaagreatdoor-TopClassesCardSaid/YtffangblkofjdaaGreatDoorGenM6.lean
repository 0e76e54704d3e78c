/- A part. -/
import Derived.Test.YtffangblkofjdaaGreatDoorEng38
import Derived.Test.YtffangblkofjdaaGreatDoorEng35
import Derived.Test.YtffangblkofjdaaGreatDoorGenM5
namespace Go.Proofs
open Go Go.Eng Go.VI Go.Eng.Pure
set_option linter.unusedVariables false
set_option maxRecDepth 10000
set_option maxHeartbeats 4000000
theorem c155:FE.ok (U:=UU) Tryz.prog ⟨155,[(.sl (.st 41))],[(.sl .str),.boo],fun x=>zKN x⟩:=@fun w H az x y hw hg b hT h=>by
 obtain ⟨d,rfl,c⟩:=hT
 exact (zKW hw b x c h).mono (fun _ _ ⟨f,e,K0⟩=>⟨[_,_],e,_,_,rfl,K0,⟨_,rfl,rfl⟩⟩)
end Go.Proofs
