/- A part. -/
import Derived.Test.YtffangblkofjdaaGreatDoorPure4
set_option linter.unusedVariables false
namespace Go.Eng.Pure
open Go Go.Eng
set_option linter.unusedVariables false
noncomputable def zGF (b:GRequest):Option Bool :=
 (zA5 b.fFields [73,102,45,78,111,110,101,45,77,97,116,99,104]).bind fun c =>
 (bif c then
  some true
 else
  (zA5 b.fFields [73,102,45,77,111,100,105,102,105,101,100,45,83,105,110,99,101]).bind fun d =>
  some (d)).bind fun f =>
 some f
end Go.Eng.Pure
