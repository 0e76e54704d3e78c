/- The engine, part 13: more of what the written proofs use. -/
import Derived.Test.YtogfdiigokidaaaDoorEng11
import Derived.Test.YtogfdiigokidaaaDoorEng12
namespace Go.Eng
open Go
section
variable {w0 w : World} {H0 H : Hp} {L : List Ent}
theorem St.addNilV {v : Value} (hv : v = .slice none 0 0) (S : St w0 H0 w H L) (T : TypeId) (sz : Nat) : St w0 H0 w H (.row v T sz 0 :: L) := by
  subst hv; exact S.addNil T sz
end
end Go.Eng
