/- The engine, part 18: bits. -/
import Derived.Test.YtmeemcjmhbgbdaaGreatDoorEng17
namespace Go.Eng
open Go
/-- '&' of ints. -/
def iand (a b : Int) : Int := IntKind.wrap .i64 ((BitVec.ofInt 64 a &&& BitVec.ofInt 64 b).toNat : Int)
section
variable {P : Program} {N : Nat} {f : Fr} {w : World} {d : Option Nat} {ty : TypeId} {pos : String} {af : Array Edge} {g : Option (Nat × Bool)}
theorem R.and {x y : Operand} {a b : Int} {T T' : TypeId} (hx : ev N f x = int a) (hy : ev N f y = int b) : (execOp (ev N f) ⟨d, .binOp .and T x y T', ty, pos, af, g⟩).run P w = .ok (.value (int (iand a b))) w := by
  simp [execOp, eqGuard, hx, hy, int, binOp, Op.intBits, iand]
  rfl
end
end Go.Eng
