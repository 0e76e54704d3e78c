/- The engine, part 19: slices that are put into cells; fields. -/
import Derived.Test.YtogfdiigokidaaaDoorEng18
namespace Go.Eng
open Go
section
variable {P : Program} {N : Nat} {f : Fr} {w w0 : World} {H0 H : Hp} {L : List Ent} {ops : Array Oper} {rest : List Oper} {Q : Fr → World → Prop} {d : Nat} {od : Option Nat} {ty : TypeId} {pos : String} {af : Array Edge}
theorem W.storeSl {α : Type} [Enc α] {T T' : TypeId} {a x : Operand} {b o i : Nat} {bb : Bool} {u : Value} {xs : List α} {cs : List Value} (cs' : List Value) (S : St w0 H0 w H L) (R : Sl H u xs) (ha : ev N f a = ptr b o) (hx : ev N f x = u) (hi : L[i]? = some (.box b T' cs)) (hT : lay P T = some (bb, 1))
    (ho : o + 1 ≤ cs.length) (hc : splice cs o [u] = cs')
    (k : ∀ w', St w0 H0 w' H (L.set i (.box b T' cs')) → WL P N ops rest Q (updo f od undef) w') : WL P N ops (⟨od, .store T a x, ty, pos, af, none⟩ :: rest) Q f w :=
  W.store cs' S ha hx hi hT (by rw [Sl.cellsOne R]; rfl) (by rw [Sl.cellsOne R]; simp [Sl.oneC R]) ho (by rw [Sl.cellsOne R]; exact hc) k
end
end Go.Eng
