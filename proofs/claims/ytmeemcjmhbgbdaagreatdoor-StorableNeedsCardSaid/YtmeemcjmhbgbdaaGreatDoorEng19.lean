/- The engine, part 19: slices that are put into cells; fields. -/
import Derived.Test.YtmeemcjmhbgbdaaGreatDoorEng18
namespace Go.Eng
open Go
section
variable {P : Program} {N : Nat} {f : Fr} {w w0 : World} {H0 H : Hp} {L : List Ent} {ops : Array Oper} {rest : List Oper} {Q : Fr → World → Prop} {d : Nat} {od : Option Nat} {ty : TypeId} {pos : String} {af : Array Edge}
end
end Go.Eng
