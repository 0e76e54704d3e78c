/- A part. -/
import Derived.Test.YtipgfplekgdoiaaGreatDoorPure3
set_option linter.unusedVariables false
namespace Go.Eng.Pure
open Go Go.Eng
set_option linter.unusedVariables false
noncomputable section
def zAr (b:(List GEntry)) (c d:Int):Option (List GEntry) :=
 delI b c d
def zEX (d:GTable) (c:Int):Option GTable :=
 (zHu d).bind fun b =>
 (bif (decide (c<0))||(decide ((b.fEntries.length:Int)≤c)) then
  some (⟨b.fAxes,b.fEntries⟩:GTable)
 else
  (delI b.fEntries c (wr (c+1))).bind fun f =>
  some (⟨b.fAxes,f⟩:GTable))
def zFO (d:GTable) (b:Int):Option GTable :=
 (zE6 d).bind fun c =>
 ((bif ((decide (0≤b))&&(decide (b<(c.fEntries.length:Int)))) then
  (zAr c.fEntries b (wr (b+1))).bind fun f =>
  some f
 else
  some c.fEntries)).bind fun (h:(List GEntry)) =>
 some (⟨c.fAxes,h⟩:GTable)
def zEf (b:GTable) (c:Int) (d:Int):Option Bool :=
 (zGu b).bind fun f =>
 (bif !f then
  some true
 else
  (zFO b c).bind fun h =>
  (zEX b c).bind fun i =>
  (zDF h i).bind fun j =>
  (bif j then
   (zGw b).bind fun k =>
   (zDu b).bind fun l =>
   some (k==l)
  else
   some false).bind fun o =>
  (bif o then
   (zEA b d).bind fun p =>
   (zGL b d).bind fun q =>
   some (p==q)
  else
   some false).bind fun r =>
  (bif r then
   (zF9).bind fun t =>
   some (t)
  else
   some false).bind fun u =>
  some u)
end
end Go.Eng.Pure
