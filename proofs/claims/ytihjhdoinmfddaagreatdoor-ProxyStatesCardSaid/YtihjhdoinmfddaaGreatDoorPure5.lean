/- A part. -/
import Derived.Test.YtihjhdoinmfddaaGreatDoorPure4
set_option linter.unusedVariables false
set_option linter.unusedSimpArgs false
namespace Go.Eng.Pure
open Go Go.Eng
noncomputable section
def zG7:((List GField)×Int)→Option (((List GField)×Int) ⊕ (List GField))
 | (c,b) =>
  (bif decide (b<(([[67,111,110,116,101,110,116,45,69,110,99,111,100,105,110,103],[67,111,110,116,101,110,116,45,84,121,112,101],[67,111,110,116,101,110,116,45,82,97,110,103,101],[86,97,114,105,97,110,116,115],[86,97,114,105,97,110,116,45,75,101,121],[86,97,114,121]]:List Str).length:Int)) then
   (xnth ([[67,111,110,116,101,110,116,45,69,110,99,111,100,105,110,103],[67,111,110,116,101,110,116,45,84,121,112,101],[67,111,110,116,101,110,116,45,82,97,110,103,101],[86,97,114,105,97,110,116,115],[86,97,114,105,97,110,116,45,75,101,121],[86,97,114,121]]:List Str) b).bind fun d =>
   (zAs c d).bind fun f =>
   some (.inl (f,wr (b+1)))
  else
   some (.inr c))
def zFH (d:GEntry) (f:GResponse) (h:Int) (i:Int):Option GEntry :=
 (zFZ f.fFields).bind fun j =>
 (zAB (zG7) (j,0)).bind fun c =>
 (zDC d).bind fun b =>
 (zAv c [65,103,101]).bind fun k =>
 ((bif !k then
  (zAs b.fFields [65,103,101]).bind fun l =>
  some l
 else
  some b.fFields)).bind fun (o:(List GField)) =>
 (zGo o c).bind fun p =>
 some (⟨b.fKeys,b.fVary,b.fSnapshot,b.fReason,p,b.fBody,h,i⟩:GEntry)
def zCG (b:GRequest):Option Bool :=
 (zAv b.fFields [73,102,45,78,111,110,101,45,77,97,116,99,104]).bind fun c =>
 (bif c then
  some true
 else
  (zAv b.fFields [73,102,45,77,111,100,105,102,105,101,100,45,83,105,110,99,101]).bind fun d =>
  some (d)).bind fun f =>
 some f
def zFy (d:GTable) (c:GRequest) (j:Int) (h:GConfig):Option GDecision :=
 (bif ((c.fMethod !=[71,69,84])&&(c.fMethod !=[72,69,65,68])) then
  some (⟨3,(-1)⟩:GDecision)
 else
  (zIq d c.fFields h.fStrict).bind fun b =>
  (bif (((decide (0<(d.fAxes.length:Int)))&&(!b.2))&&h.fRefuse) then
   some (⟨5,(-1)⟩:GDecision)
  else
   (zBN c.fFields).bind fun f =>
   (bif f.fNoStore then
    some (⟨3,(-1)⟩:GDecision)
   else
    ((bif decide (0≤b.1) then
     (xnth d.fEntries b.1).bind fun k =>
     (zF3 k c j).bind fun l =>
     (bif l then
      some 2
     else
      some 1)
    else
     some 0)).bind fun (i:Int) =>
    (((bif i==2 then
     some (.inr (.inr (⟨1,b.1⟩:GDecision)))
    else
     (bif i==1 then
      (bif !f.fOnlyIfCached then
       (xnth d.fEntries b.1).bind fun o =>
       (zCB o.fFields).bind fun p =>
       some (p)
      else
       some false).bind fun r =>
      (bif r then
       some (.inr (.inr (⟨2,b.1⟩:GDecision)))
      else
       some (.inl ()))
     else
      some (.inl ())))).bind fun (t:(Unit ⊕ (Unit ⊕ GDecision)))=>match t with
    | .inr e=>some e
    | .inl _ =>
     (bif f.fOnlyIfCached then
      some (.inr (⟨4,(-1)⟩:GDecision))
     else
      some (.inl ()))).bind fun (u:(Unit ⊕ GDecision))=>match u with
    | .inr e=>some e
    | .inl _ =>
     some (⟨3,(-1)⟩:GDecision))))
end
end Go.Eng.Pure
