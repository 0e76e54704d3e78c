/- A part. -/
import Derived.Test.YtffangblkofjdaaGreatDoorPure3
set_option linter.unusedVariables false
namespace Go.Eng.Pure
open Go Go.Eng
set_option linter.unusedVariables false
noncomputable section
def zHB (c:Str) (b:Int):Option Bool :=
 (zFt c).bind fun d =>
 some ((d&&(decide (200≤b)))&&(decide (b≤399)))
def zDa (c:Str) (b:Int):Option (Int ⊕ (Unit ⊕ Bool)) :=
  (bif decide (b<(c.length:Int)) then
   (xnth c b).bind fun d =>
   (bif decide (d<33) then
    some true
   else
    (xnth c b).bind fun f =>
    some (decide (126<f))).bind fun h =>
   (bif h then
    some true
   else
    (xnth c b).bind fun i =>
    (strings_IndexByte [40,41,44,34] i).bind fun j =>
    some (decide (0≤j))).bind fun k =>
   (bif k then
    some (.inr (.inr false))
   else
    some (.inl (wr (b+1))))
  else
   some (.inr (.inl ())))
def zFV (b:Str):Option Bool :=
 (zAE (zDa b) 0).bind fun c=>match c with
 | .inr e=>some e
 | .inl _ =>
  some (b !=[])
def zCe (d:(List Str)):((List Str)×Int)→Option (((List Str)×Int) ⊕ (List Str))
 | (f,b) =>
  (bif decide (b<(d.length:Int)) then
   (xnth d b).bind fun c =>
   (zFV c).bind fun h =>
   ((bif !h then
    (zEP c).bind fun i =>
    some i
   else
    some c)).bind fun (j:Str) =>
   (xapp f ([j]:List Str)).bind fun k =>
   some (.inl (k,wr (b+1)))
  else
   some (.inr f))
def zDT (b:(List Str)):Option Str :=
 (zAE (zCe b) (([]:List Str),0)).bind fun c =>
 (strings_Join c [32]).bind fun d =>
 (xcat [40] d).bind fun f =>
 (xcat f [41]).bind fun h =>
 some h
def zB1 (d:(List GAxis)) (h:(List GField)) (i:Bool):(Int×(List UInt8))→Option ((Int×(List UInt8)) ⊕ (List UInt8))
 | (b,c) =>
  (bif decide (b<(d.length:Int)) then
   (xnth d b).bind fun f =>
   ((bif decide (0<b) then
    (zAD [44,32] c).bind fun j =>
    some j.2.2
   else
    some c)).bind fun (k:(List UInt8)) =>
   (xcat f.fName [61]).bind fun l =>
   (zBA f h i).bind fun o =>
   (zDT o).bind fun p =>
   (xcat l p).bind fun r =>
   (zAD r k).bind fun t =>
   some (.inl (wr (b+1),t.2.2))
  else
   some (.inr c))
def zDM (b:(List GAxis)) (c:(List GField)) (d:Bool):Option Str :=
 (zA3 b).bind fun f =>
 (bif !f then
  some []
 else
  (zAE (zB1 b c d) (0,([]:List UInt8))).bind fun h =>
  (zAa h).bind fun i =>
  some i)
def zH2 (b:(List GAxis)) (d:(List GField)) (f:(List GField)) (c:Bool):Option Bool :=
 (zA3 b).bind fun h =>
 (bif h then
  (zDM b d c).bind fun i =>
  (zDM b f c).bind fun j =>
  some (i==j)
 else
  some false).bind fun k =>
 some k
def zGX (c:Str) (b:Int):Option (Int ⊕ (Unit ⊕ Bool)) :=
  (bif decide (b<(c.length:Int)) then
   (xnth c b).bind fun d =>
   (bif decide (d<33) then
    some true
   else
    (xnth c b).bind fun f =>
    some (decide (126<f))).bind fun h =>
   (bif h then
    some (.inr (.inr false))
   else
    some (.inl (wr (b+1))))
  else
   some (.inr (.inl ())))
def zHj (b:Str):Option Bool :=
 (zAE (zGX b) 0).bind fun c=>match c with
 | .inr e=>some e
 | .inl _ =>
  some (b !=[])
def zOS (c:Str):Option (Str×Int×Int) :=
 (zBS c [13,10]).bind fun b =>
 (bif ((decide (2000<b))||((decide (b<0))&&(decide (2000<(c.length:Int))))) then
  some ([],0,4)
 else
  (bif decide (b<0) then
   some true
  else
   (xnth c b).bind fun d =>
   some (((d==13)&&(b==(wr ((c.length:Int) - 1)))))).bind fun f =>
  (bif f then
   some ([],0,2)
  else
   (xnth c b).bind fun c18 =>
   (bif c18==10 then
    some true
   else
    (xnth c (wr (b+1))).bind fun h =>
    some (h !=10)).bind fun i =>
   (bif i then
    some ([],0,1)
   else
    (xsub c 0 b).bind fun j =>
    some (j,wr (b+2),0))))
def zIz (c:Str):Option (GField×Int) :=
 (bif decide (2000<(c.length:Int)) then
  some ((⟨[],[]⟩:GField),4)
 else
  (zCG c [58]).bind fun b =>
  (bif !b.2.2 then
   some true
  else
   (zAW b.1).bind fun f =>
   some (!f)).bind fun h =>
  (bif h then
   some true
  else
   (zCv b.2.1).bind fun i =>
   some (!i)).bind fun j =>
  (bif j then
   some ((⟨[],[]⟩:GField),1)
  else
   (zB2 b.2.1).bind fun d =>
   (zEK (⟨b.1,d⟩:GField)).bind fun k =>
   (bif !k then
    some ((⟨[],[]⟩:GField),4)
   else
    some ((⟨b.1,d⟩:GField),0))))
def zE8 (b:UInt8):Option Int :=
 (zAQ ([b]:List UInt8)).bind fun c =>
 (xnth c 0).bind fun c11 =>
 (strings_IndexByte [48,49,50,51,52,53,54,55,56,57,97,98,99,100,101,102] c11).bind fun d =>
 some d
def zGj (c:Str):((List UInt8)×Int)→Option (((List UInt8)×Int) ⊕ ((List UInt8) ⊕ (Str×Bool)))
 | (d,b) =>
  (bif decide (b<(c.length:Int)) then
   (xnth c b).bind fun c26 =>
   (bif decide (c26<33) then
    some true
   else
    (xnth c b).bind fun c29 =>
    some (decide (126<c29))).bind fun i =>
   (bif i then
    some true
   else
    (xnth c b).bind fun j =>
    some (j==35)).bind fun k =>
   (bif k then
    some (.inr (.inr ([],false)))
   else
    (xnth c b).bind fun l =>
    (bif l !=37 then
     (xnth c b).bind fun o =>
     (xapp d ([o]:List UInt8)).bind fun p =>
     some (.inl (p,wr (b+1)))
    else
     (bif decide ((c.length:Int)≤(wr (b+2))) then
      some true
     else
      (xnth c (wr (b+1))).bind fun c52 =>
      (zE8 c52).bind fun r =>
      some (decide (r<0))).bind fun t =>
     (bif t then
      some true
     else
      (xnth c (wr (b+2))).bind fun u =>
      (zE8 u).bind fun v =>
      some (decide (v<0))).bind fun x =>
     (bif x then
      some (.inr (.inr ([],false)))
     else
      (xnth c (wr (b+1))).bind fun c78 =>
      (zE8 c78).bind fun f =>
      (xnth c (wr (b+2))).bind fun c84 =>
      (zE8 c84).bind fun h =>
      (zCm (toU8 (wr ((wr (16*f))+h)))).bind fun z =>
      (bif z then
       some true
      else
       (strings_IndexByte [45,46,95,126] (toU8 (wr ((wr (16*f))+h)))).bind fun aa =>
       some (decide (0≤aa))).bind fun ab =>
      (bif ab then
       (xapp d ([toU8 (wr ((wr (16*f))+h))]:List UInt8)).bind fun ac =>
       some (.inl (ac,wr ((wr (b+2))+1)))
      else
       (xnth [48,49,50,51,52,53,54,55,56,57,65,66,67,68,69,70] f).bind fun ad =>
       (xnth [48,49,50,51,52,53,54,55,56,57,65,66,67,68,69,70] h).bind fun ae =>
       (xapp d ([37,ad,ae]:List UInt8)).bind fun af =>
       some (.inl (af,wr ((wr (b+2))+1)))))))
  else
   some (.inr (.inl d)))
def zIK (b:Str):Option (Str×Bool) :=
 (xroom (b.length:Int)).bind fun f =>
 (zAE (zGj b) (([]:List UInt8),0)).bind fun c=>match c with
 | .inr e=>some e
 | .inl d =>
  some (d,true)
def zGz (c:(Str×Str×Bool)) (b:Int):Option (Int ⊕ (Unit ⊕ (Str×Int×Bool))) :=
  (bif decide (b<(c.1.length:Int)) then
   (xnth c.1 b).bind fun d =>
   (zF2 d).bind fun f =>
   (bif !f then
    some (.inr (.inr ([],0,false)))
   else
    some (.inl (wr (b+1))))
  else
   some (.inr (.inl ())))
def zIQ (d:Str):Option (Str×Int×Bool) :=
 (zCG d [58]).bind fun b =>
 (zAE (zGz b) 0).bind fun f=>match f with
 | .inr e=>some e
 | .inl _ =>
  (bif b.1==[] then
   some ([],0,false)
  else
   ((bif b.2.1 !=[] then
    (zEd b.2.1).bind fun c =>
    (bif ((((!c.2)||(decide (5<(b.2.1.length:Int))))||(decide (c.1<1)))||(decide (65535<c.1))) then
     some (.inr ([],0,false))
    else
     some (.inl c.1))
   else
    some (.inl 80))).bind fun (h:(Int ⊕ (Str×Int×Bool)))=>match h with
   | .inr e=>some e
   | .inl i =>
    (zAQ b.1).bind fun j =>
    some (j,i,true))
def zAl (b:(List Str)) (c:(Str→Option Bool)):Option (List Str) :=
 (zAU b c).bind fun i=>delR b c i
def zIO (d:Str) (c:(List Str)) (b:Int):Option (Int ⊕ (Unit ⊕ Bool)) :=
  (bif decide (b<(c.length:Int)) then
   (xnth c b).bind fun f =>
   (zAz d f).bind fun h =>
   (bif h then
    some (.inr (.inr true))
   else
    some (.inl (wr (b+1))))
  else
   some (.inr (.inl ())))
def zG2 (b:Str) (c:(List Str)):Option Bool :=
 (zAE (zIO b c) 0).bind fun d=>match d with
 | .inr e=>some e
 | .inl _ =>
  some false
def zGt (j:GResponse):(Int×Int×Int×Str×(List GField)×Str)→Option ((Int×Int×Int×Str×(List GField)×Str) ⊕ (Int×Int×Str×(List GField)×Str))
 | (b,c,d,f,h,i) =>
  (bif decide (b<(j.fFields.length:Int)) then
   (xnth j.fFields b).bind fun k =>
   (zG2 k.fName ([[65,103,101],[67,97,99,104,101,45,67,111,110,116,114,111,108],[67,111,110,116,101,110,116,45,76,111,99,97,116,105,111,110],[68,97,116,101],[69,84,97,103],[69,120,112,105,114,101,115],[76,97,115,116,45,77,111,100,105,102,105,101,100],[86,97,114,105,97,110,116,115],[86,97,114,105,97,110,116,45,75,101,121],[86,97,114,121],[86,105,97]]:List Str)).bind fun l =>
   (bif l then
    (xapp h ([k]:List GField)).bind fun o =>
    some (.inl (wr (b+1),c,d,f,o,i))
   else
    some (.inl (wr (b+1),c,d,f,h,i)))
  else
   some (.inr (c,d,f,h,i)))
def zIL (b:GResponse):Option GResponse :=
 (zAE (zGt b) (0,b.fMinor,304,[78,111,116,32,77,111,100,105,102,105,101,100],([]:List GField),[])).bind fun c=>match c with
 | (d,f,h,i,j) =>
  some (⟨d,f,h,i,j⟩:GResponse)
end
end Go.Eng.Pure
