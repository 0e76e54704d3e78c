/- A part. -/
import Derived.Test.YtffangblkofjdaaGreatDoorPure3
set_option linter.unusedVariables false
namespace Go.Eng.Pure
open Go Go.Eng
set_option linter.unusedVariables false
noncomputable section
def zGj (c:(List Str)):((List GField)×Int)→Option (((List GField)×Int) ⊕ (List GField))
 | (d,b) =>
  (bif decide (b<(c.length:Int)) then
   (xnth c b).bind fun f =>
   (zDv d f).bind fun h =>
   some (.inl (h,wr (b+1)))
  else
   some (.inr d))
def zFL (b:(List GField)) (c:(List Str)):Option (List GField) :=
 (xapp ([]:List GField) b).bind fun d =>
 (zAE (zGj c) (d,0)).bind fun f =>
 some f
def zHa (c:Str) (b:Int):Option Bool :=
 (zF9 c).bind fun d =>
 some ((d&&(decide (200≤b)))&&(decide (b≤399)))
def zDe (c:Str) (b:Int):Option (Int ⊕ (Unit ⊕ Bool)) :=
  (bif decide (b<(c.length:Int)) then
   (xnth c b).bind fun d =>
   (bif decide (d<33) then
    some true
   else
    (xnth c b).bind fun f =>
    some (decide (126<f))).bind fun h =>
   (bif h then
    some true
   else
    (xnth c b).bind fun i =>
    (strings_IndexByte [40,41,44,34] i).bind fun j =>
    some (decide (0≤j))).bind fun k =>
   (bif k then
    some (.inr (.inr false))
   else
    some (.inl (wr (b+1))))
  else
   some (.inr (.inl ())))
def zFa (b:Str):Option Bool :=
 (zAE (zDe b) 0).bind fun c=>match c with
 | .inr e=>some e
 | .inl _ =>
  some (b !=[])
def zCd (d:(List Str)):((List Str)×Int)→Option (((List Str)×Int) ⊕ (List Str))
 | (f,b) =>
  (bif decide (b<(d.length:Int)) then
   (xnth d b).bind fun c =>
   (zFa c).bind fun h =>
   ((bif !h then
    (zEL c).bind fun i =>
    some i
   else
    some c)).bind fun (j:Str) =>
   (xapp f ([j]:List Str)).bind fun k =>
   some (.inl (k,wr (b+1)))
  else
   some (.inr f))
def zDb (b:(List Str)):Option Str :=
 (zAE (zCd b) (([]:List Str),0)).bind fun c =>
 (strings_Join c [32]).bind fun d =>
 (xcat [40] d).bind fun f =>
 (xcat f [41]).bind fun h =>
 some h
def zB5 (d:(List GAxis)) (h:(List GField)) (i:Bool):(Int×(List UInt8))→Option ((Int×(List UInt8)) ⊕ (List UInt8))
 | (b,c) =>
  (bif decide (b<(d.length:Int)) then
   (xnth d b).bind fun f =>
   ((bif decide (0<b) then
    (zAD [44,32] c).bind fun j =>
    some j.2.2
   else
    some c)).bind fun (k:(List UInt8)) =>
   (xcat f.fName [61]).bind fun l =>
   (zBD f h i).bind fun o =>
   (zDb o).bind fun p =>
   (xcat l p).bind fun r =>
   (zAD r k).bind fun t =>
   some (.inl (wr (b+1),t.2.2))
  else
   some (.inr c))
def zDZ (b:(List GAxis)) (c:(List GField)) (d:Bool):Option Str :=
 (zA6 b).bind fun f =>
 (bif !f then
  some []
 else
  (zAE (zB5 b c d) (0,([]:List UInt8))).bind fun h =>
  (zAa h).bind fun i =>
  some i)
def zIJ (b:(List GAxis)) (d:(List GField)) (f:(List GField)) (c:Bool):Option Bool :=
 (zA6 b).bind fun h =>
 (bif h then
  (zDZ b d c).bind fun i =>
  (zDZ b f c).bind fun j =>
  some (i==j)
 else
  some false).bind fun k =>
 some k
def zGh (c:Str) (b:Int):Option (Int ⊕ (Unit ⊕ Bool)) :=
  (bif decide (b<(c.length:Int)) then
   (xnth c b).bind fun d =>
   (bif decide (d<33) then
    some true
   else
    (xnth c b).bind fun f =>
    some (decide (126<f))).bind fun h =>
   (bif h then
    some (.inr (.inr false))
   else
    some (.inl (wr (b+1))))
  else
   some (.inr (.inl ())))
def zIH (b:Str):Option Bool :=
 (zAE (zGh b) 0).bind fun c=>match c with
 | .inr e=>some e
 | .inl _ =>
  some (b !=[])
def zOK (c:Str):Option (Str×Int×Int) :=
 (zBV c [13,10]).bind fun b =>
 (bif ((decide (2000<b))||((decide (b<0))&&(decide (2000<(c.length:Int))))) then
  some ([],0,4)
 else
  (bif decide (b<0) then
   some true
  else
   (xnth c b).bind fun d =>
   some (((d==13)&&(b==(wr ((c.length:Int) - 1)))))).bind fun f =>
  (bif f then
   some ([],0,2)
  else
   (xnth c b).bind fun c18 =>
   (bif c18==10 then
    some true
   else
    (xnth c (wr (b+1))).bind fun h =>
    some (h !=10)).bind fun i =>
   (bif i then
    some ([],0,1)
   else
    (xsub c 0 b).bind fun j =>
    some (j,wr (b+2),0))))
def zI8 (c:Str):Option (GField×Int) :=
 (bif decide (2000<(c.length:Int)) then
  some ((⟨[],[]⟩:GField),4)
 else
  (zBM c [58]).bind fun b =>
  (bif !b.2.2 then
   some true
  else
   (zAW b.1).bind fun f =>
   some (!f)).bind fun h =>
  (bif h then
   some true
  else
   (zCS b.2.1).bind fun i =>
   some (!i)).bind fun j =>
  (bif j then
   some ((⟨[],[]⟩:GField),1)
  else
   (zB6 b.2.1).bind fun d =>
   (zEa (⟨b.1,d⟩:GField)).bind fun k =>
   (bif !k then
    some ((⟨[],[]⟩:GField),4)
   else
    some ((⟨b.1,d⟩:GField),0))))
def zFI (b:UInt8):Option Int :=
 (zAQ ([b]:List UInt8)).bind fun c =>
 (xnth c 0).bind fun c11 =>
 (strings_IndexByte [48,49,50,51,52,53,54,55,56,57,97,98,99,100,101,102] c11).bind fun d =>
 some d
def zGz (c:Str):((List UInt8)×Int)→Option (((List UInt8)×Int) ⊕ ((List UInt8) ⊕ (Str×Bool)))
 | (d,b) =>
  (bif decide (b<(c.length:Int)) then
   (xnth c b).bind fun c26 =>
   (bif decide (c26<33) then
    some true
   else
    (xnth c b).bind fun c29 =>
    some (decide (126<c29))).bind fun i =>
   (bif i then
    some true
   else
    (xnth c b).bind fun j =>
    some (j==35)).bind fun k =>
   (bif k then
    some (.inr (.inr ([],false)))
   else
    (xnth c b).bind fun l =>
    (bif l !=37 then
     (xnth c b).bind fun o =>
     (xapp d ([o]:List UInt8)).bind fun p =>
     some (.inl (p,wr (b+1)))
    else
     (bif decide ((c.length:Int)≤(wr (b+2))) then
      some true
     else
      (xnth c (wr (b+1))).bind fun c52 =>
      (zFI c52).bind fun r =>
      some (decide (r<0))).bind fun t =>
     (bif t then
      some true
     else
      (xnth c (wr (b+2))).bind fun u =>
      (zFI u).bind fun v =>
      some (decide (v<0))).bind fun x =>
     (bif x then
      some (.inr (.inr ([],false)))
     else
      (xnth c (wr (b+1))).bind fun c78 =>
      (zFI c78).bind fun f =>
      (xnth c (wr (b+2))).bind fun c84 =>
      (zFI c84).bind fun h =>
      (zCl (toU8 (wr ((wr (16*f))+h)))).bind fun z =>
      (bif z then
       some true
      else
       (strings_IndexByte [45,46,95,126] (toU8 (wr ((wr (16*f))+h)))).bind fun aa =>
       some (decide (0≤aa))).bind fun ab =>
      (bif ab then
       (xapp d ([toU8 (wr ((wr (16*f))+h))]:List UInt8)).bind fun ac =>
       some (.inl (ac,wr ((wr (b+2))+1)))
      else
       (xnth [48,49,50,51,52,53,54,55,56,57,65,66,67,68,69,70] f).bind fun ad =>
       (xnth [48,49,50,51,52,53,54,55,56,57,65,66,67,68,69,70] h).bind fun ae =>
       (xapp d ([37,ad,ae]:List UInt8)).bind fun af =>
       some (.inl (af,wr ((wr (b+2))+1)))))))
  else
   some (.inr (.inl d)))
def zIc (b:Str):Option (Str×Bool) :=
 (xroom (b.length:Int)).bind fun f =>
 (zAE (zGz b) (([]:List UInt8),0)).bind fun c=>match c with
 | .inr e=>some e
 | .inl d =>
  some (d,true)
def zHE (c:(Str×Str×Bool)) (b:Int):Option (Int ⊕ (Unit ⊕ (Str×Int×Bool))) :=
  (bif decide (b<(c.1.length:Int)) then
   (xnth c.1 b).bind fun d =>
   (zGH d).bind fun f =>
   (bif !f then
    some (.inr (.inr ([],0,false)))
   else
    some (.inl (wr (b+1))))
  else
   some (.inr (.inl ())))
def zIY (d:Str):Option (Str×Int×Bool) :=
 (zBM d [58]).bind fun b =>
 (zAE (zHE b) 0).bind fun f=>match f with
 | .inr e=>some e
 | .inl _ =>
  (bif b.1==[] then
   some ([],0,false)
  else
   ((bif b.2.1 !=[] then
    (zEi b.2.1).bind fun c =>
    (bif ((((!c.2)||(decide (5<(b.2.1.length:Int))))||(decide (c.1<1)))||(decide (65535<c.1))) then
     some (.inr ([],0,false))
    else
     some (.inl c.1))
   else
    some (.inl 80))).bind fun (h:(Int ⊕ (Str×Int×Bool)))=>match h with
   | .inr e=>some e
   | .inl i =>
    (zAQ b.1).bind fun j =>
    some (j,i,true))
def zD0 (b:GURI):Option Str :=
 (bif b.fPort==80 then
  some b.fHost
 else
  (xcat b.fHost [58]).bind fun c =>
  (zDB b.fPort).bind fun d =>
  (xcat c d).bind fun f =>
  some f)
def zOY (b:GURI):Option Str :=
 (zD0 b).bind fun d =>
 (xcat [104,116,116,112,58,47,47] d).bind fun f =>
 (xcat f b.fPath).bind fun c =>
 ((bif b.fHasQuery then
  (xcat [63] b.fQuery).bind fun h =>
  (xcat c h).bind fun i =>
  some i
 else
  some c)).bind fun (j:Str) =>
 some j
def zAj (b:(List Str)) (c:(Str→Option Bool)):Option (List Str) :=
 (zAT b c).bind fun i=>delR b c i
def zIe (d:Str) (c:(List Str)) (b:Int):Option (Int ⊕ (Unit ⊕ Bool)) :=
  (bif decide (b<(c.length:Int)) then
   (xnth c b).bind fun f =>
   (zA0 d f).bind fun h =>
   (bif h then
    some (.inr (.inr true))
   else
    some (.inl (wr (b+1))))
  else
   some (.inr (.inl ())))
def zHP (b:Str) (c:(List Str)):Option Bool :=
 (zAE (zIe b c) 0).bind fun d=>match d with
 | .inr e=>some e
 | .inl _ =>
  some false
def zHF (j:GResponse):(Int×Int×Int×Str×(List GField)×Str)→Option ((Int×Int×Int×Str×(List GField)×Str) ⊕ (Int×Int×Str×(List GField)×Str))
 | (b,c,d,f,h,i) =>
  (bif decide (b<(j.fFields.length:Int)) then
   (xnth j.fFields b).bind fun k =>
   (zHP k.fName ([[65,103,101],[67,97,99,104,101,45,67,111,110,116,114,111,108],[67,111,110,116,101,110,116,45,76,111,99,97,116,105,111,110],[68,97,116,101],[69,84,97,103],[69,120,112,105,114,101,115],[76,97,115,116,45,77,111,100,105,102,105,101,100],[86,97,114,105,97,110,116,115],[86,97,114,105,97,110,116,45,75,101,121],[86,97,114,121],[86,105,97]]:List Str)).bind fun l =>
   (bif l then
    (xapp h ([k]:List GField)).bind fun o =>
    some (.inl (wr (b+1),c,d,f,o,i))
   else
    some (.inl (wr (b+1),c,d,f,h,i)))
  else
   some (.inr (c,d,f,h,i)))
def zIf (b:GResponse):Option GResponse :=
 (zAE (zHF b) (0,b.fMinor,304,[78,111,116,32,77,111,100,105,102,105,101,100],([]:List GField),[])).bind fun c=>match c with
 | (d,f,h,i,j) =>
  some (⟨d,f,h,i,j⟩:GResponse)
def zHq (b:GRequest) (c:Str):Option GRequest :=
 (zJR b.fFields).bind fun d =>
 (zPg d b.fMinor c).bind fun f =>
 (zFL f ([[82,97,110,103,101],[73,102,45,82,97,110,103,101]]:List Str)).bind fun h =>
 some (⟨b.fMethod,b.fTarget,1,h,b.fBody⟩:GRequest)
end
end Go.Eng.Pure
