/- A part. -/
import Derived.Test.YtipgfplekgdoiaaGreatDoorPure2
set_option linter.unusedVariables false
namespace Go.Eng.Pure
open Go Go.Eng
set_option linter.unusedVariables false
noncomputable section
def zFV (b:Int) (c:Str) (d:Str):Option Int :=
 (bif c==[42] then
  some 0
 else
  (zA2 b c).bind fun f =>
  (zA2 b d).bind fun h =>
  (bif f==h then
   some 1
  else
   some (-1)))
def zFS (b:Int) (d:Str) (c:Str):Option Int :=
 ((bif b==1 then
  (zA0 d).bind fun f =>
  (zCg c).bind fun h =>
  (bif ((!f.2)||(!h.2)) then
   some (.inr (-1))
  else
   (zDn f.1 h.1).bind fun i =>
   some (.inr i))
 else
  (bif b==2 then
   (zEM d c).bind fun j =>
   some (.inr j)
  else
   ((bif b==3 then
    some (b==3)
   else
    some (b==4))).bind fun (k:Bool) =>
   (bif k then
    (zAy d).bind fun l =>
    (bif !l then
     some true
    else
     (zAy c).bind fun o =>
     some (!o)).bind fun p =>
    (bif (p||(c==[42])) then
     some (.inr (-1))
    else
     (zFV b d c).bind fun q =>
     some (.inr q))
   else
    some (.inl ()))))).bind fun (r:(Unit ⊕ Int))=>match r with
 | .inr e=>some e
 | .inl _ =>
  some (-1)
def zCZ (j:Int) (d:(List GPref)) (k:Str):(Int×Int×Int)→Option ((Int×Int×Int) ⊕ (Int×Int))
 | (c,f,b) =>
  (bif decide (b<(d.length:Int)) then
   (xnth d b).bind fun h =>
   (zFS j h.fRange k).bind fun i =>
   (bif decide (c<i) then
    some (.inl (i,h.fQ,wr (b+1)))
   else
    some (.inl (c,f,wr (b+1))))
  else
   some (.inr (c,f)))
def zER (b:Int) (d:(List GPref)) (f:Bool) (c:Str):Option Int :=
 (bif !f then
  some 1000
 else
  (zAG (zCZ b d c) ((-1),0,0)).bind fun h=>match h with
  | (i,j) =>
   (bif ((decide (i<0))&&(b==4)) then
    (zCk c [105,100,101,110,116,105,116,121]).bind fun k =>
    some (k)
   else
    some false).bind fun l =>
   (bif l then
    some 1
   else
    some j))
def zDO (c:(List Int)) (d:Int) (b:Int):Option (Int ⊕ Int) :=
  (bif decide (0<b) then
   (xnth c (wr (b - 1))).bind fun f =>
   some (decide (f<d))
  else
   some false).bind fun h =>
  (bif h then
   some (.inl (wr (b - 1)))
  else
   some (.inr b))
def zB0 (k:Int) (l:(List GPref)) (o:Bool) (h:(List Str)):((List Str)×(List Int)×Int)→Option (((List Str)×(List Int)×Int) ⊕ (List Str))
 | (d,b,c) =>
  (bif decide (c<(h.length:Int)) then
   (xnth h c).bind fun i =>
   (zER k l o i).bind fun f =>
   (bif decide (f≤0) then
    some (.inl (d,b,wr (c+1)))
   else
    (zAG (zDO b f) (b.length:Int)).bind fun j =>
    (insS d j ([i]:List Str)).bind fun p =>
    (insS b j ([f]:List Int)).bind fun q =>
    some (.inl (p,q,wr (c+1))))
  else
   some (.inr d))
def zFp (b:Int) (c:(List GPref)) (d:Bool) (f:(List Str)):Option (List Str) :=
 (zAG (zB0 b c d f) (([]:List Str),([]:List Int),0)).bind fun h =>
 some h
def zAU (b:(List Str)):Option (List Str) :=
 xapp [] b
def zAf (b:(List GField)):Option (List GField) :=
 xapp [] b
def zCy (c:GEntry):(Int×(List (List Str))×(List Str)×(List Str)×Str×(List GField)×Str×Int×Int)→Option ((Int×(List (List Str))×(List Str)×(List Str)×Str×(List GField)×Str×Int×Int) ⊕ ((List (List Str))×(List Str)×(List Str)×Str×(List GField)×Str×Int×Int))
 | (b,d,f,h,i,j,k,l,o) =>
  (bif decide (b<(c.fKeys.length:Int)) then
   (xnth c.fKeys b).bind fun p =>
   (zAU p).bind fun q =>
   (xapp d ([q]:List (List Str))).bind fun r =>
   some (.inl (wr (b+1),r,f,h,i,j,k,l,o))
  else
   some (.inr (d,f,h,i,j,k,l,o)))
def zD6 (b:GEntry):Option GEntry :=
 (zAG (zCy b) (0,([]:List (List Str)),b.fVary,b.fSnapshot,b.fReason,b.fFields,b.fBody,b.fRequested,b.fReceived)).bind fun c=>match c with
 | (d,f,h,i,j,k,l,o) =>
  (zAU f).bind fun p =>
  (zAU h).bind fun q =>
  (zAf j).bind fun r =>
  some (⟨d,p,q,i,r,k,l,o⟩:GEntry)
def zFM (c:(List GAxis)) (b:Int):Option (Int ⊕ (Unit ⊕ Bool)) :=
  (bif ((decide (b<(c.length:Int)))&&(decide (b<7))) then
   (xnth c b).bind fun d =>
   (bif decide (100<(d.fName.length:Int)) then
    some true
   else
    (xnth c b).bind fun f =>
    (zCV f.fValues).bind fun h =>
    some (!h)).bind fun i =>
   (bif i then
    some (.inr (.inr false))
   else
    some (.inl (wr (b+1))))
  else
   some (.inr (.inl ())))
def zHq (b:(List GAxis)):Option Bool :=
 (zAG (zFM b) 0).bind fun c=>match c with
 | .inr e=>some e
 | .inl _ =>
  some (decide ((b.length:Int)≤6))
def zEp (c:GTable) (b:Int):Option (Int ⊕ (Unit ⊕ Bool)) :=
  (bif ((decide (b<(c.fEntries.length:Int)))&&(decide (b<9))) then
   (xnth c.fEntries b).bind fun d =>
   (zGs d).bind fun f =>
   (bif !f then
    some (.inr (.inr false))
   else
    some (.inl (wr (b+1))))
  else
   some (.inr (.inl ())))
def zGu (b:GTable):Option Bool :=
 (zAG (zEp b) 0).bind fun c=>match c with
 | .inr e=>some e
 | .inl _ =>
  (bif decide ((b.fEntries.length:Int)≤8) then
   (zHq b.fAxes).bind fun d =>
   some (d)
  else
   some false).bind fun f =>
  some f
def zFW (b:GEntry) (c:(List GField)):Option Bool :=
 (zGq b.fVary b.fSnapshot c).bind fun d =>
 some d
def zCt (c:(List GEntry)) (d:(GEntry→Option Bool)) (b:Int):Option (Int ⊕ (Unit ⊕ Int)) :=
  (bif decide (0≤b) then
   (xnth c b).bind fun f =>
   (d f).bind fun h =>
   (bif h then
    some (.inr (.inr b))
   else
    some (.inl (wr (b - 1))))
  else
   some (.inr (.inl ())))
def zE0 (b:(List GEntry)) (c:(GEntry→Option Bool)):Option Int :=
 (zAG (zCt b c) (wr ((b.length:Int) - 1))).bind fun d=>match d with
 | .inr e=>some e
 | .inl _ =>
  some (-1)
def zB7 (b:GParam):Option Bool :=
 some (b.fName==[113])
def zHF (c:Str):((List UInt8)×Int)→Option (((List UInt8)×Int) ⊕ (List UInt8))
 | (d,b) =>
  (bif decide (b<(c.length:Int)) then
   (xnth c b).bind fun f =>
   (bif f==34 then
    some true
   else
    (xnth c b).bind fun h =>
    some (h==92)).bind fun i =>
   ((bif i then
    (xapp d ([92]:List UInt8)).bind fun j =>
    some j
   else
    some d)).bind fun (k:(List UInt8)) =>
   (xnth c b).bind fun l =>
   (xapp k ([l]:List UInt8)).bind fun o =>
   some (.inl (o,wr (b+1)))
  else
   some (.inr d))
def zHY (b:Str):Option Str :=
 (zAG (zHF b) (([34]:List UInt8),0)).bind fun c =>
 (xapp c ([34]:List UInt8)).bind fun d =>
 some d
def zCa (d:(List GParam)):(Int×(List UInt8))→Option ((Int×(List UInt8)) ⊕ (List UInt8))
 | (b,f) =>
  (bif decide (b<(d.length:Int)) then
   (xnth d b).bind fun c =>
   (xcat [59] c.fName).bind fun i =>
   (xcat i [61]).bind fun j =>
   (zAN j f).bind fun h =>
   (zAy c.fValue).bind fun k =>
   (bif k then
    (zAN c.fValue h.2.2).bind fun l =>
    some (.inl (wr (b+1),l.2.2))
   else
    (zHY c.fValue).bind fun o =>
    (zAN o h.2.2).bind fun p =>
    some (.inl (wr (b+1),p.2.2)))
  else
   some (.inr f))
def zFK (b:Str) (c:(List GParam)):Option Str :=
 (zAN b ([]:List UInt8)).bind fun d =>
 (zAG (zCa c) (0,d.2.2)).bind fun f =>
 (zA9 f).bind fun h =>
 some h
def zDG (b:GMediaType):Option Str :=
 (xcat b.fType [47]).bind fun c =>
 (xcat c b.fSub).bind fun d =>
 (zFK d b.fParams).bind fun f =>
 some f
def zE9 (c:Str) (d:(List GParam)):Option (Str×Bool) :=
 (zA0 c).bind fun b =>
 (zDG (⟨b.1.fType,b.1.fSub,d⟩:GMediaType)).bind fun f =>
 some (f,b.2)
def zE2 (c:Int) (b:Str) (d:(List GParam)):Option (Str×Bool) :=
 (zA2 c b).bind fun f =>
 (zC7 b).bind fun h =>
 some (f,(h&&((d.length:Int)==0)))
def zEs (b:Int) (c:Str) (d:(List GParam)):Option (Str×Bool) :=
 (bif decide (b=1) then
  (zE9 c d).bind fun f =>
  some (f.1,f.2)
 else
  (bif decide (b=2) then
   (zE2 b c d).bind fun h =>
   some (h.1,h.2)
  else
   (zA2 b c).bind fun i =>
   (zAy c).bind fun j =>
   some (i,(j&&((d.length:Int)==0)))))
def zGK (h:Int) (i:Str):Option (GPref×Bool) :=
 (zE5 i).bind fun b =>
 (bif !b.2.2 then
  some ((⟨[],0⟩:GPref),false)
 else
  (zAS b.2.1 zB7).bind fun c =>
  ((bif decide (0≤c) then
   (xnth b.2.1 c).bind fun j =>
   (zBe j.fValue).bind fun d =>
   (bif !d.2 then
    some (.inr ((⟨[],0⟩:GPref),false))
   else
    (xsub b.2.1 0 c).bind fun k =>
    some (.inl (k,d.1)))
  else
   some (.inl (b.2.1,1000)))).bind fun (l:(((List GParam)×Int) ⊕ (GPref×Bool)))=>match l with
  | .inr e=>some e
  | .inl (o,p) =>
   (zEs h b.1 o).bind fun f =>
   some ((⟨f.1,p⟩:GPref),f.2))
def zCW (h:Int) (d:(List Str)):((List GPref)×Int)→Option (((List GPref)×Int) ⊕ (List GPref))
 | (c,b) =>
  (bif decide (b<(d.length:Int)) then
   (xnth d b).bind fun i =>
   (zGK h i).bind fun f =>
   (bif f.2 then
    (xapp c ([f.1]:List GPref)).bind fun j =>
    some (.inl (j,wr (b+1)))
   else
    some (.inl (c,wr (b+1))))
  else
   some (.inr c))
def zEW (c:Int) (d:(List GField)):Option ((List GPref)×Bool) :=
 (zBH c).bind fun b =>
 (bif b==[] then
  some true
 else
  (zDd d b).bind fun f =>
  some (!f)).bind fun h =>
 (bif h then
  some (([]:List GPref),false)
 else
  (zF1 d b).bind fun i =>
  (zAG (zCW c i) (([]:List GPref),0)).bind fun j =>
  some (j,true))
def zAb (c:(List Str)) (d:Str) (b:Int):Option (Int ⊕ (Unit ⊕ Int)) :=
  (bif decide (b<(c.length:Int)) then
   (xnth c b).bind fun f =>
   (bif d==f then
    some (.inr (.inr b))
   else
    some (.inl (wr (b+1))))
  else
   some (.inr (.inl ())))
def zBZ (b:(List Str)) (c:Str):Option Int :=
 (zAG (zAb b c) 0).bind fun d=>match d with
 | .inr e=>some e
 | .inl _ =>
  some (-1)
def zAc (b:(List Str)) (c:Str):Option Bool :=
 (zBZ b c).bind fun d =>
 some (decide (0≤d))
def zDB (b:GAxis) (d:(List GField)) (j:Bool):Option (List Str) :=
 (zCK ([b]:List GAxis)).bind fun k =>
 (bif !k then
  some ([]:List Str)
 else
  (zD4 b.fName).bind fun c =>
  ((bif c !=0 then
   (zEW c d).bind fun f =>
   (zFp c f.1 f.2 b.fValues).bind fun l =>
   some l
  else
   (zF1 d b.fName).bind fun o =>
   (zFf o).bind fun h =>
   (zAc b.fValues h).bind fun p =>
   (bif p then
    some ([h]:List Str)
   else
    some ([]:List Str)))).bind fun (i:(List Str)) =>
  ((bif (((i.length:Int)==0)&&(!j)) then
   (xnth b.fValues 0).bind fun q =>
   some ([q]:List Str)
  else
   some i)).bind fun (r:(List Str)) =>
  some r)
def zBO (d:(List GAxis)) (h:(List GField)) (i:Bool):(Int×(List (List Str)))→Option ((Int×(List (List Str))) ⊕ ((List (List Str)) ⊕ (List (List Str))))
 | (b,c) =>
  (bif decide (b<(d.length:Int)) then
   (xnth d b).bind fun j =>
   (zDB j h i).bind fun k =>
   (xnth c b).bind fun o =>
   (xput c b k).bind fun f =>
   (xnth f b).bind fun l =>
   (bif (l.length:Int)==0 then
    some (.inr (.inr ([]:List (List Str))))
   else
    some (.inl (wr (b+1),f)))
  else
   some (.inr (.inl c)))
def zBP (f:(List (List Str))) (d:(List Int)):(Int×(List Str))→Option ((Int×(List Str)) ⊕ (List Str))
 | (b,c) =>
  (bif decide (b<(d.length:Int)) then
   (xnth d b).bind fun h =>
   (xnth f b).bind fun i =>
   (xnth i h).bind fun j =>
   (xnth c b).bind fun l =>
   (xput c b j).bind fun k =>
   some (.inl (wr (b+1),k))
  else
   some (.inr c))
def zBQ (d:(List (List Str))):(Int×(List Int))→Option ((Int×(List Int)) ⊕ (Int×(List Int)))
 | (b,c) =>
  (bif decide (0≤b) then
   (xnth c b).bind fun f =>
   (xnth d b).bind fun h =>
   some (f==(wr ((h.length:Int) - 1)))
  else
   some false).bind fun i =>
  (bif i then
   (xnth c b).bind fun k =>
   (xput c b 0).bind fun j =>
   some (.inl (wr (b - 1),j))
  else
   some (.inr (b,c)))
def zA4 (j:(List GAxis)) (k:Int) (h:(List (List Str))):((List (List Str))×(List Int))→Option (((List (List Str))×(List Int)) ⊕ (List (List Str)))
 | (c,d) =>
  (bif decide ((c.length:Int)<k) then
   (xmake (j.length:Int) ([]:Str)).bind fun l =>
   (zAG (zBP h d) (0,l)).bind fun o =>
   (xapp c ([o]:List (List Str))).bind fun i =>
   (zAG (zBQ h) (wr ((d.length:Int) - 1),d)).bind fun p=>match p with
   | (b,f) =>
    (bif decide (b<0) then
     some (.inr i)
    else
     (xnth f b).bind fun q =>
     (xnth f b).bind fun t =>
     (xput f b (wr (q+1))).bind fun r =>
     some (.inl (i,r)))
  else
   some (.inr c))
def zFY (b:(List GAxis)) (c:(List GField)) (d:Bool) (f:Int):Option (List (List Str)) :=
 (zCK b).bind fun h =>
 (bif !h then
  some ([]:List (List Str))
 else
  (xmake (b.length:Int) (([]:List Str):(List Str))).bind fun i =>
  (zAG (zBO b c d) (0,i)).bind fun j=>match j with
  | .inr e=>some e
  | .inl k =>
   (xmake (b.length:Int) (0:Int)).bind fun l =>
   (zAG (zA4 b f k) (([]:List (List Str)),l)).bind fun o =>
   some o)
def zEG (c:(List GAxis)) (d:(List GField)) (f:Bool):Option ((List Str)×Bool) :=
 (zFY c d f 1).bind fun b =>
 (bif (b.length:Int)==0 then
  some (([]:List Str),false)
 else
  (xnth b 0).bind fun h =>
  some (h,true))
def zCx (c:Str) (d:Str) (f:(List GAxis)) (b:Int):Option (Bool×Int) :=
 (xnth f (wr (b+1))).bind fun h =>
 (zEw h.fName c d).bind fun i =>
 some (i,wr (b+1))
def zAM (d:(List Str)) (h:(List Str)) (i:(List GAxis)):(Int×Int)→Option ((Int×Int) ⊕ (Int ⊕ (Bool×Int)))
 | (b,f) =>
  (bif decide (b<(d.length:Int)) then
   (xnth d b).bind fun j =>
   (xnth h b).bind fun k =>
   (zCx j k i f).bind fun c =>
   (bif !c.1 then
    some (.inr (.inr (false,c.2)))
   else
    some (.inl (wr (b+1),c.2)))
  else
   some (.inr (.inl f)))
def zAl (b:(List Str)) (c:(List Str)) (f:(List GAxis)) (d:Int):Option (Bool×Int) :=
 (bif (b.length:Int) !=(c.length:Int) then
  some (false,d)
 else
  (zAG (zAM b c f) (0,d)).bind fun h=>match h with
  | .inr e=>some e
  | .inl i =>
   some (true,i))
def zDl (b:(List GAxis)) (c:(List Str)) (d:(List Str)):Option Bool :=
 (bif (c.length:Int) !=(b.length:Int) then
  some false
 else
  (zAl c d b (-1)).bind fun f =>
  some f.1)
def zFC (b:(List Str)) (c:(List GAxis)) (d:(List Str)):Option Bool :=
 (zDl c b d).bind fun f =>
 some f
def zGY (b:(List GAxis)) (c:GEntry) (d:(List Str)):Option Bool :=
 (zAV c.fKeys (fun f=>zFC f b d)).bind fun h =>
 some h
def zFQ (b:GEntry) (c:GTable) (d:(List Str)):Option Bool :=
 (zGY c.fAxes b d).bind fun f =>
 some f
def zFq (b:GTable) (d:(List GField)) (h:Bool):Option (Int×Bool) :=
 (bif (b.fAxes.length:Int)==0 then
  (zE0 b.fEntries (fun c=>zFW c d)).bind fun i =>
  some (i,true)
 else
  (zEG b.fAxes d h).bind fun f =>
  (bif !f.2 then
   some ((-1),false)
  else
   (zE0 b.fEntries (fun c=>zFQ c b f.1)).bind fun j =>
   some (j,true)))
def zBb (c:(List GAxis)) (d:(List Str)) (f:(List Str)) (b:Int):Option (Int ⊕ (Unit ⊕ Bool)) :=
  (bif decide (b<(c.length:Int)) then
   (xnth c b).bind fun h =>
   (xnth d b).bind fun i =>
   (xnth f b).bind fun j =>
   (zFm h.fName i j).bind fun k =>
   (bif !k then
    some (.inr (.inr false))
   else
    some (.inl (wr (b+1))))
  else
   some (.inr (.inl ())))
def zEy (b:(List GAxis)) (c:(List Str)) (d:(List Str)):Option Bool :=
 (bif (((c.length:Int) !=(b.length:Int))||((d.length:Int) !=(b.length:Int))) then
  some false
 else
  (zAG (zBb b c d) 0).bind fun f=>match f with
  | .inr e=>some e
  | .inl _ =>
   some true)
def zES (d:(List GAxis)) (c:GEntry) (f:(List Str)) (b:Int):Option (Int ⊕ (Unit ⊕ Bool)) :=
  (bif decide (b<(c.fKeys.length:Int)) then
   (xnth c.fKeys b).bind fun h =>
   (zEy d h f).bind fun i =>
   (bif i then
    some (.inr (.inr true))
   else
    some (.inl (wr (b+1))))
  else
   some (.inr (.inl ())))
def zH3 (b:(List GAxis)) (c:GEntry) (d:(List Str)):Option Bool :=
 (zAG (zES b c d) 0).bind fun f=>match f with
 | .inr e=>some e
 | .inl _ =>
  some false
def zDy (c:(List GAxis)):((List GAxis)×Int)→Option (((List GAxis)×Int) ⊕ (List GAxis))
 | (d,b) =>
  (bif decide (b<(c.length:Int)) then
   (xnth c b).bind fun f =>
   (zAU f.fValues).bind fun h =>
   (xapp d ([(⟨f.fName,h⟩:GAxis)]:List GAxis)).bind fun i =>
   some (.inl (i,wr (b+1)))
  else
   some (.inr d))
def zFg (b:(List GAxis)):Option (List GAxis) :=
 (zAG (zDy b) (([]:List GAxis),0)).bind fun c =>
 some c
def zC4 (c:GTable):(Int×(List GAxis)×(List GEntry))→Option ((Int×(List GAxis)×(List GEntry)) ⊕ ((List GAxis)×(List GEntry)))
 | (b,d,f) =>
  (bif decide (b<(c.fEntries.length:Int)) then
   (xnth c.fEntries b).bind fun h =>
   (zD6 h).bind fun i =>
   (xapp f ([i]:List GEntry)).bind fun j =>
   some (.inl (wr (b+1),d,j))
  else
   some (.inr (d,f)))
def zE6 (b:GTable):Option GTable :=
 (zFg b.fAxes).bind fun c =>
 (zAG (zC4 b) (0,c,([]:List GEntry))).bind fun d=>match d with
 | (f,h) =>
  some (⟨f,h⟩:GTable)
def zAO (c:(List GAxis)) (d:(List GAxis)) (f:(GAxis→GAxis→Option Bool)) (b:Int):Option (Int ⊕ (Unit ⊕ Bool)) :=
  (bif decide (b<(c.length:Int)) then
   (xnth c b).bind fun h =>
   (xnth d b).bind fun i =>
   (f h i).bind fun j =>
   (bif !j then
    some (.inr (.inr false))
   else
    some (.inl (wr (b+1))))
  else
   some (.inr (.inl ())))
def zAX (b:(List GAxis)) (c:(List GAxis)) (d:(GAxis→GAxis→Option Bool)):Option Bool :=
 (bif (b.length:Int) !=(c.length:Int) then
  some false
 else
  (zAG (zAO b c d) 0).bind fun f=>match f with
  | .inr e=>some e
  | .inl _ =>
   some true)
def zDJ (b:GAxis) (c:GAxis):Option Bool :=
 (bif b.fName==c.fName then
  (zAa b.fValues c.fValues).bind fun d =>
  some (d)
 else
  some false).bind fun f =>
 some f
def zEN (b:(List GAxis)) (c:(List GAxis)):Option Bool :=
 (zAX b c zDJ).bind fun d =>
 some d
def zCE (b:(List Str)) (c:(List GAxis)) (d:GEntry):Option Bool :=
 (zGY c d b).bind fun f =>
 some f
def zC3 (d:(List GAxis)) (b:GEntry) (c:GEntry):Option Bool :=
 (bif (d.length:Int)==0 then
  (zAa b.fVary c.fVary).bind fun f =>
  (bif f then
   (zAa b.fSnapshot c.fSnapshot).bind fun h =>
   some (h)
  else
   some false).bind fun i =>
  some i
 else
  (zAV b.fKeys (fun j=>zCE j d c)).bind fun k =>
  some k)
def zFI (b:GEntry) (c:(List GAxis)) (d:GEntry):Option Bool :=
 (zC3 c d b).bind fun f =>
 some f
def zAP (c:(List GEntry)) (d:(GEntry→Option Bool)) (b:Int):Option (Int ⊕ (Unit ⊕ Int)) :=
  (bif decide (b<(c.length:Int)) then
   (xnth c b).bind fun f =>
   (d f).bind fun h =>
   (bif h then
    some (.inr (.inr b))
   else
    some (.inl (wr (b+1))))
  else
   some (.inr (.inl ())))
def zAk (b:(List GEntry)) (c:(GEntry→Option Bool)):Option Int :=
 (zAG (zAP b c) 0).bind fun d=>match d with
 | .inr e=>some e
 | .inl _ =>
  some (-1)
def zCh (c:GEntry) (b:Int):Option (Int ⊕ (Unit ⊕ Bool)) :=
  (bif decide (b<(c.fVary.length:Int)) then
   (xnth c.fVary (wr (b - 1))).bind fun d =>
   (xnth c.fVary b).bind fun f =>
   (bif !(Op.bytesLess d f) then
    some (.inr (.inr false))
   else
    some (.inl (wr (b+1))))
  else
   some (.inr (.inl ())))
def zFU (b:GEntry):Option Bool :=
 (bif ((decide (0<(b.fKeys.length:Int)))||((b.fVary.length:Int) !=(b.fSnapshot.length:Int))) then
  some false
 else
  (zAG (zCh b) 1).bind fun c=>match c with
  | .inr e=>some e
  | .inl _ =>
   some true)
def zBq (c:(List GAxis)) (d:(List Str)) (b:Int):Option (Int ⊕ (Unit ⊕ (Int ⊕ (Unit ⊕ Bool)))) :=
  (bif decide (b<(c.length:Int)) then
   (xnth c b).bind fun f =>
   (xnth d b).bind fun h =>
   (zAc f.fValues h).bind fun i =>
   (bif !i then
    some (.inr (.inr (.inr (.inr false))))
   else
    some (.inl (wr (b+1))))
  else
   some (.inr (.inl ())))
def zCO (c:(List GAxis)) (d:GEntry) (b:Int):Option (Int ⊕ (Unit ⊕ Bool)) :=
  (bif decide (b<(d.fKeys.length:Int)) then
   (xnth d.fKeys b).bind fun f =>
   (bif (f.length:Int) !=(c.length:Int) then
    some (.inr (.inr false))
   else
    (zAG (zBq c f) 0).bind fun h=>match h with
    | .inr e=>some e
    | .inl _ =>
     some (.inl (wr (b+1))))
  else
   some (.inr (.inl ())))
def zGM (c:(List GAxis)) (b:GEntry):Option Bool :=
 (bif (((decide ((b.fKeys.length:Int)<1))||(decide (64<(b.fKeys.length:Int))))||(decide (0<(wr ((b.fVary.length:Int)+(b.fSnapshot.length:Int)))))) then
  some false
 else
  (zAG (zCO c b) 0).bind fun d=>match d with
  | .inr e=>some e
  | .inl _ =>
   some true)
def zEz (b:GEntry) (c:GTable) (d:GEntry):Option Bool :=
 (zC3 c.fAxes d b).bind fun f =>
 some f
def zCN (b:GTable) (c:Int):Option (Int ⊕ (Unit ⊕ Bool)) :=
  (bif decide (c<(b.fEntries.length:Int)) then
   (xnth b.fEntries c).bind fun d =>
   (bif (b.fAxes.length:Int)==0 then
    (zFU d).bind fun f =>
    (bif !f then
     some (.inr (.inr false))
    else
     some (.inl (wr (c+1))))
   else
    (zGM b.fAxes d).bind fun h =>
    (bif !h then
     some true
    else
     (xsub b.fEntries 0 c).bind fun i =>
     (zE0 i (fun j=>zEz j b d)).bind fun k =>
     some (decide (0≤k))).bind fun l =>
    (bif l then
     some (.inr (.inr false))
    else
     some (.inl (wr (c+1)))))
  else
   some (.inr (.inl ())))
def zEA (b:GTable) (c:Int):Option Bool :=
 (bif decide (c<(b.fEntries.length:Int)) then
  some true
 else
  (bif decide (0<(b.fAxes.length:Int)) then
   (zCK b.fAxes).bind fun d =>
   some (!d)
  else
   some false).bind fun f =>
  some (f)).bind fun h =>
 (bif h then
  some false
 else
  (zAG (zCN b) 0).bind fun i=>match i with
  | .inr e=>some e
  | .inl _ =>
   some true)
def zEU (c:GTable):(Int×(List GAxis)×(List GEntry))→Option ((Int×(List GAxis)×(List GEntry)) ⊕ ((List GAxis)×(List GEntry)))
 | (b,d,f) =>
  (bif decide (b<(c.fAxes.length:Int)) then
   (xnth c.fAxes b).bind fun h =>
   (xnth c.fAxes b).bind fun i =>
   (xapp ([]:List Str) i.fValues).bind fun j =>
   (xapp d ([(⟨h.fName,j⟩:GAxis)]:List GAxis)).bind fun k =>
   some (.inl (wr (b+1),k,f))
  else
   some (.inr (d,f)))
def zEZ (c:GTable):(Int×(List GAxis)×(List GEntry))→Option ((Int×(List GAxis)×(List GEntry)) ⊕ ((List GAxis)×(List GEntry)))
 | (b,d,f) =>
  (bif decide (b<(c.fEntries.length:Int)) then
   (xnth c.fEntries b).bind fun h =>
   (zEK h).bind fun i =>
   (xapp f ([i]:List GEntry)).bind fun j =>
   some (.inl (wr (b+1),d,j))
  else
   some (.inr (d,f)))
def zHu (b:GTable):Option GTable :=
 (zAG (zEU b) (0,([]:List GAxis),([]:List GEntry))).bind fun c=>match c with
 | (d,f) =>
  (zAG (zEZ b) (0,d,f)).bind fun h=>match h with
  | (i,j) =>
   some (⟨i,j⟩:GTable)
def zBz (d:(List GAxis)) (c:GEntry) (f:GEntry) (b:Int):Option (Int ⊕ (Unit ⊕ Bool)) :=
  (bif decide (b<(c.fKeys.length:Int)) then
   (xnth c.fKeys b).bind fun h =>
   (zH3 d f h).bind fun i =>
   (bif i then
    some (.inr (.inr true))
   else
    some (.inl (wr (b+1))))
  else
   some (.inr (.inl ())))
def zEH (d:(List GAxis)) (b:GEntry) (c:GEntry):Option Bool :=
 (bif (d.length:Int)==0 then
  (zAs b.fVary c.fVary).bind fun f =>
  (bif f then
   (zAs b.fSnapshot c.fSnapshot).bind fun h =>
   some (h)
  else
   some false).bind fun i =>
  some i
 else
  (zAG (zBz d b c) 0).bind fun j=>match j with
  | .inr e=>some e
  | .inl _ =>
   some false)
def zB3 (c:GTable) (d:GTable) (b:Int):Option (Int ⊕ (Unit ⊕ Bool)) :=
  (bif decide (b<(c.fEntries.length:Int)) then
   (xnth c.fEntries b).bind fun f =>
   (xnth d.fEntries b).bind fun h =>
   (zGC f h).bind fun i =>
   (bif !i then
    some (.inr (.inr false))
   else
    some (.inl (wr (b+1))))
  else
   some (.inr (.inl ())))
def zDF (b:GTable) (c:GTable):Option Bool :=
 (zGF b.fAxes c.fAxes).bind fun d =>
 (bif ((!d)||((b.fEntries.length:Int) !=(c.fEntries.length:Int))) then
  some false
 else
  (zAG (zB3 b c) 0).bind fun f=>match f with
  | .inr e=>some e
  | .inl _ =>
   some true)
def zDY (c:GTable):(Int×Int)→Option ((Int×Int) ⊕ Int)
 | (d,b) =>
  (bif decide (b<(c.fEntries.length:Int)) then
   (xnth c.fEntries b).bind fun f =>
   (zG3 f).bind fun h =>
   some (.inl (wr (d+h),wr (b+1)))
  else
   some (.inr d))
def zGw (b:GTable):Option Int :=
 (zAG (zDY b) (0,0)).bind fun c =>
 some c
def zBl (c:GTable):(Int×Int)→Option ((Int×Int) ⊕ Int)
 | (d,b) =>
  (bif decide (b<(c.fEntries.length:Int)) then
   (xnth c.fEntries b).bind fun f =>
   (zG2 f).bind fun h =>
   some (.inl (wr (d+h),wr (b+1)))
  else
   some (.inr d))
def zDu (b:GTable):Option Int :=
 (zAG (zBl b) (0,0)).bind fun c =>
 some c
def zBU (c:GEntry) (b:Int):Option (Int ⊕ (Unit ⊕ Bool)) :=
  (bif decide (b<(c.fVary.length:Int)) then
   (xnth c.fVary (wr (b - 1))).bind fun d =>
   (xnth c.fVary b).bind fun f =>
   (bif !(Op.bytesLess d f) then
    some (.inr (.inr false))
   else
    some (.inl (wr (b+1))))
  else
   some (.inr (.inl ())))
def zA5 (d:(List GAxis)) (h:GEntry) (i:Int) (b:Int):(Bool×Int)→Option ((Bool×Int) ⊕ Bool)
 | (f,c) =>
  (xnth d b).bind fun j =>
  (bif decide (c<(j.fValues.length:Int)) then
   (bif f then
    some true
   else
    (xnth d b).bind fun k =>
    (xnth k.fValues c).bind fun l =>
    (xnth h.fKeys i).bind fun o =>
    (xnth o b).bind fun p =>
    some (l==p)).bind fun q =>
   some (.inl (q,wr (c+1)))
  else
   some (.inr f))
def zAu (c:(List GAxis)) (d:GEntry) (f:Int) (b:Int):Option (Int ⊕ (Unit ⊕ (Int ⊕ (Unit ⊕ Bool)))) :=
  (bif decide (b<(c.length:Int)) then
   (zAG (zA5 c d f b) (false,0)).bind fun h =>
   (bif !h then
    some (.inr (.inr (.inr (.inr false))))
   else
    some (.inl (wr (b+1))))
  else
   some (.inr (.inl ())))
def zA6 (d:(List GAxis)) (c:GEntry) (b:Int):Option (Int ⊕ (Unit ⊕ Bool)) :=
  (bif decide (b<(c.fKeys.length:Int)) then
   (xnth c.fKeys b).bind fun f =>
   (bif (f.length:Int) !=(d.length:Int) then
    some (.inr (.inr false))
   else
    (zAG (zAu d c b) 0).bind fun h=>match h with
    | .inr e=>some e
    | .inl _ =>
     some (.inl (wr (b+1))))
  else
   some (.inr (.inl ())))
def zDD (c:(List GAxis)) (b:GEntry):Option Bool :=
 (bif (c.length:Int)==0 then
  (zAG (zBU b) 1).bind fun d=>match d with
  | .inr e=>some e
  | .inl _ =>
   some (((b.fKeys.length:Int)==0)&&((b.fVary.length:Int)==(b.fSnapshot.length:Int)))
 else
  (bif (((decide ((b.fKeys.length:Int)<1))||(decide (64<(b.fKeys.length:Int))))||(decide (0<(wr ((b.fVary.length:Int)+(b.fSnapshot.length:Int)))))) then
   some false
  else
   (zAG (zA6 c b) 0).bind fun f=>match f with
   | .inr e=>some e
   | .inl _ =>
    some true))
def zBN (b:GTable) (d:Int) (c:Int):Option (Int ⊕ (Unit ⊕ (Int ⊕ (Unit ⊕ Bool)))) :=
  (bif ((decide (c<d))&&(decide (0<(b.fAxes.length:Int)))) then
   (xnth b.fEntries d).bind fun f =>
   (xnth b.fEntries c).bind fun h =>
   (zEH b.fAxes f h).bind fun i =>
   (bif i then
    some (.inr (.inr (.inr (.inr false))))
   else
    some (.inl (wr (c+1))))
  else
   some (.inr (.inl ())))
def zCJ (b:GTable) (c:Int):Option (Int ⊕ (Unit ⊕ Bool)) :=
  (bif decide (c<(b.fEntries.length:Int)) then
   (xnth b.fEntries c).bind fun d =>
   (zDD b.fAxes d).bind fun f =>
   (bif !f then
    some (.inr (.inr false))
   else
    (zAG (zBN b c) 0).bind fun h=>match h with
    | .inr e=>some e
    | .inl _ =>
     some (.inl (wr (c+1))))
  else
   some (.inr (.inl ())))
def zGL (b:GTable) (c:Int):Option Bool :=
 (bif decide (c<(b.fEntries.length:Int)) then
  some true
 else
  (bif decide (0<(b.fAxes.length:Int)) then
   (zGH b.fAxes).bind fun d =>
   some (!d)
  else
   some false).bind fun f =>
  some (f)).bind fun h =>
 (bif h then
  some false
 else
  (zAG (zCJ b) 0).bind fun i=>match i with
  | .inr e=>some e
  | .inl _ =>
   some true)
def zAQ (b:(List GEntry)) (c:(GEntry→Option Bool)):Option (List GEntry) :=
 (zAk b c).bind fun i=>delR b c i
def zE3 (f:GTable) (h:GEntry) (d:(List GAxis)) (b:Int):Option GTable :=
 (zE6 f).bind fun i =>
 (zEN f.fAxes d).bind fun j =>
 ((bif !j then
  (zFg d).bind fun k =>
  some (k,([]:List GEntry))
 else
  some (i.fAxes,i.fEntries))).bind fun (l:((List GAxis)×(List GEntry))) =>
 match l with
 | (o,p) =>
  (zAQ p (fun q=>zFI q d h)).bind fun r =>
  (zD6 h).bind fun t =>
  (xapp r ([t]:List GEntry)).bind fun c =>
  (xsub c (if (wr ((c.length:Int) - (if b<0 then 0 else b)))<0 then 0 else (wr ((c.length:Int) - (if b<0 then 0 else b)))) c.length).bind fun u =>
  some (⟨o,u⟩:GTable)
def zF9:Option Bool :=
 (zE3 (⟨([]:List GAxis),([]:List GEntry)⟩:GTable) (⟨([([[101,110]]:List Str),([[102,114]]:List Str)]:List (List Str)),([]:List Str),([]:List Str),[],([]:List GField),[49],0,0⟩:GEntry) ([(⟨[97,99,99,101,112,116,45,108,97,110,103,117,97,103,101],([[101,110],[102,114]]:List Str)⟩:GAxis)]:List GAxis) 5).bind fun d =>
 (zE3 d (⟨([([[102,114]]:List Str)]:List (List Str)),([]:List Str),([]:List Str),[],([]:List GField),[50],0,0⟩:GEntry) ([(⟨[97,99,99,101,112,116,45,108,97,110,103,117,97,103,101],([[101,110],[102,114]]:List Str)⟩:GAxis)]:List GAxis) 5).bind fun b =>
 (zFq b ([(⟨[65,99,99,101,112,116,45,76,97,110,103,117,97,103,101],[101,110]⟩:GField)]:List GField) true).bind fun c =>
 (bif (b.fEntries.length:Int)==1 then
  (xnth b.fEntries 0).bind fun f =>
  some (f.fBody==[50])
 else
  some false).bind fun h =>
 (bif ((h&&(c.1==(-1)))&&c.2) then
  (zEA b 5).bind fun i =>
  some (i)
 else
  some false).bind fun j =>
 some j
end
end Go.Eng.Pure
