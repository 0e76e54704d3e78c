/- A part of the proof of laws of the seat: written by program over the translation. -/
import Derived.Test.YtipgfplekgdoiaaGreatDoorPure2
set_option linter.unusedVariables false
namespace Go.Eng.Pure
open Go Go.Eng
set_option linter.unusedVariables false
noncomputable def zFw (b:Int) (c:Str) (d:Str):Option Int :=
 (bif c==[42] then
  some 0
 else
  (zBD b c).bind fun f =>
  (zBD b d).bind fun h =>
  (bif f==h then
   some 1
  else
   some (-1)))
noncomputable def zF0 (b:Int) (d:Str) (c:Str):Option Int :=
 ((bif b==1 then
  (zBC d).bind fun f =>
  (zCz c).bind fun h =>
  (bif ((!f.2)||(!h.2)) then
   some (.inr (-1))
  else
   (zEJ f.1 h.1).bind fun i =>
   some (.inr i))
 else
  (bif b==2 then
   (zEl d c).bind fun j =>
   some (.inr j)
  else
   ((bif b==3 then
    some (b==3)
   else
    some (b==4))).bind fun (k:Bool) =>
   (bif k then
    (zA0 d).bind fun l =>
    (bif !l then
     some true
    else
     (zA0 c).bind fun o =>
     some (!o)).bind fun p =>
    (bif (p||(c==[42])) then
     some (.inr (-1))
    else
     (zFw b d c).bind fun q =>
     some (.inr q))
   else
    some (.inl ()))))).bind fun (r:(Unit ⊕ Int))=>match r with
 | .inr e=>some e
 | .inl _ =>
  some (-1)
noncomputable def zC2 (j:Int) (d:(List GPref)) (k:Str):(Int×Int×Int)→Option ((Int×Int×Int) ⊕ (Int×Int))
 | (c,f,b) =>
  (bif decide (b<(d.length:Int)) then
   (xnth d b).bind fun h =>
   (zF0 j h.fRange k).bind fun i =>
   (bif decide (c<i) then
    some (.inl (i,h.fQ,wr (b+1)))
   else
    some (.inl (c,f,wr (b+1))))
  else
   some (.inr (c,f)))
noncomputable def zE1 (b:Int) (d:(List GPref)) (f:Bool) (c:Str):Option Int :=
 (bif !f then
  some 1000
 else
  (zAF (zC2 b d c) ((-1),0,0)).bind fun h=>match h with
  | (i,j) =>
   (bif ((decide (i<0))&&(b==4)) then
    (zDI c [105,100,101,110,116,105,116,121]).bind fun k =>
    some (k)
   else
    some false).bind fun l =>
   (bif l then
    some 1
   else
    some j))
noncomputable def zD1 (c:(List Int)) (d:Int) (b:Int):Option (Int ⊕ Int) :=
  (bif decide (0<b) then
   (xnth c (wr (b - 1))).bind fun f =>
   some (decide (f<d))
  else
   some false).bind fun h =>
  (bif h then
   some (.inl (wr (b - 1)))
  else
   some (.inr b))
noncomputable def zCL (k:Int) (l:(List GPref)) (o:Bool) (h:(List Str)):((List Str)×(List Int)×Int)→Option (((List Str)×(List Int)×Int) ⊕ (List Str))
 | (d,b,c) =>
  (bif decide (c<(h.length:Int)) then
   (xnth h c).bind fun i =>
   (zE1 k l o i).bind fun f =>
   (bif decide (f≤0) then
    some (.inl (d,b,wr (c+1)))
   else
    (zAF (zD1 b f) (b.length:Int)).bind fun j =>
    (insS d j ([i]:List Str)).bind fun p =>
    (insS b j ([f]:List Int)).bind fun q =>
    some (.inl (p,q,wr (c+1))))
  else
   some (.inr d))
noncomputable def zGa (b:Int) (c:(List GPref)) (d:Bool) (f:(List Str)):Option (List Str) :=
 (zAF (zCL b c d f) (([]:List Str),([]:List Int),0)).bind fun h =>
 some h
noncomputable def zAZ (b:(List Str)):Option (List Str) :=
 xapp [] b
noncomputable def zAk (b:(List GField)):Option (List GField) :=
 xapp [] b
noncomputable def zDm (c:GEntry):(Int×(List (List Str))×(List Str)×(List Str)×Str×(List GField)×Str×Int×Int)→Option ((Int×(List (List Str))×(List Str)×(List Str)×Str×(List GField)×Str×Int×Int) ⊕ ((List (List Str))×(List Str)×(List Str)×Str×(List GField)×Str×Int×Int))
 | (b,d,f,h,i,j,k,l,o) =>
  (bif decide (b<(c.fKeys.length:Int)) then
   (xnth c.fKeys b).bind fun p =>
   (zAZ p).bind fun q =>
   (xapp d ([q]:List (List Str))).bind fun r =>
   some (.inl (wr (b+1),r,f,h,i,j,k,l,o))
  else
   some (.inr (d,f,h,i,j,k,l,o)))
noncomputable def zEc (b:GEntry):Option GEntry :=
 (zAF (zDm b) (0,([]:List (List Str)),b.fVary,b.fSnapshot,b.fReason,b.fFields,b.fBody,b.fRequested,b.fReceived)).bind fun c=>match c with
 | (d,f,h,i,j,k,l,o) =>
  (zAZ f).bind fun p =>
  (zAZ h).bind fun q =>
  (zAk j).bind fun r =>
  some (⟨d,p,q,i,r,k,l,o⟩:GEntry)
noncomputable def zFr (c:(List GAxis)) (b:Int):Option (Int ⊕ (Unit ⊕ Bool)) :=
  (bif ((decide (b<(c.length:Int)))&&(decide (b<7))) then
   (xnth c b).bind fun d =>
   (bif decide (100<(d.fName.length:Int)) then
    some true
   else
    (xnth c b).bind fun f =>
    (zC5 f.fValues).bind fun h =>
    some (!h)).bind fun i =>
   (bif i then
    some (.inr (.inr false))
   else
    some (.inl (wr (b+1))))
  else
   some (.inr (.inl ())))
noncomputable def zIU (b:(List GAxis)):Option Bool :=
 (zAF (zFr b) 0).bind fun c=>match c with
 | .inr e=>some e
 | .inl _ =>
  some (decide ((b.length:Int)≤6))
noncomputable def zFH (c:GTable) (b:Int):Option (Int ⊕ (Unit ⊕ Bool)) :=
  (bif ((decide (b<(c.fEntries.length:Int)))&&(decide (b<9))) then
   (xnth c.fEntries b).bind fun d =>
   (zHr d).bind fun f =>
   (bif !f then
    some (.inr (.inr false))
   else
    some (.inl (wr (b+1))))
  else
   some (.inr (.inl ())))
noncomputable def zHj (b:GTable):Option Bool :=
 (zAF (zFH b) 0).bind fun c=>match c with
 | .inr e=>some e
 | .inl _ =>
  (bif decide ((b.fEntries.length:Int)≤8) then
   (zIU b.fAxes).bind fun d =>
   some (d)
  else
   some false).bind fun f =>
  some f
noncomputable def zFt (b:GEntry) (c:(List GField)):Option Bool :=
 (zHi b.fVary b.fSnapshot c).bind fun d =>
 some d
noncomputable def zDL (c:(List GEntry)) (d:(GEntry→Option Bool)) (b:Int):Option (Int ⊕ (Unit ⊕ Int)) :=
  (bif decide (0≤b) then
   (xnth c b).bind fun f =>
   (d f).bind fun h =>
   (bif h then
    some (.inr (.inr b))
   else
    some (.inl (wr (b - 1))))
  else
   some (.inr (.inl ())))
noncomputable def zFT (b:(List GEntry)) (c:(GEntry→Option Bool)):Option Int :=
 (zAF (zDL b c) (wr ((b.length:Int) - 1))).bind fun d=>match d with
 | .inr e=>some e
 | .inl _ =>
  some (-1)
noncomputable def zCN (b:GParam):Option Bool :=
 some (b.fName==[113])
noncomputable def zH9 (c:Str):((List UInt8)×Int)→Option (((List UInt8)×Int) ⊕ (List UInt8))
 | (d,b) =>
  (bif decide (b<(c.length:Int)) then
   (xnth c b).bind fun f =>
   (bif f==34 then
    some true
   else
    (xnth c b).bind fun h =>
    some (h==92)).bind fun i =>
   ((bif i then
    (xapp d ([92]:List UInt8)).bind fun j =>
    some j
   else
    some d)).bind fun (k:(List UInt8)) =>
   (xnth c b).bind fun l =>
   (xapp k ([l]:List UInt8)).bind fun o =>
   some (.inl (o,wr (b+1)))
  else
   some (.inr d))
noncomputable def zIO (b:Str):Option Str :=
 (zAF (zH9 b) (([34]:List UInt8),0)).bind fun c =>
 (xapp c ([34]:List UInt8)).bind fun d =>
 some d
noncomputable def zC3 (d:(List GParam)):(Int×(List UInt8))→Option ((Int×(List UInt8)) ⊕ (List UInt8))
 | (b,f) =>
  (bif decide (b<(d.length:Int)) then
   (xnth d b).bind fun c =>
   (xcat [59] c.fName).bind fun i =>
   (xcat i [61]).bind fun j =>
   (zAN j f).bind fun h =>
   (zA0 c.fValue).bind fun k =>
   (bif k then
    (zAN c.fValue h.2.2).bind fun l =>
    some (.inl (wr (b+1),l.2.2))
   else
    (zIO c.fValue).bind fun o =>
    (zAN o h.2.2).bind fun p =>
    some (.inl (wr (b+1),p.2.2)))
  else
   some (.inr f))
noncomputable def zF4 (b:Str) (c:(List GParam)):Option Str :=
 (zAN b ([]:List UInt8)).bind fun d =>
 (zAF (zC3 c) (0,d.2.2)).bind fun f =>
 (zBK f).bind fun h =>
 some h
noncomputable def zDo (b:GMediaType):Option Str :=
 (xcat b.fType [47]).bind fun c =>
 (xcat c b.fSub).bind fun d =>
 (zF4 d b.fParams).bind fun f =>
 some f
noncomputable def zFk (c:Str) (d:(List GParam)):Option (Str×Bool) :=
 (zBC c).bind fun b =>
 (zDo (⟨b.1.fType,b.1.fSub,d⟩:GMediaType)).bind fun f =>
 some (f,b.2)
noncomputable def zFi (c:Int) (b:Str) (d:(List GParam)):Option (Str×Bool) :=
 (zBD c b).bind fun f =>
 (zDk b).bind fun h =>
 some (f,(h&&((d.length:Int)==0)))
noncomputable def zFI (b:Int) (c:Str) (d:(List GParam)):Option (Str×Bool) :=
 (bif decide (b=1) then
  (zFk c d).bind fun f =>
  some (f.1,f.2)
 else
  (bif decide (b=2) then
   (zFi b c d).bind fun h =>
   some (h.1,h.2)
  else
   (zBD b c).bind fun i =>
   (zA0 c).bind fun j =>
   some (i,(j&&((d.length:Int)==0)))))
noncomputable def zGf (h:Int) (i:Str):Option (GPref×Bool) :=
 (zFa i).bind fun b =>
 (bif !b.2.2 then
  some ((⟨[],0⟩:GPref),false)
 else
  (zAT b.2.1 zCN).bind fun c =>
  ((bif decide (0≤c) then
   (xnth b.2.1 c).bind fun j =>
   (zB3 j.fValue).bind fun d =>
   (bif !d.2 then
    some (.inr ((⟨[],0⟩:GPref),false))
   else
    (xsub b.2.1 0 c).bind fun k =>
    some (.inl (k,d.1)))
  else
   some (.inl (b.2.1,1000)))).bind fun (l:(((List GParam)×Int) ⊕ (GPref×Bool)))=>match l with
  | .inr e=>some e
  | .inl (o,p) =>
   (zFI h b.1 o).bind fun f =>
   some ((⟨f.1,p⟩:GPref),f.2))
noncomputable def zCv (h:Int) (d:(List Str)):((List GPref)×Int)→Option (((List GPref)×Int) ⊕ (List GPref))
 | (c,b) =>
  (bif decide (b<(d.length:Int)) then
   (xnth d b).bind fun i =>
   (zGf h i).bind fun f =>
   (bif f.2 then
    (xapp c ([f.1]:List GPref)).bind fun j =>
    some (.inl (j,wr (b+1)))
   else
    some (.inl (c,wr (b+1))))
  else
   some (.inr c))
noncomputable def zEw (c:Int) (d:(List GField)):Option ((List GPref)×Bool) :=
 (zBV c).bind fun b =>
 (bif b==[] then
  some true
 else
  (zDB d b).bind fun f =>
  some (!f)).bind fun h =>
 (bif h then
  some (([]:List GPref),false)
 else
  (zEA d b).bind fun i =>
  (zAF (zCv c i) (([]:List GPref),0)).bind fun j =>
  some (j,true))
noncomputable def zAf (c:(List Str)) (d:Str) (b:Int):Option (Int ⊕ (Unit ⊕ Int)) :=
  (bif decide (b<(c.length:Int)) then
   (xnth c b).bind fun f =>
   (bif d==f then
    some (.inr (.inr b))
   else
    some (.inl (wr (b+1))))
  else
   some (.inr (.inl ())))
noncomputable def zBq (b:(List Str)) (c:Str):Option Int :=
 (zAF (zAf b c) 0).bind fun d=>match d with
 | .inr e=>some e
 | .inl _ =>
  some (-1)
noncomputable def zAg (b:(List Str)) (c:Str):Option Bool :=
 (zBq b c).bind fun d =>
 some (decide (0≤d))
noncomputable def zDp (b:GAxis) (d:(List GField)) (j:Bool):Option (List Str) :=
 (zBd ([b]:List GAxis)).bind fun k =>
 (bif !k then
  some ([]:List Str)
 else
  (zEg b.fName).bind fun c =>
  ((bif c !=0 then
   (zEw c d).bind fun f =>
   (zGa c f.1 f.2 b.fValues).bind fun l =>
   some l
  else
   (zEA d b.fName).bind fun o =>
   (zGP o).bind fun h =>
   (zAg b.fValues h).bind fun p =>
   (bif p then
    some ([h]:List Str)
   else
    some ([]:List Str)))).bind fun (i:(List Str)) =>
  ((bif (((i.length:Int)==0)&&(!j)) then
   (xnth b.fValues 0).bind fun q =>
   some ([q]:List Str)
  else
   some i)).bind fun (r:(List Str)) =>
  some r)
noncomputable def zBi (d:(List GAxis)) (h:(List GField)) (i:Bool):(Int×(List (List Str)))→Option ((Int×(List (List Str))) ⊕ ((List (List Str)) ⊕ (List (List Str))))
 | (b,c) =>
  (bif decide (b<(d.length:Int)) then
   (xnth d b).bind fun j =>
   (zDp j h i).bind fun k =>
   (xnth c b).bind fun o =>
   (xput c b k).bind fun f =>
   (xnth f b).bind fun l =>
   (bif (l.length:Int)==0 then
    some (.inr (.inr ([]:List (List Str))))
   else
    some (.inl (wr (b+1),f)))
  else
   some (.inr (.inl c)))
noncomputable def zBh (f:(List (List Str))) (d:(List Int)):(Int×(List Str))→Option ((Int×(List Str)) ⊕ (List Str))
 | (b,c) =>
  (bif decide (b<(d.length:Int)) then
   (xnth d b).bind fun h =>
   (xnth f b).bind fun i =>
   (xnth i h).bind fun j =>
   (xnth c b).bind fun l =>
   (xput c b j).bind fun k =>
   some (.inl (wr (b+1),k))
  else
   some (.inr c))
noncomputable def zBg (d:(List (List Str))):(Int×(List Int))→Option ((Int×(List Int)) ⊕ (Int×(List Int)))
 | (b,c) =>
  (bif decide (0≤b) then
   (xnth c b).bind fun f =>
   (xnth d b).bind fun h =>
   some (f==(wr ((h.length:Int) - 1)))
  else
   some false).bind fun i =>
  (bif i then
   (xnth c b).bind fun k =>
   (xput c b 0).bind fun j =>
   some (.inl (wr (b - 1),j))
  else
   some (.inr (b,c)))
noncomputable def zBJ (j:(List GAxis)) (k:Int) (h:(List (List Str))):((List (List Str))×(List Int))→Option (((List (List Str))×(List Int)) ⊕ (List (List Str)))
 | (c,d) =>
  (bif decide ((c.length:Int)<k) then
   (xmake (j.length:Int) ([]:Str)).bind fun l =>
   (zAF (zBh h d) (0,l)).bind fun o =>
   (xapp c ([o]:List (List Str))).bind fun i =>
   (zAF (zBg h) (wr ((d.length:Int) - 1),d)).bind fun p=>match p with
   | (b,f) =>
    (bif decide (b<0) then
     some (.inr i)
    else
     (xnth f b).bind fun q =>
     (xnth f b).bind fun t =>
     (xput f b (wr (q+1))).bind fun r =>
     some (.inl (i,r)))
  else
   some (.inr c))
noncomputable def zGB (b:(List GAxis)) (c:(List GField)) (d:Bool) (f:Int):Option (List (List Str)) :=
 (zBd b).bind fun h =>
 (bif !h then
  some ([]:List (List Str))
 else
  (xmake (b.length:Int) (([]:List Str):(List Str))).bind fun i =>
  (zAF (zBi b c d) (0,i)).bind fun j=>match j with
  | .inr e=>some e
  | .inl k =>
   (xmake (b.length:Int) (0:Int)).bind fun l =>
   (zAF (zBJ b f k) (([]:List (List Str)),l)).bind fun o =>
   some o)
noncomputable def zEn (c:(List GAxis)) (d:(List GField)) (f:Bool):Option ((List Str)×Bool) :=
 (zGB c d f 1).bind fun b =>
 (bif (b.length:Int)==0 then
  some (([]:List Str),false)
 else
  (xnth b 0).bind fun h =>
  some (h,true))
noncomputable def zDS (c:Str) (d:Str) (f:(List GAxis)) (b:Int):Option (Bool×Int) :=
 (xnth f (wr (b+1))).bind fun h =>
 (zEP h.fName c d).bind fun i =>
 some (i,wr (b+1))
noncomputable def zAM (d:(List Str)) (h:(List Str)) (i:(List GAxis)):(Int×Int)→Option ((Int×Int) ⊕ (Int ⊕ (Bool×Int)))
 | (b,f) =>
  (bif decide (b<(d.length:Int)) then
   (xnth d b).bind fun j =>
   (xnth h b).bind fun k =>
   (zDS j k i f).bind fun c =>
   (bif !c.1 then
    some (.inr (.inr (false,c.2)))
   else
    some (.inl (wr (b+1),c.2)))
  else
   some (.inr (.inl f)))
noncomputable def zAs (b:(List Str)) (c:(List Str)) (f:(List GAxis)) (d:Int):Option (Bool×Int) :=
 (bif (b.length:Int) !=(c.length:Int) then
  some (false,d)
 else
  (zAF (zAM b c f) (0,d)).bind fun h=>match h with
  | .inr e=>some e
  | .inl i =>
   some (true,i))
noncomputable def zEK (b:(List GAxis)) (c:(List Str)) (d:(List Str)):Option Bool :=
 (bif (c.length:Int) !=(b.length:Int) then
  some false
 else
  (zAs c d b (-1)).bind fun f =>
  some f.1)
noncomputable def zFd (b:(List Str)) (c:(List GAxis)) (d:(List Str)):Option Bool :=
 (zEK c b d).bind fun f =>
 some f
noncomputable def zHd (b:(List GAxis)) (c:GEntry) (d:(List Str)):Option Bool :=
 (zAO c.fKeys (fun f=>zFd f b d)).bind fun h =>
 some h
noncomputable def zFq (b:GEntry) (c:GTable) (d:(List Str)):Option Bool :=
 (zHd c.fAxes b d).bind fun f =>
 some f
noncomputable def zFW (b:GTable) (d:(List GField)) (h:Bool):Option (Int×Bool) :=
 (bif (b.fAxes.length:Int)==0 then
  (zFT b.fEntries (fun c=>zFt c d)).bind fun i =>
  some (i,true)
 else
  (zEn b.fAxes d h).bind fun f =>
  (bif !f.2 then
   some ((-1),false)
  else
   (zFT b.fEntries (fun c=>zFq c b f.1)).bind fun j =>
   some (j,true)))
noncomputable def zBs (c:(List GAxis)) (d:(List Str)) (f:(List Str)) (b:Int):Option (Int ⊕ (Unit ⊕ Bool)) :=
  (bif decide (b<(c.length:Int)) then
   (xnth c b).bind fun h =>
   (xnth d b).bind fun i =>
   (xnth f b).bind fun j =>
   (zGX h.fName i j).bind fun k =>
   (bif !k then
    some (.inr (.inr false))
   else
    some (.inl (wr (b+1))))
  else
   some (.inr (.inl ())))
noncomputable def zFL (b:(List GAxis)) (c:(List Str)) (d:(List Str)):Option Bool :=
 (bif (((c.length:Int) !=(b.length:Int))||((d.length:Int) !=(b.length:Int))) then
  some false
 else
  (zAF (zBs b c d) 0).bind fun f=>match f with
  | .inr e=>some e
  | .inl _ =>
   some true)
noncomputable def zSo (d:(List GAxis)) (c:GEntry) (f:(List Str)) (b:Int):Option (Int ⊕ (Unit ⊕ Bool)) :=
  (bif decide (b<(c.fKeys.length:Int)) then
   (xnth c.fKeys b).bind fun h =>
   (zFL d h f).bind fun i =>
   (bif i then
    some (.inr (.inr true))
   else
    some (.inl (wr (b+1))))
  else
   some (.inr (.inl ())))
noncomputable def zSw (b:(List GAxis)) (c:GEntry) (d:(List Str)):Option Bool :=
 (zAF (zSo b c d) 0).bind fun f=>match f with
 | .inr e=>some e
 | .inl _ =>
  some false
noncomputable def zEC (c:(List GAxis)):((List GAxis)×Int)→Option (((List GAxis)×Int) ⊕ (List GAxis))
 | (d,b) =>
  (bif decide (b<(c.length:Int)) then
   (xnth c b).bind fun f =>
   (zAZ f.fValues).bind fun h =>
   (xapp d ([(⟨f.fName,h⟩:GAxis)]:List GAxis)).bind fun i =>
   some (.inl (i,wr (b+1)))
  else
   some (.inr d))
noncomputable def zGc (b:(List GAxis)):Option (List GAxis) :=
 (zAF (zEC b) (([]:List GAxis),0)).bind fun c =>
 some c
noncomputable def zDY (c:GTable):(Int×(List GAxis)×(List GEntry))→Option ((Int×(List GAxis)×(List GEntry)) ⊕ ((List GAxis)×(List GEntry)))
 | (b,d,f) =>
  (bif decide (b<(c.fEntries.length:Int)) then
   (xnth c.fEntries b).bind fun h =>
   (zEc h).bind fun i =>
   (xapp f ([i]:List GEntry)).bind fun j =>
   some (.inl (wr (b+1),d,j))
  else
   some (.inr (d,f)))
noncomputable def zGk (b:GTable):Option GTable :=
 (zGc b.fAxes).bind fun c =>
 (zAF (zDY b) (0,c,([]:List GEntry))).bind fun d=>match d with
 | (f,h) =>
  some (⟨f,h⟩:GTable)
noncomputable def zAP (c:(List GAxis)) (d:(List GAxis)) (f:(GAxis→GAxis→Option Bool)) (b:Int):Option (Int ⊕ (Unit ⊕ Bool)) :=
  (bif decide (b<(c.length:Int)) then
   (xnth c b).bind fun h =>
   (xnth d b).bind fun i =>
   (f h i).bind fun j =>
   (bif !j then
    some (.inr (.inr false))
   else
    some (.inl (wr (b+1))))
  else
   some (.inr (.inl ())))
noncomputable def zAb (b:(List GAxis)) (c:(List GAxis)) (d:(GAxis→GAxis→Option Bool)):Option Bool :=
 (bif (b.length:Int) !=(c.length:Int) then
  some false
 else
  (zAF (zAP b c d) 0).bind fun f=>match f with
  | .inr e=>some e
  | .inl _ =>
   some true)
noncomputable def zDs (b:GAxis) (c:GAxis):Option Bool :=
 (bif b.fName==c.fName then
  (zAY b.fValues c.fValues).bind fun d =>
  some (d)
 else
  some false).bind fun f =>
 some f
noncomputable def zEh (b:(List GAxis)) (c:(List GAxis)):Option Bool :=
 (zAb b c zDs).bind fun d =>
 some d
noncomputable def zCX (b:(List Str)) (c:(List GAxis)) (d:GEntry):Option Bool :=
 (zHd c d b).bind fun f =>
 some f
noncomputable def zDc (d:(List GAxis)) (b:GEntry) (c:GEntry):Option Bool :=
 (bif (d.length:Int)==0 then
  (zAY b.fVary c.fVary).bind fun f =>
  (bif f then
   (zAY b.fSnapshot c.fSnapshot).bind fun h =>
   some (h)
  else
   some false).bind fun i =>
  some i
 else
  (zAO b.fKeys (fun j=>zCX j d c)).bind fun k =>
  some k)
noncomputable def zFg (b:GEntry) (c:(List GAxis)) (d:GEntry):Option Bool :=
 (zDc c d b).bind fun f =>
 some f
noncomputable def zAQ (c:(List GEntry)) (d:(GEntry→Option Bool)) (b:Int):Option (Int ⊕ (Unit ⊕ Int)) :=
  (bif decide (b<(c.length:Int)) then
   (xnth c b).bind fun f =>
   (d f).bind fun h =>
   (bif h then
    some (.inr (.inr b))
   else
    some (.inl (wr (b+1))))
  else
   some (.inr (.inl ())))
noncomputable def zAp (b:(List GEntry)) (c:(GEntry→Option Bool)):Option Int :=
 (zAF (zAQ b c) 0).bind fun d=>match d with
 | .inr e=>some e
 | .inl _ =>
  some (-1)
noncomputable def zC4 (c:GEntry) (b:Int):Option (Int ⊕ (Unit ⊕ Bool)) :=
  (bif decide (b<(c.fVary.length:Int)) then
   (xnth c.fVary (wr (b - 1))).bind fun d =>
   (xnth c.fVary b).bind fun f =>
   (bif !(Op.bytesLess d f) then
    some (.inr (.inr false))
   else
    some (.inl (wr (b+1))))
  else
   some (.inr (.inl ())))
noncomputable def zF2 (b:GEntry):Option Bool :=
 (bif ((decide (0<(b.fKeys.length:Int)))||((b.fVary.length:Int) !=(b.fSnapshot.length:Int))) then
  some false
 else
  (zAF (zC4 b) 1).bind fun c=>match c with
  | .inr e=>some e
  | .inl _ =>
   some true)
noncomputable def zCA (c:(List GAxis)) (d:(List Str)) (b:Int):Option (Int ⊕ (Unit ⊕ (Int ⊕ (Unit ⊕ Bool)))) :=
  (bif decide (b<(c.length:Int)) then
   (xnth c b).bind fun f =>
   (xnth d b).bind fun h =>
   (zAg f.fValues h).bind fun i =>
   (bif !i then
    some (.inr (.inr (.inr (.inr false))))
   else
    some (.inl (wr (b+1))))
  else
   some (.inr (.inl ())))
noncomputable def zCh (c:(List GAxis)) (d:GEntry) (b:Int):Option (Int ⊕ (Unit ⊕ Bool)) :=
  (bif decide (b<(d.fKeys.length:Int)) then
   (xnth d.fKeys b).bind fun f =>
   (bif (f.length:Int) !=(c.length:Int) then
    some (.inr (.inr false))
   else
    (zAF (zCA c f) 0).bind fun h=>match h with
    | .inr e=>some e
    | .inl _ =>
     some (.inl (wr (b+1))))
  else
   some (.inr (.inl ())))
noncomputable def zGm (c:(List GAxis)) (b:GEntry):Option Bool :=
 (bif (((decide ((b.fKeys.length:Int)<1))||(decide (64<(b.fKeys.length:Int))))||(decide (0<(wr ((b.fVary.length:Int)+(b.fSnapshot.length:Int)))))) then
  some false
 else
  (zAF (zCh c b) 0).bind fun d=>match d with
  | .inr e=>some e
  | .inl _ =>
   some true)
noncomputable def zFJ (b:GEntry) (c:GTable) (d:GEntry):Option Bool :=
 (zDc c.fAxes d b).bind fun f =>
 some f
noncomputable def zCg (b:GTable) (c:Int):Option (Int ⊕ (Unit ⊕ Bool)) :=
  (bif decide (c<(b.fEntries.length:Int)) then
   (xnth b.fEntries c).bind fun d =>
   (bif (b.fAxes.length:Int)==0 then
    (zF2 d).bind fun f =>
    (bif !f then
     some (.inr (.inr false))
    else
     some (.inl (wr (c+1))))
   else
    (zGm b.fAxes d).bind fun h =>
    (bif !h then
     some true
    else
     (xsub b.fEntries 0 c).bind fun i =>
     (zFT i (fun j=>zFJ j b d)).bind fun k =>
     some (decide (0≤k))).bind fun l =>
    (bif l then
     some (.inr (.inr false))
    else
     some (.inl (wr (c+1)))))
  else
   some (.inr (.inl ())))
noncomputable def zFb (b:GTable) (c:Int):Option Bool :=
 (bif decide (c<(b.fEntries.length:Int)) then
  some true
 else
  (bif decide (0<(b.fAxes.length:Int)) then
   (zBd b.fAxes).bind fun d =>
   some (!d)
  else
   some false).bind fun f =>
  some (f)).bind fun h =>
 (bif h then
  some false
 else
  (zAF (zCg b) 0).bind fun i=>match i with
  | .inr e=>some e
  | .inl _ =>
   some true)
noncomputable def zSf (d:(List GAxis)) (c:GEntry) (f:GEntry) (b:Int):Option (Int ⊕ (Unit ⊕ Bool)) :=
  (bif decide (b<(c.fKeys.length:Int)) then
   (xnth c.fKeys b).bind fun h =>
   (zSw d f h).bind fun i =>
   (bif i then
    some (.inr (.inr true))
   else
    some (.inl (wr (b+1))))
  else
   some (.inr (.inl ())))
noncomputable def zSn (d:(List GAxis)) (b:GEntry) (c:GEntry):Option Bool :=
 (bif (d.length:Int)==0 then
  (zSc b.fVary c.fVary).bind fun f =>
  (bif f then
   (zSc b.fSnapshot c.fSnapshot).bind fun h =>
   some (h)
  else
   some false).bind fun i =>
  some i
 else
  (zAF (zSf d b c) 0).bind fun j=>match j with
  | .inr e=>some e
  | .inl _ =>
   some false)
noncomputable def zSd (c:GEntry) (b:Int):Option (Int ⊕ (Unit ⊕ Bool)) :=
  (bif decide (b<(c.fVary.length:Int)) then
   (xnth c.fVary (wr (b - 1))).bind fun d =>
   (xnth c.fVary b).bind fun f =>
   (bif !(Op.bytesLess d f) then
    some (.inr (.inr false))
   else
    some (.inl (wr (b+1))))
  else
   some (.inr (.inl ())))
noncomputable def zSY (d:(List GAxis)) (h:GEntry) (i:Int) (b:Int):(Bool×Int)→Option ((Bool×Int) ⊕ Bool)
 | (f,c) =>
  (xnth d b).bind fun j =>
  (bif decide (c<(j.fValues.length:Int)) then
   (bif f then
    some true
   else
    (xnth d b).bind fun k =>
    (xnth k.fValues c).bind fun l =>
    (xnth h.fKeys i).bind fun o =>
    (xnth o b).bind fun p =>
    some (l==p)).bind fun q =>
   some (.inl (q,wr (c+1)))
  else
   some (.inr f))
noncomputable def zSX (c:(List GAxis)) (d:GEntry) (f:Int) (b:Int):Option (Int ⊕ (Unit ⊕ (Int ⊕ (Unit ⊕ Bool)))) :=
  (bif decide (b<(c.length:Int)) then
   (zAF (zSY c d f b) (false,0)).bind fun h =>
   (bif !h then
    some (.inr (.inr (.inr (.inr false))))
   else
    some (.inl (wr (b+1))))
  else
   some (.inr (.inl ())))
noncomputable def zSZ (d:(List GAxis)) (c:GEntry) (b:Int):Option (Int ⊕ (Unit ⊕ Bool)) :=
  (bif decide (b<(c.fKeys.length:Int)) then
   (xnth c.fKeys b).bind fun f =>
   (bif (f.length:Int) !=(d.length:Int) then
    some (.inr (.inr false))
   else
    (zAF (zSX d c b) 0).bind fun h=>match h with
    | .inr e=>some e
    | .inl _ =>
     some (.inl (wr (b+1))))
  else
   some (.inr (.inl ())))
noncomputable def zSj (c:(List GAxis)) (b:GEntry):Option Bool :=
 (bif (c.length:Int)==0 then
  (zAF (zSd b) 1).bind fun d=>match d with
  | .inr e=>some e
  | .inl _ =>
   some (((b.fKeys.length:Int)==0)&&((b.fVary.length:Int)==(b.fSnapshot.length:Int)))
 else
  (bif (((decide ((b.fKeys.length:Int)<1))||(decide (64<(b.fKeys.length:Int))))||(decide (0<(wr ((b.fVary.length:Int)+(b.fSnapshot.length:Int)))))) then
   some false
  else
   (zAF (zSZ c b) 0).bind fun f=>match f with
   | .inr e=>some e
   | .inl _ =>
    some true))
noncomputable def zSb (b:GTable) (d:Int) (c:Int):Option (Int ⊕ (Unit ⊕ (Int ⊕ (Unit ⊕ Bool)))) :=
  (bif ((decide (c<d))&&(decide (0<(b.fAxes.length:Int)))) then
   (xnth b.fEntries d).bind fun f =>
   (xnth b.fEntries c).bind fun h =>
   (zSn b.fAxes f h).bind fun i =>
   (bif i then
    some (.inr (.inr (.inr (.inr false))))
   else
    some (.inl (wr (c+1))))
  else
   some (.inr (.inl ())))
noncomputable def zSg (b:GTable) (c:Int):Option (Int ⊕ (Unit ⊕ Bool)) :=
  (bif decide (c<(b.fEntries.length:Int)) then
   (xnth b.fEntries c).bind fun d =>
   (zSj b.fAxes d).bind fun f =>
   (bif !f then
    some (.inr (.inr false))
   else
    (zAF (zSb b c) 0).bind fun h=>match h with
    | .inr e=>some e
    | .inl _ =>
     some (.inl (wr (c+1))))
  else
   some (.inr (.inl ())))
noncomputable def zSt (b:GTable) (c:Int):Option Bool :=
 (bif decide (c<(b.fEntries.length:Int)) then
  some true
 else
  (bif decide (0<(b.fAxes.length:Int)) then
   (zGw b.fAxes).bind fun d =>
   some (!d)
  else
   some false).bind fun f =>
  some (f)).bind fun h =>
 (bif h then
  some false
 else
  (zAF (zSg b) 0).bind fun i=>match i with
  | .inr e=>some e
  | .inl _ =>
   some true)
noncomputable def zAR (b:(List GEntry)) (c:(GEntry→Option Bool)):Option (List GEntry) :=
 (zAp b c).bind fun i=>delR b c i
noncomputable def zEy (f:GTable) (h:GEntry) (d:(List GAxis)) (b:Int):Option GTable :=
 (zGk f).bind fun i =>
 (zEh f.fAxes d).bind fun j =>
 ((bif !j then
  (zGc d).bind fun k =>
  some (k,([]:List GEntry))
 else
  some (i.fAxes,i.fEntries))).bind fun (l:((List GAxis)×(List GEntry))) =>
 match l with
 | (o,p) =>
  (zAR p (fun q=>zFg q d h)).bind fun r =>
  (zEc h).bind fun t =>
  (xapp r ([t]:List GEntry)).bind fun c =>
  (xsub c (if (wr ((c.length:Int) - (if b<0 then 0 else b)))<0 then 0 else (wr ((c.length:Int) - (if b<0 then 0 else b)))) c.length).bind fun u =>
  some (⟨o,u⟩:GTable)
noncomputable def zFY:Option Bool :=
 (zEy (⟨([]:List GAxis),([]:List GEntry)⟩:GTable) (⟨([([[101,110]]:List Str),([[102,114]]:List Str)]:List (List Str)),([]:List Str),([]:List Str),[],([]:List GField),[49],0,0⟩:GEntry) ([(⟨[97,99,99,101,112,116,45,108,97,110,103,117,97,103,101],([[101,110],[102,114]]:List Str)⟩:GAxis)]:List GAxis) 5).bind fun d =>
 (zEy d (⟨([([[102,114]]:List Str)]:List (List Str)),([]:List Str),([]:List Str),[],([]:List GField),[50],0,0⟩:GEntry) ([(⟨[97,99,99,101,112,116,45,108,97,110,103,117,97,103,101],([[101,110],[102,114]]:List Str)⟩:GAxis)]:List GAxis) 5).bind fun b =>
 (zFW b ([(⟨[65,99,99,101,112,116,45,76,97,110,103,117,97,103,101],[101,110]⟩:GField)]:List GField) true).bind fun c =>
 (bif (b.fEntries.length:Int)==1 then
  (xnth b.fEntries 0).bind fun f =>
  some (f.fBody==[50])
 else
  some false).bind fun h =>
 (bif ((h&&(c.1==(-1)))&&c.2) then
  (zFb b 5).bind fun i =>
  some (i)
 else
  some false).bind fun j =>
 some j
noncomputable def zSh (f:GTable) (h:GRequest) (i:GResponse) (b:Int):Option Bool :=
 (zHj f).bind fun j =>
 (bif !j then
  some true
 else
  (zF1 h).bind fun k =>
  some (!k)).bind fun l =>
 (bif l then
  some true
 else
  (zFR i).bind fun o =>
  some (!o)).bind fun p =>
 (bif ((p||(decide (b<1)))||(decide (64<b))) then
  some true
 else
  (zSt f b).bind fun q =>
  some (!q)).bind fun r =>
 (bif r then
  some true
 else
  (zHl h i 0 0).bind fun d =>
  (zEy f d.1 d.2 b).bind fun c =>
  (zFb c b).bind fun t =>
  (bif ((t&&(decide (1≤(c.fEntries.length:Int))))&&(decide ((c.fEntries.length:Int)≤b))) then
   (xnth c.fEntries (wr ((c.fEntries.length:Int) - 1))).bind fun u =>
   (zSs u d.1).bind fun v =>
   some (v)
  else
   some false).bind fun x =>
  (bif x then
   (zSq c.fAxes d.2).bind fun z =>
   some (z)
  else
   some false).bind fun aa =>
  (bif aa then
   (zFY).bind fun ab =>
   some (ab)
  else
   some false).bind fun ac =>
  some ac)
end Go.Eng.Pure
