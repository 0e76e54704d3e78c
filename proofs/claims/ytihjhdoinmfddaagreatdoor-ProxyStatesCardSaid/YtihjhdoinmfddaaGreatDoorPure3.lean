/- A part. -/
import Derived.Test.YtihjhdoinmfddaaGreatDoorPure2
set_option linter.unusedVariables false
set_option linter.unusedSimpArgs false
namespace Go.Eng.Pure
open Go Go.Eng
noncomputable section
def zCL (b:Str):Option Bool :=
 (bif b==[42] then
  some true
 else
  (zDG b).bind fun c =>
  some (c)).bind fun d =>
 some d
def zAj (b:Str) (c:Str):Option Bool :=
 (zBb b c).bind fun d =>
 some d
def zE9 (b:Str) (c:Str):Option Int :=
 (zCL b).bind fun d =>
 (bif !d then
  some true
 else
  (zDG c).bind fun f =>
  some (!f)).bind fun h =>
 (bif h then
  some (-1)
 else
  (bif b==[42] then
   some 0
  else
   (zAO c).bind fun i =>
   (xcat i [45]).bind fun j =>
   (zAO b).bind fun k =>
   (xcat k [45]).bind fun l =>
   (zAj j l).bind fun o =>
   (bif !o then
    some (-1)
   else
    (zCe b [45]).bind fun p =>
    some (wr (p+1)))))
def zIO (b:Int) (c:Str) (d:Str):Option Int :=
 (bif c==[42] then
  some 0
 else
  (zA8 b c).bind fun f =>
  (zA8 b d).bind fun h =>
  (bif f==h then
   some 1
  else
   some (-1)))
def zGd (b:Int) (d:Str) (c:Str):Option Int :=
 ((bif b==1 then
  (zA4 d).bind fun f =>
  (zCV c).bind fun h =>
  (bif ((!f.2)||(!h.2)) then
   some (.inr (-1))
  else
   (zEY f.1 h.1).bind fun i =>
   some (.inr i))
 else
  (bif b==2 then
   (zE9 d c).bind fun j =>
   some (.inr j)
  else
   ((bif b==3 then
    some (b==3)
   else
    some (b==4))).bind fun (k:Bool) =>
   (bif k then
    (zAZ d).bind fun l =>
    (bif !l then
     some true
    else
     (zAZ c).bind fun o =>
     some (!o)).bind fun p =>
    (bif (p||(c==[42])) then
     some (.inr (-1))
    else
     (zIO b d c).bind fun r =>
     some (.inr r))
   else
    some (.inl ()))))).bind fun (t:(Unit ⊕ Int))=>match t with
 | .inr e=>some e
 | .inl _ =>
  some (-1)
def zMc (j:Int) (d:(List GPref)) (k:Str):(Int×Int×Int)→Option ((Int×Int×Int) ⊕ (Int×Int))
 | (c,f,b) =>
  (bif decide (b<(d.length:Int)) then
   (xnth d b).bind fun h =>
   (zGd j h.fRange k).bind fun i =>
   (bif decide (c<i) then
    some (.inl (i,h.fQ,wr (b+1)))
   else
    some (.inl (c,f,wr (b+1))))
  else
   some (.inr (c,f)))
def zFd (b:Int) (d:(List GPref)) (f:Bool) (c:Str):Option Int :=
 (bif !f then
  some 1000
 else
  (zAB (zMc b d c) ((-1),0,0)).bind fun h=>match h with
  | (i,j) =>
   (bif ((decide (i<0))&&(b==4)) then
    (zAe c [105,100,101,110,116,105,116,121]).bind fun k =>
    some (k)
   else
    some false).bind fun l =>
   (bif l then
    some 1
   else
    some j))
def zLK (c:(List Int)) (d:Int) (b:Int):Option (Int ⊕ Int) :=
  (bif decide (0<b) then
   (xnth c (wr (b - 1))).bind fun f =>
   some (decide (f<d))
  else
   some false).bind fun h =>
  (bif h then
   some (.inl (wr (b - 1)))
  else
   some (.inr b))
def zLA (k:Int) (l:(List GPref)) (o:Bool) (h:(List Str)):((List Str)×(List Int)×Int)→Option (((List Str)×(List Int)×Int) ⊕ (List Str))
 | (d,b,c) =>
  (bif decide (c<(h.length:Int)) then
   (xnth h c).bind fun i =>
   (zFd k l o i).bind fun f =>
   (bif decide (f≤0) then
    some (.inl (d,b,wr (c+1)))
   else
    (zAB (zLK b f) (b.length:Int)).bind fun j =>
    (insS d j ([i]:List Str)).bind fun p =>
    (insS b j ([f]:List Int)).bind fun r =>
    some (.inl (p,r,wr (c+1))))
  else
   some (.inr d))
def zIR (b:Int) (c:(List GPref)) (d:Bool) (f:(List Str)):Option (List Str) :=
 (zAB (zLA b c d f) (([]:List Str),([]:List Int),0)).bind fun h =>
 some h
def zAP (b:(List Str)):Option (List Str) :=
 xapp [] b
def zAU (b:(List GField)):Option (List GField) :=
 xapp [] b
def zG1 (c:GEntry):(Int×(List (List Str))×(List Str)×(List Str)×Str×(List GField)×Str×Int×Int)→Option ((Int×(List (List Str))×(List Str)×(List Str)×Str×(List GField)×Str×Int×Int) ⊕ ((List (List Str))×(List Str)×(List Str)×Str×(List GField)×Str×Int×Int))
 | (b,d,f,h,i,j,k,l,o) =>
  (bif decide (b<(c.fKeys.length:Int)) then
   (xnth c.fKeys b).bind fun p =>
   (zAP p).bind fun r =>
   (xapp d ([r]:List (List Str))).bind fun t =>
   some (.inl (wr (b+1),t,f,h,i,j,k,l,o))
  else
   some (.inr (d,f,h,i,j,k,l,o)))
def zDC (b:GEntry):Option GEntry :=
 (zAB (zG1 b) (0,([]:List (List Str)),b.fVary,b.fSnapshot,b.fReason,b.fFields,b.fBody,b.fRequested,b.fReceived)).bind fun c=>match c with
 | (d,f,h,i,j,k,l,o) =>
  (zAP f).bind fun p =>
  (zAP h).bind fun r =>
  (zAU j).bind fun t =>
  some (⟨d,p,r,i,t,k,l,o⟩:GEntry)
def zOa (b:GEntry) (c:(List GField)):Option Bool :=
 (zIp b.fVary b.fSnapshot c).bind fun d =>
 some d
def zN0 (c:(List GEntry)) (d:(GEntry→Option Bool)) (b:Int):Option (Int ⊕ (Unit ⊕ Int)) :=
  (bif decide (0≤b) then
   (xnth c b).bind fun f =>
   (d f).bind fun h =>
   (bif h then
    some (.inr (.inr b))
   else
    some (.inl (wr (b - 1))))
  else
   some (.inr (.inl ())))
def zI7 (b:(List GEntry)) (c:(GEntry→Option Bool)):Option Int :=
 (zAB (zN0 b c) (wr ((b.length:Int) - 1))).bind fun d=>match d with
 | .inr e=>some e
 | .inl _ =>
  some (-1)
def zJr (b:GParam):Option Bool :=
 some (b.fName==[113])
def zMx (c:Str):((List UInt8)×Int)→Option (((List UInt8)×Int) ⊕ (List UInt8))
 | (d,b) =>
  (bif decide (b<(c.length:Int)) then
   (xnth c b).bind fun c26 =>
   (bif c26==34 then
    some true
   else
    (xnth c b).bind fun c29 =>
    some (c29==92)).bind fun f =>
   ((bif f then
    (xapp d ([92]:List UInt8)).bind fun h =>
    some h
   else
    some d)).bind fun (i:(List UInt8)) =>
   (xnth c b).bind fun j =>
   (xapp i ([j]:List UInt8)).bind fun k =>
   some (.inl (k,wr (b+1)))
  else
   some (.inr d))
def zJd (b:Str):Option Str :=
 (zAB (zMx b) (([34]:List UInt8),0)).bind fun c =>
 (xapp c ([34]:List UInt8)).bind fun d =>
 some d
def zEg (d:(List GParam)):(Int×(List UInt8))→Option ((Int×(List UInt8)) ⊕ (List UInt8))
 | (b,f) =>
  (bif decide (b<(d.length:Int)) then
   (xnth d b).bind fun c =>
   (xcat [59] c.fName).bind fun i =>
   (xcat i [61]).bind fun j =>
   (xapp f j).bind fun h =>
   (zAZ c.fValue).bind fun k =>
   (bif k then
    (xapp h c.fValue).bind fun l =>
    some (.inl (wr (b+1),l))
   else
    (zJd c.fValue).bind fun o =>
    (xapp h o).bind fun p =>
    some (.inl (wr (b+1),p)))
  else
   some (.inr f))
def zGe (b:Str) (c:(List GParam)):Option Str :=
 (xapp ([]:List UInt8) b).bind fun d =>
 (zAB (zEg c) (0,d)).bind fun f =>
 some f
def zCr (b:GMediaType):Option Str :=
 (xcat b.fType [47]).bind fun c =>
 (xcat c b.fSub).bind fun d =>
 (zGe d b.fParams).bind fun f =>
 some f
def zGO (c:Str) (d:(List GParam)):Option (Str×Bool) :=
 (zA4 c).bind fun b =>
 (zCr (⟨b.1.fType,b.1.fSub,d⟩:GMediaType)).bind fun f =>
 some (f,b.2)
def zGW (c:Int) (b:Str) (d:(List GParam)):Option (Str×Bool) :=
 (zA8 c b).bind fun f =>
 (zCL b).bind fun h =>
 some (f,(h&&((d.length:Int)==0)))
def zEh (b:Int) (c:Str) (d:(List GParam)):Option (Str×Bool) :=
 (bif decide (b=1) then
  (zGO c d).bind fun f =>
  some (f.1,f.2)
 else
  (bif decide (b=2) then
   (zGW b c d).bind fun h =>
   some (h.1,h.2)
  else
   (zA8 b c).bind fun i =>
   (zAZ c).bind fun j =>
   some (i,(j&&((d.length:Int)==0)))))
def zHx (h:Int) (i:Str):Option (GPref×Bool) :=
 (zGS i).bind fun b =>
 (bif !b.2.2 then
  some ((⟨[],0⟩:GPref),false)
 else
  (zAm b.2.1 zJr).bind fun c =>
  ((bif decide (0≤c) then
   (xnth b.2.1 c).bind fun j =>
   (zGw j.fValue).bind fun d =>
   (bif !d.2 then
    some (.inr ((⟨[],0⟩:GPref),false))
   else
    (xsub b.2.1 0 c).bind fun k =>
    some (.inl (k,d.1)))
  else
   some (.inl (b.2.1,1000)))).bind fun (l:(((List GParam)×Int) ⊕ (GPref×Bool)))=>match l with
  | .inr e=>some e
  | .inl (o,p) =>
   (zEh h b.1 o).bind fun f =>
   some ((⟨f.1,p⟩:GPref),f.2))
def zMl (h:Int) (d:(List Str)):((List GPref)×Int)→Option (((List GPref)×Int) ⊕ (List GPref))
 | (c,b) =>
  (bif decide (b<(d.length:Int)) then
   (xnth d b).bind fun i =>
   (zHx h i).bind fun f =>
   (bif f.2 then
    (xapp c ([f.1]:List GPref)).bind fun j =>
    some (.inl (j,wr (b+1)))
   else
    some (.inl (c,wr (b+1))))
  else
   some (.inr c))
def zGq (c:Int) (d:(List GField)):Option ((List GPref)×Bool) :=
 (zBh c).bind fun b =>
 (bif b==[] then
  some true
 else
  (zAv d b).bind fun f =>
  some (!f)).bind fun h =>
 (bif h then
  some (([]:List GPref),false)
 else
  (zC3 d b).bind fun i =>
  (zAB (zMl c i) (([]:List GPref),0)).bind fun j =>
  some (j,true))
def zAq (c:(List Str)) (d:Str) (b:Int):Option (Int ⊕ (Unit ⊕ Int)) :=
  (bif decide (b<(c.length:Int)) then
   (xnth c b).bind fun f =>
   (bif d==f then
    some (.inr (.inr b))
   else
    some (.inl (wr (b+1))))
  else
   some (.inr (.inl ())))
def zB3 (b:(List Str)) (c:Str):Option Int :=
 (zAB (zAq b c) 0).bind fun d=>match d with
 | .inr e=>some e
 | .inl _ =>
  some (-1)
def zAr (b:(List Str)) (c:Str):Option Bool :=
 (zB3 b c).bind fun d =>
 some (decide (0≤d))
def zCm (b:GAxis) (d:(List GField)) (j:Bool):Option (List Str) :=
 (zBZ ([b]:List GAxis)).bind fun k =>
 (bif !k then
  some ([]:List Str)
 else
  (zD2 b.fName).bind fun c =>
  ((bif c !=0 then
   (zGq c d).bind fun f =>
   (zIR c f.1 f.2 b.fValues).bind fun l =>
   some l
  else
   (zC3 d b.fName).bind fun o =>
   (zIT o).bind fun h =>
   (zAr b.fValues h).bind fun p =>
   (bif p then
    some ([h]:List Str)
   else
    some ([]:List Str)))).bind fun (i:(List Str)) =>
  ((bif (((i.length:Int)==0)&&(!j)) then
   (xnth b.fValues 0).bind fun r =>
   some ([r]:List Str)
  else
   some i)).bind fun (t:(List Str)) =>
  some t)
def zHM (d:(List GAxis)) (h:(List GField)) (i:Bool):(Int×(List (List Str)))→Option ((Int×(List (List Str))) ⊕ ((List (List Str)) ⊕ (List (List Str))))
 | (b,c) =>
  (bif decide (b<(d.length:Int)) then
   (xnth d b).bind fun j =>
   (zCm j h i).bind fun k =>
   (xnth c b).bind fun o =>
   (xput c b k).bind fun f =>
   (xnth f b).bind fun l =>
   (bif (l.length:Int)==0 then
    some (.inr (.inr ([]:List (List Str))))
   else
    some (.inl (wr (b+1),f)))
  else
   some (.inr (.inl c)))
def zHI (f:(List (List Str))) (d:(List Int)):(Int×(List Str))→Option ((Int×(List Str)) ⊕ (List Str))
 | (b,c) =>
  (bif decide (b<(d.length:Int)) then
   (xnth d b).bind fun h =>
   (xnth f b).bind fun i =>
   (xnth i h).bind fun j =>
   (xnth c b).bind fun l =>
   (xput c b j).bind fun k =>
   some (.inl (wr (b+1),k))
  else
   some (.inr c))
def zHD (d:(List (List Str))):(Int×(List Int))→Option ((Int×(List Int)) ⊕ (Int×(List Int)))
 | (b,c) =>
  (bif decide (0≤b) then
   (xnth c b).bind fun f =>
   (xnth d b).bind fun h =>
   some (f==(wr ((h.length:Int) - 1)))
  else
   some false).bind fun i =>
  (bif i then
   (xnth c b).bind fun k =>
   (xput c b 0).bind fun j =>
   some (.inl (wr (b - 1),j))
  else
   some (.inr (b,c)))
def zHC (j:(List GAxis)) (k:Int) (h:(List (List Str))):((List (List Str))×(List Int))→Option (((List (List Str))×(List Int)) ⊕ (List (List Str)))
 | (c,d) =>
  (bif decide ((c.length:Int)<k) then
   (xmake (j.length:Int) ([]:Str)).bind fun l =>
   (zAB (zHI h d) (0,l)).bind fun o =>
   (xapp c ([o]:List (List Str))).bind fun i =>
   (zAB (zHD h) (wr ((d.length:Int) - 1),d)).bind fun p=>match p with
   | (b,f) =>
    (bif decide (b<0) then
     some (.inr i)
    else
     (xnth f b).bind fun r =>
     (xnth f b).bind fun u =>
     (xput f b (wr (r+1))).bind fun t =>
     some (.inl (i,t)))
  else
   some (.inr c))
def zFC (b:(List GAxis)) (c:(List GField)) (d:Bool) (f:Int):Option (List (List Str)) :=
 (zBZ b).bind fun h =>
 (bif !h then
  some ([]:List (List Str))
 else
  (xmake (b.length:Int) (([]:List Str):(List Str))).bind fun i =>
  (zAB (zHM b c d) (0,i)).bind fun j=>match j with
  | .inr e=>some e
  | .inl k =>
   (xmake (b.length:Int) (0:Int)).bind fun l =>
   (zAB (zHC b f k) (([]:List (List Str)),l)).bind fun o =>
   some o)
def zFE (c:(List GAxis)) (d:(List GField)) (f:Bool):Option ((List Str)×Bool) :=
 (zFC c d f 1).bind fun b =>
 (bif (b.length:Int)==0 then
  some (([]:List Str),false)
 else
  (xnth b 0).bind fun h =>
  some (h,true))
def zDd (c:Str) (d:Str) (f:(List GAxis)) (b:Int):Option (Bool×Int) :=
 (xnth f (wr (b+1))).bind fun h =>
 (zES h.fName c d).bind fun i =>
 some (i,wr (b+1))
def zBB (d:(List Str)) (h:(List Str)) (i:(List GAxis)):(Int×Int)→Option ((Int×Int) ⊕ (Int ⊕ (Bool×Int)))
 | (b,f) =>
  (bif decide (b<(d.length:Int)) then
   (xnth d b).bind fun j =>
   (xnth h b).bind fun k =>
   (zDd j k i f).bind fun c =>
   (bif !c.1 then
    some (.inr (.inr (false,c.2)))
   else
    some (.inl (wr (b+1),c.2)))
  else
   some (.inr (.inl f)))
def zAp (b:(List Str)) (c:(List Str)) (f:(List GAxis)) (d:Int):Option (Bool×Int) :=
 (bif (b.length:Int) !=(c.length:Int) then
  some (false,d)
 else
  (zAB (zBB b c f) (0,d)).bind fun h=>match h with
  | .inr e=>some e
  | .inl i =>
   some (true,i))
def zC9 (b:(List GAxis)) (c:(List Str)) (d:(List Str)):Option Bool :=
 (bif (c.length:Int) !=(b.length:Int) then
  some false
 else
  (zAp c d b (-1)).bind fun f =>
  some f.1)
def zPa (b:(List Str)) (c:(List GAxis)) (d:(List Str)):Option Bool :=
 (zC9 c b d).bind fun f =>
 some f
def zKH (b:(List GAxis)) (c:GEntry) (d:(List Str)):Option Bool :=
 (zAL c.fKeys (fun f=>zPa f b d)).bind fun h =>
 some h
def zPJ (b:GEntry) (c:GTable) (d:(List Str)):Option Bool :=
 (zKH c.fAxes b d).bind fun f =>
 some f
def zIq (b:GTable) (d:(List GField)) (h:Bool):Option (Int×Bool) :=
 (bif (b.fAxes.length:Int)==0 then
  (zI7 b.fEntries (fun c=>zOa c d)).bind fun i =>
  some (i,true)
 else
  (zFE b.fAxes d h).bind fun f =>
  (bif !f.2 then
   some ((-1),false)
  else
   (zI7 b.fEntries (fun c=>zPJ c b f.1)).bind fun j =>
   some (j,true)))
def zF2 (c:(List GAxis)):((List GAxis)×Int)→Option (((List GAxis)×Int) ⊕ (List GAxis))
 | (d,b) =>
  (bif decide (b<(c.length:Int)) then
   (xnth c b).bind fun f =>
   (zAP f.fValues).bind fun h =>
   (xapp d ([(⟨f.fName,h⟩:GAxis)]:List GAxis)).bind fun i =>
   some (.inl (i,wr (b+1)))
  else
   some (.inr d))
def zGA (b:(List GAxis)):Option (List GAxis) :=
 (zAB (zF2 b) (([]:List GAxis),0)).bind fun c =>
 some c
def zFM (c:GTable):(Int×(List GAxis)×(List GEntry))→Option ((Int×(List GAxis)×(List GEntry)) ⊕ ((List GAxis)×(List GEntry)))
 | (b,d,f) =>
  (bif decide (b<(c.fEntries.length:Int)) then
   (xnth c.fEntries b).bind fun h =>
   (zDC h).bind fun i =>
   (xapp f ([i]:List GEntry)).bind fun j =>
   some (.inl (wr (b+1),d,j))
  else
   some (.inr (d,f)))
def zBW (b:GTable):Option GTable :=
 (zGA b.fAxes).bind fun c =>
 (zAB (zFM b) (0,c,([]:List GEntry))).bind fun d=>match d with
 | (f,h) =>
  some (⟨f,h⟩:GTable)
def zBk (c:(List GAxis)) (d:(List GAxis)) (f:(GAxis→GAxis→Option Bool)) (b:Int):Option (Int ⊕ (Unit ⊕ Bool)) :=
  (bif decide (b<(c.length:Int)) then
   (xnth c b).bind fun h =>
   (xnth d b).bind fun i =>
   (f h i).bind fun j =>
   (bif !j then
    some (.inr (.inr false))
   else
    some (.inl (wr (b+1))))
  else
   some (.inr (.inl ())))
def zBu (b:(List GAxis)) (c:(List GAxis)) (d:(GAxis→GAxis→Option Bool)):Option Bool :=
 (bif (b.length:Int) !=(c.length:Int) then
  some false
 else
  (zAB (zBk b c d) 0).bind fun f=>match f with
  | .inr e=>some e
  | .inl _ =>
   some true)
def zH8 (b:GAxis) (c:GAxis):Option Bool :=
 (bif b.fName==c.fName then
  (zAS b.fValues c.fValues).bind fun d =>
  some (d)
 else
  some false).bind fun f =>
 some f
def zFK (b:(List GAxis)) (c:(List GAxis)):Option Bool :=
 (zBu b c zH8).bind fun d =>
 some d
def zLU (b:(List Str)) (c:(List GAxis)) (d:GEntry):Option Bool :=
 (zKH c d b).bind fun f =>
 some f
def zFG (d:(List GAxis)) (b:GEntry) (c:GEntry):Option Bool :=
 (bif (d.length:Int)==0 then
  (zAS b.fVary c.fVary).bind fun f =>
  (bif f then
   (zAS b.fSnapshot c.fSnapshot).bind fun h =>
   some (h)
  else
   some false).bind fun i =>
  some i
 else
  (zAL b.fKeys (fun j=>zLU j d c)).bind fun k =>
  some k)
def zJp (b:GEntry) (c:(List GAxis)) (d:GEntry):Option Bool :=
 (zFG c d b).bind fun f =>
 some f
def zAN (c:(List GEntry)) (d:(GEntry→Option Bool)) (b:Int):Option (Int ⊕ (Unit ⊕ Int)) :=
  (bif decide (b<(c.length:Int)) then
   (xnth c b).bind fun f =>
   (d f).bind fun h =>
   (bif h then
    some (.inr (.inr b))
   else
    some (.inl (wr (b+1))))
  else
   some (.inr (.inl ())))
def zAl (b:(List GEntry)) (c:(GEntry→Option Bool)):Option Int :=
 (zAB (zAN b c) 0).bind fun d=>match d with
 | .inr e=>some e
 | .inl _ =>
  some (-1)
def zF1 (c:GTable):(Int×Int)→Option ((Int×Int) ⊕ Int)
 | (d,b) =>
  (bif decide (b<(c.fEntries.length:Int)) then
   (xnth c.fEntries b).bind fun f =>
   (zGC f).bind fun h =>
   some (.inl (wr (d+h),wr (b+1)))
  else
   some (.inr d))
def zHB (b:GTable):Option Int :=
 (zAB (zF1 b) (0,0)).bind fun c =>
 some c
def zAT (b:(List GEntry)) (c:(GEntry→Option Bool)):Option (List GEntry) :=
 (zAl b c).bind fun i=>delR b c i
def zJt (f:GTable) (h:GEntry) (d:(List GAxis)) (b:Int):Option GTable :=
 (zBW f).bind fun i =>
 (zFK f.fAxes d).bind fun j =>
 ((bif !j then
  (zGA d).bind fun k =>
  some (k,([]:List GEntry))
 else
  some (i.fAxes,i.fEntries))).bind fun (l:((List GAxis)×(List GEntry))) =>
 match l with
 | (o,p) =>
  (zAT p (fun r=>zJp r d h)).bind fun t =>
  (zDC h).bind fun u =>
  (xapp t ([u]:List GEntry)).bind fun c =>
  (xsub c (if (wr ((c.length:Int) - (if b<0 then 0 else b)))<0 then 0 else (wr ((c.length:Int) - (if b<0 then 0 else b)))) c.length).bind fun v =>
  some (⟨o,v⟩:GTable)
def law32_config:Option GConfig :=
 some (⟨[112],1000,4,4,false,false⟩:GConfig)
def zC6 (b:Str):Option Bool :=
 (bif decide (7≤(b.length:Int)) then
  (xsub b 0 7).bind fun c =>
  (zAe c [104,116,116,112,58,47,47]).bind fun d =>
  some (d)
 else
  some false).bind fun f =>
 some f
def zCc (b:UInt8):Option Bool :=
 some ((((decide (48≤b))&&(decide (b≤57)))||((decide (65≤b))&&(decide (b≤90))))||((decide (97≤b))&&(decide (b≤122))))
def zGT (b:UInt8):Option Bool :=
 (zCc b).bind fun c =>
 some ((c||(b==45))||(b==46))
end
end Go.Eng.Pure
