/- A part. -/
import Derived.Test.YtipgfplekgdoiaaGreatDoorPure2
set_option linter.unusedVariables false
namespace Go.Eng.Pure
open Go Go.Eng
set_option linter.unusedVariables false
noncomputable section
def zFw (b:Int) (c:Str) (d:Str):Option Int :=
 (bif c==[42] then
  some 0
 else
  (zBD b c).bind fun f =>
  (zBD b d).bind fun h =>
  (bif f==h then
   some 1
  else
   some (-1)))
def zF0 (b:Int) (d:Str) (c:Str):Option Int :=
 ((bif b==1 then
  (zBC d).bind fun f =>
  (zCz c).bind fun h =>
  (bif ((!f.2)||(!h.2)) then
   some (.inr (-1))
  else
   (zEJ f.1 h.1).bind fun i =>
   some (.inr i))
 else
  (bif b==2 then
   (zEl d c).bind fun j =>
   some (.inr j)
  else
   ((bif b==3 then
    some (b==3)
   else
    some (b==4))).bind fun (k:Bool) =>
   (bif k then
    (zA0 d).bind fun l =>
    (bif !l then
     some true
    else
     (zA0 c).bind fun o =>
     some (!o)).bind fun p =>
    (bif (p||(c==[42])) then
     some (.inr (-1))
    else
     (zFw b d c).bind fun q =>
     some (.inr q))
   else
    some (.inl ()))))).bind fun (r:(Unit ⊕ Int))=>match r with
 | .inr e=>some e
 | .inl _ =>
  some (-1)
def zC2 (j:Int) (d:(List GPref)) (k:Str):(Int×Int×Int)→Option ((Int×Int×Int) ⊕ (Int×Int))
 | (c,f,b) =>
  (bif decide (b<(d.length:Int)) then
   (xnth d b).bind fun h =>
   (zF0 j h.fRange k).bind fun i =>
   (bif decide (c<i) then
    some (.inl (i,h.fQ,wr (b+1)))
   else
    some (.inl (c,f,wr (b+1))))
  else
   some (.inr (c,f)))
def zE1 (b:Int) (d:(List GPref)) (f:Bool) (c:Str):Option Int :=
 (bif !f then
  some 1000
 else
  (zAF (zC2 b d c) ((-1),0,0)).bind fun h=>match h with
  | (i,j) =>
   (bif ((decide (i<0))&&(b==4)) then
    (zDI c [105,100,101,110,116,105,116,121]).bind fun k =>
    some (k)
   else
    some false).bind fun l =>
   (bif l then
    some 1
   else
    some j))
def zD1 (c:(List Int)) (d:Int) (b:Int):Option (Int ⊕ Int) :=
  (bif decide (0<b) then
   (xnth c (wr (b - 1))).bind fun f =>
   some (decide (f<d))
  else
   some false).bind fun h =>
  (bif h then
   some (.inl (wr (b - 1)))
  else
   some (.inr b))
def zCL (k:Int) (l:(List GPref)) (o:Bool) (h:(List Str)):((List Str)×(List Int)×Int)→Option (((List Str)×(List Int)×Int) ⊕ (List Str))
 | (d,b,c) =>
  (bif decide (c<(h.length:Int)) then
   (xnth h c).bind fun i =>
   (zE1 k l o i).bind fun f =>
   (bif decide (f≤0) then
    some (.inl (d,b,wr (c+1)))
   else
    (zAF (zD1 b f) (b.length:Int)).bind fun j =>
    (insS d j ([i]:List Str)).bind fun p =>
    (insS b j ([f]:List Int)).bind fun q =>
    some (.inl (p,q,wr (c+1))))
  else
   some (.inr d))
def zGa (b:Int) (c:(List GPref)) (d:Bool) (f:(List Str)):Option (List Str) :=
 (zAF (zCL b c d f) (([]:List Str),([]:List Int),0)).bind fun h =>
 some h
def zAZ (b:(List Str)):Option (List Str) :=
 xapp [] b
def zAk (b:(List GField)):Option (List GField) :=
 xapp [] b
def zDm (c:GEntry):(Int×(List (List Str))×(List Str)×(List Str)×Str×(List GField)×Str×Int×Int)→Option ((Int×(List (List Str))×(List Str)×(List Str)×Str×(List GField)×Str×Int×Int) ⊕ ((List (List Str))×(List Str)×(List Str)×Str×(List GField)×Str×Int×Int))
 | (b,d,f,h,i,j,k,l,o) =>
  (bif decide (b<(c.fKeys.length:Int)) then
   (xnth c.fKeys b).bind fun p =>
   (zAZ p).bind fun q =>
   (xapp d ([q]:List (List Str))).bind fun r =>
   some (.inl (wr (b+1),r,f,h,i,j,k,l,o))
  else
   some (.inr (d,f,h,i,j,k,l,o)))
def zEc (b:GEntry):Option GEntry :=
 (zAF (zDm b) (0,([]:List (List Str)),b.fVary,b.fSnapshot,b.fReason,b.fFields,b.fBody,b.fRequested,b.fReceived)).bind fun c=>match c with
 | (d,f,h,i,j,k,l,o) =>
  (zAZ f).bind fun p =>
  (zAZ h).bind fun q =>
  (zAk j).bind fun r =>
  some (⟨d,p,q,i,r,k,l,o⟩:GEntry)
def zFr (c:(List GAxis)) (b:Int):Option (Int ⊕ (Unit ⊕ Bool)) :=
  (bif ((decide (b<(c.length:Int)))&&(decide (b<7))) then
   (xnth c b).bind fun d =>
   (bif decide (100<(d.fName.length:Int)) then
    some true
   else
    (xnth c b).bind fun f =>
    (zC5 f.fValues).bind fun h =>
    some (!h)).bind fun i =>
   (bif i then
    some (.inr (.inr false))
   else
    some (.inl (wr (b+1))))
  else
   some (.inr (.inl ())))
def zIU (b:(List GAxis)):Option Bool :=
 (zAF (zFr b) 0).bind fun c=>match c with
 | .inr e=>some e
 | .inl _ =>
  some (decide ((b.length:Int)≤6))
def zFH (c:GTable) (b:Int):Option (Int ⊕ (Unit ⊕ Bool)) :=
  (bif ((decide (b<(c.fEntries.length:Int)))&&(decide (b<9))) then
   (xnth c.fEntries b).bind fun d =>
   (zHr d).bind fun f =>
   (bif !f then
    some (.inr (.inr false))
   else
    some (.inl (wr (b+1))))
  else
   some (.inr (.inl ())))
def zHj (b:GTable):Option Bool :=
 (zAF (zFH b) 0).bind fun c=>match c with
 | .inr e=>some e
 | .inl _ =>
  (bif decide ((b.fEntries.length:Int)≤8) then
   (zIU b.fAxes).bind fun d =>
   some (d)
  else
   some false).bind fun f =>
  some f
def zFt (b:GEntry) (c:(List GField)):Option Bool :=
 (zHi b.fVary b.fSnapshot c).bind fun d =>
 some d
def zDL (c:(List GEntry)) (d:(GEntry→Option Bool)) (b:Int):Option (Int ⊕ (Unit ⊕ Int)) :=
  (bif decide (0≤b) then
   (xnth c b).bind fun f =>
   (d f).bind fun h =>
   (bif h then
    some (.inr (.inr b))
   else
    some (.inl (wr (b - 1))))
  else
   some (.inr (.inl ())))
def zFT (b:(List GEntry)) (c:(GEntry→Option Bool)):Option Int :=
 (zAF (zDL b c) (wr ((b.length:Int) - 1))).bind fun d=>match d with
 | .inr e=>some e
 | .inl _ =>
  some (-1)
def zCN (b:GParam):Option Bool :=
 some (b.fName==[113])
def zH9 (c:Str):((List UInt8)×Int)→Option (((List UInt8)×Int) ⊕ (List UInt8))
 | (d,b) =>
  (bif decide (b<(c.length:Int)) then
   (xnth c b).bind fun f =>
   (bif f==34 then
    some true
   else
    (xnth c b).bind fun h =>
    some (h==92)).bind fun i =>
   ((bif i then
    (xapp d ([92]:List UInt8)).bind fun j =>
    some j
   else
    some d)).bind fun (k:(List UInt8)) =>
   (xnth c b).bind fun l =>
   (xapp k ([l]:List UInt8)).bind fun o =>
   some (.inl (o,wr (b+1)))
  else
   some (.inr d))
def zIO (b:Str):Option Str :=
 (zAF (zH9 b) (([34]:List UInt8),0)).bind fun c =>
 (xapp c ([34]:List UInt8)).bind fun d =>
 some d
def zC3 (d:(List GParam)):(Int×(List UInt8))→Option ((Int×(List UInt8)) ⊕ (List UInt8))
 | (b,f) =>
  (bif decide (b<(d.length:Int)) then
   (xnth d b).bind fun c =>
   (xcat [59] c.fName).bind fun i =>
   (xcat i [61]).bind fun j =>
   (zAN j f).bind fun h =>
   (zA0 c.fValue).bind fun k =>
   (bif k then
    (zAN c.fValue h.2.2).bind fun l =>
    some (.inl (wr (b+1),l.2.2))
   else
    (zIO c.fValue).bind fun o =>
    (zAN o h.2.2).bind fun p =>
    some (.inl (wr (b+1),p.2.2)))
  else
   some (.inr f))
def zF4 (b:Str) (c:(List GParam)):Option Str :=
 (zAN b ([]:List UInt8)).bind fun d =>
 (zAF (zC3 c) (0,d.2.2)).bind fun f =>
 (zBK f).bind fun h =>
 some h
def zDo (b:GMediaType):Option Str :=
 (xcat b.fType [47]).bind fun c =>
 (xcat c b.fSub).bind fun d =>
 (zF4 d b.fParams).bind fun f =>
 some f
def zFk (c:Str) (d:(List GParam)):Option (Str×Bool) :=
 (zBC c).bind fun b =>
 (zDo (⟨b.1.fType,b.1.fSub,d⟩:GMediaType)).bind fun f =>
 some (f,b.2)
def zFi (c:Int) (b:Str) (d:(List GParam)):Option (Str×Bool) :=
 (zBD c b).bind fun f =>
 (zDk b).bind fun h =>
 some (f,(h&&((d.length:Int)==0)))
def zFI (b:Int) (c:Str) (d:(List GParam)):Option (Str×Bool) :=
 (bif decide (b=1) then
  (zFk c d).bind fun f =>
  some (f.1,f.2)
 else
  (bif decide (b=2) then
   (zFi b c d).bind fun h =>
   some (h.1,h.2)
  else
   (zBD b c).bind fun i =>
   (zA0 c).bind fun j =>
   some (i,(j&&((d.length:Int)==0)))))
def zGf (h:Int) (i:Str):Option (GPref×Bool) :=
 (zFa i).bind fun b =>
 (bif !b.2.2 then
  some ((⟨[],0⟩:GPref),false)
 else
  (zAT b.2.1 zCN).bind fun c =>
  ((bif decide (0≤c) then
   (xnth b.2.1 c).bind fun j =>
   (zB3 j.fValue).bind fun d =>
   (bif !d.2 then
    some (.inr ((⟨[],0⟩:GPref),false))
   else
    (xsub b.2.1 0 c).bind fun k =>
    some (.inl (k,d.1)))
  else
   some (.inl (b.2.1,1000)))).bind fun (l:(((List GParam)×Int) ⊕ (GPref×Bool)))=>match l with
  | .inr e=>some e
  | .inl (o,p) =>
   (zFI h b.1 o).bind fun f =>
   some ((⟨f.1,p⟩:GPref),f.2))
def zCv (h:Int) (d:(List Str)):((List GPref)×Int)→Option (((List GPref)×Int) ⊕ (List GPref))
 | (c,b) =>
  (bif decide (b<(d.length:Int)) then
   (xnth d b).bind fun i =>
   (zGf h i).bind fun f =>
   (bif f.2 then
    (xapp c ([f.1]:List GPref)).bind fun j =>
    some (.inl (j,wr (b+1)))
   else
    some (.inl (c,wr (b+1))))
  else
   some (.inr c))
def zEw (c:Int) (d:(List GField)):Option ((List GPref)×Bool) :=
 (zBV c).bind fun b =>
 (bif b==[] then
  some true
 else
  (zDB d b).bind fun f =>
  some (!f)).bind fun h =>
 (bif h then
  some (([]:List GPref),false)
 else
  (zEA d b).bind fun i =>
  (zAF (zCv c i) (([]:List GPref),0)).bind fun j =>
  some (j,true))
def zAf (c:(List Str)) (d:Str) (b:Int):Option (Int ⊕ (Unit ⊕ Int)) :=
  (bif decide (b<(c.length:Int)) then
   (xnth c b).bind fun f =>
   (bif d==f then
    some (.inr (.inr b))
   else
    some (.inl (wr (b+1))))
  else
   some (.inr (.inl ())))
def zBq (b:(List Str)) (c:Str):Option Int :=
 (zAF (zAf b c) 0).bind fun d=>match d with
 | .inr e=>some e
 | .inl _ =>
  some (-1)
def zAg (b:(List Str)) (c:Str):Option Bool :=
 (zBq b c).bind fun d =>
 some (decide (0≤d))
def zDp (b:GAxis) (d:(List GField)) (j:Bool):Option (List Str) :=
 (zBd ([b]:List GAxis)).bind fun k =>
 (bif !k then
  some ([]:List Str)
 else
  (zEg b.fName).bind fun c =>
  ((bif c !=0 then
   (zEw c d).bind fun f =>
   (zGa c f.1 f.2 b.fValues).bind fun l =>
   some l
  else
   (zEA d b.fName).bind fun o =>
   (zGP o).bind fun h =>
   (zAg b.fValues h).bind fun p =>
   (bif p then
    some ([h]:List Str)
   else
    some ([]:List Str)))).bind fun (i:(List Str)) =>
  ((bif (((i.length:Int)==0)&&(!j)) then
   (xnth b.fValues 0).bind fun q =>
   some ([q]:List Str)
  else
   some i)).bind fun (r:(List Str)) =>
  some r)
def zBi (d:(List GAxis)) (h:(List GField)) (i:Bool):(Int×(List (List Str)))→Option ((Int×(List (List Str))) ⊕ ((List (List Str)) ⊕ (List (List Str))))
 | (b,c) =>
  (bif decide (b<(d.length:Int)) then
   (xnth d b).bind fun j =>
   (zDp j h i).bind fun k =>
   (xnth c b).bind fun o =>
   (xput c b k).bind fun f =>
   (xnth f b).bind fun l =>
   (bif (l.length:Int)==0 then
    some (.inr (.inr ([]:List (List Str))))
   else
    some (.inl (wr (b+1),f)))
  else
   some (.inr (.inl c)))
def zBh (f:(List (List Str))) (d:(List Int)):(Int×(List Str))→Option ((Int×(List Str)) ⊕ (List Str))
 | (b,c) =>
  (bif decide (b<(d.length:Int)) then
   (xnth d b).bind fun h =>
   (xnth f b).bind fun i =>
   (xnth i h).bind fun j =>
   (xnth c b).bind fun l =>
   (xput c b j).bind fun k =>
   some (.inl (wr (b+1),k))
  else
   some (.inr c))
def zBg (d:(List (List Str))):(Int×(List Int))→Option ((Int×(List Int)) ⊕ (Int×(List Int)))
 | (b,c) =>
  (bif decide (0≤b) then
   (xnth c b).bind fun f =>
   (xnth d b).bind fun h =>
   some (f==(wr ((h.length:Int) - 1)))
  else
   some false).bind fun i =>
  (bif i then
   (xnth c b).bind fun k =>
   (xput c b 0).bind fun j =>
   some (.inl (wr (b - 1),j))
  else
   some (.inr (b,c)))
def zBJ (j:(List GAxis)) (k:Int) (h:(List (List Str))):((List (List Str))×(List Int))→Option (((List (List Str))×(List Int)) ⊕ (List (List Str)))
 | (c,d) =>
  (bif decide ((c.length:Int)<k) then
   (xmake (j.length:Int) ([]:Str)).bind fun l =>
   (zAF (zBh h d) (0,l)).bind fun o =>
   (xapp c ([o]:List (List Str))).bind fun i =>
   (zAF (zBg h) (wr ((d.length:Int) - 1),d)).bind fun p=>match p with
   | (b,f) =>
    (bif decide (b<0) then
     some (.inr i)
    else
     (xnth f b).bind fun q =>
     (xnth f b).bind fun t =>
     (xput f b (wr (q+1))).bind fun r =>
     some (.inl (i,r)))
  else
   some (.inr c))
def zGB (b:(List GAxis)) (c:(List GField)) (d:Bool) (f:Int):Option (List (List Str)) :=
 (zBd b).bind fun h =>
 (bif !h then
  some ([]:List (List Str))
 else
  (xmake (b.length:Int) (([]:List Str):(List Str))).bind fun i =>
  (zAF (zBi b c d) (0,i)).bind fun j=>match j with
  | .inr e=>some e
  | .inl k =>
   (xmake (b.length:Int) (0:Int)).bind fun l =>
   (zAF (zBJ b f k) (([]:List (List Str)),l)).bind fun o =>
   some o)
def zEn (c:(List GAxis)) (d:(List GField)) (f:Bool):Option ((List Str)×Bool) :=
 (zGB c d f 1).bind fun b =>
 (bif (b.length:Int)==0 then
  some (([]:List Str),false)
 else
  (xnth b 0).bind fun h =>
  some (h,true))
def zDS (c:Str) (d:Str) (f:(List GAxis)) (b:Int):Option (Bool×Int) :=
 (xnth f (wr (b+1))).bind fun h =>
 (zEP h.fName c d).bind fun i =>
 some (i,wr (b+1))
def zAM (d:(List Str)) (h:(List Str)) (i:(List GAxis)):(Int×Int)→Option ((Int×Int) ⊕ (Int ⊕ (Bool×Int)))
 | (b,f) =>
  (bif decide (b<(d.length:Int)) then
   (xnth d b).bind fun j =>
   (xnth h b).bind fun k =>
   (zDS j k i f).bind fun c =>
   (bif !c.1 then
    some (.inr (.inr (false,c.2)))
   else
    some (.inl (wr (b+1),c.2)))
  else
   some (.inr (.inl f)))
def zAs (b:(List Str)) (c:(List Str)) (f:(List GAxis)) (d:Int):Option (Bool×Int) :=
 (bif (b.length:Int) !=(c.length:Int) then
  some (false,d)
 else
  (zAF (zAM b c f) (0,d)).bind fun h=>match h with
  | .inr e=>some e
  | .inl i =>
   some (true,i))
def zEK (b:(List GAxis)) (c:(List Str)) (d:(List Str)):Option Bool :=
 (bif (c.length:Int) !=(b.length:Int) then
  some false
 else
  (zAs c d b (-1)).bind fun f =>
  some f.1)
def zFd (b:(List Str)) (c:(List GAxis)) (d:(List Str)):Option Bool :=
 (zEK c b d).bind fun f =>
 some f
def zHd (b:(List GAxis)) (c:GEntry) (d:(List Str)):Option Bool :=
 (zAO c.fKeys (fun f=>zFd f b d)).bind fun h =>
 some h
def zFq (b:GEntry) (c:GTable) (d:(List Str)):Option Bool :=
 (zHd c.fAxes b d).bind fun f =>
 some f
def zFW (b:GTable) (d:(List GField)) (h:Bool):Option (Int×Bool) :=
 (bif (b.fAxes.length:Int)==0 then
  (zFT b.fEntries (fun c=>zFt c d)).bind fun i =>
  some (i,true)
 else
  (zEn b.fAxes d h).bind fun f =>
  (bif !f.2 then
   some ((-1),false)
  else
   (zFT b.fEntries (fun c=>zFq c b f.1)).bind fun j =>
   some (j,true)))
def zBQ (c:(List GParam)):(Str×Int)→Option ((Str×Int) ⊕ Str)
 | (f,b) =>
  (bif decide (b<(c.length:Int)) then
   (xnth c b).bind fun d =>
   (zA6 d.fValue).bind fun h =>
   ((bif !h then
    (zFj d.fValue).bind fun i =>
    some i
   else
    some d.fValue)).bind fun (j:Str) =>
   (xnth c b).bind fun k =>
   (xcat [59] k.fName).bind fun l =>
   (xcat l [61]).bind fun o =>
   (xcat o j).bind fun p =>
   (xcat f p).bind fun q =>
   some (.inl (q,wr (b+1)))
  else
   some (.inr f))
def zCm (b:Str) (c:(List GParam)):Option Str :=
 (zAF (zBQ c) (b,0)).bind fun d =>
 some d
def zCa (b:GMediaType):Option Str :=
 (xcat b.fType [47]).bind fun c =>
 (xcat c b.fSub).bind fun d =>
 (zCm d b.fParams).bind fun f =>
 some f
def zEa (b:Str):Option Bool :=
 (bif b==[42] then
  some true
 else
  (zGH b).bind fun c =>
  some (c)).bind fun d =>
 some d
def zBo (c:(Str×(List GParam)×Bool)) (b:Int):Option (Int ⊕ Int) :=
  (bif decide (b<(c.2.1.length:Int)) then
   (xnth c.2.1 b).bind fun d =>
   some (d.fName !=[113])
  else
   some false).bind fun f =>
  (bif f then
   some (.inl (wr (b+1)))
  else
   some (.inr b))
def zF5 (d:Int) (j:Str):Option (GPref×Bool) :=
 (zCJ j).bind fun b =>
 (bif !b.2.2 then
  some ((⟨[],0⟩:GPref),false)
 else
  (zAF (zBo b) 0).bind fun c =>
  ((bif decide (c<(b.2.1.length:Int)) then
   (xnth b.2.1 c).bind fun k =>
   (zD3 k.fValue).bind fun h =>
   (bif !h.2 then
    some (.inr ((⟨[],0⟩:GPref),false))
   else
    some (.inl h.1))
  else
   some (.inl 1000))).bind fun (l:(Int ⊕ (GPref×Bool)))=>match l with
  | .inr e=>some e
  | .inl i =>
   ((bif d==1 then
    (zBU b.1).bind fun f =>
    (xsub b.2.1 0 c).bind fun o =>
    (zCa (⟨f.1.fType,f.1.fSub,o⟩:GMediaType)).bind fun p =>
    some (.inr ((⟨p,i⟩:GPref),f.2))
   else
    (bif d==2 then
     (zEa b.1).bind fun q =>
     some (.inl q)
    else
     (zA6 b.1).bind fun r =>
     some (.inl r)))).bind fun (t:(Bool ⊕ (GPref×Bool)))=>match t with
   | .inr e=>some e
   | .inl u =>
    (zA7 d b.1).bind fun v =>
    some ((⟨v,i⟩:GPref),(u&&(c==0))))
def zDd (h:Int) (d:(List Str)):((List GPref)×Int)→Option (((List GPref)×Int) ⊕ (List GPref))
 | (c,b) =>
  (bif decide (b<(d.length:Int)) then
   (xnth d b).bind fun i =>
   (zF5 h i).bind fun f =>
   (bif f.2 then
    (xapp c ([f.1]:List GPref)).bind fun j =>
    some (.inl (j,wr (b+1)))
   else
    some (.inl (c,wr (b+1))))
  else
   some (.inr c))
def zFc (b:Int) (c:(List GField)):Option ((List GPref)×Bool) :=
 (zBf b).bind fun d =>
 (bif d==[] then
  some true
 else
  (zBf b).bind fun f =>
  (zIW c f).bind fun h =>
  some (!h)).bind fun i =>
 (bif i then
  some (([]:List GPref),false)
 else
  (zBf b).bind fun j =>
  (zGN c j).bind fun k =>
  (zAF (zDd b k) (([]:List GPref),0)).bind fun l =>
  some (l,true))
def zA8 (d:GMediaType) (c:GMediaType) (f:Int):(Bool×Int)→Option ((Bool×Int) ⊕ Bool)
 | (h,b) =>
  (bif decide (b<(c.fParams.length:Int)) then
   (bif h then
    some true
   else
    (xnth d.fParams f).bind fun i =>
    (xnth c.fParams b).bind fun j =>
    (bif i.fName==j.fName then
     (xnth d.fParams f).bind fun k =>
     (xnth c.fParams b).bind fun l =>
     (zBr k.fValue l.fValue).bind fun o =>
     some (o)
    else
     some false).bind fun p =>
    some (p)).bind fun q =>
   some (.inl (q,wr (b+1)))
  else
   some (.inr h))
def zBu (c:GMediaType) (d:GMediaType) (b:Int):Option (Int ⊕ (Unit ⊕ Int)) :=
  (bif decide (b<(c.fParams.length:Int)) then
   (zAF (zA8 c d b) (false,0)).bind fun f =>
   (bif !f then
    some (.inr (.inr (-1)))
   else
    some (.inl (wr (b+1))))
  else
   some (.inr (.inl ())))
def zEB (b:GMediaType) (c:GMediaType):Option Int :=
 (bif ((b.fType==[42])&&(b.fSub==[42])) then
  some 0
 else
  (bif b.fType !=c.fType then
   some (-1)
  else
   (bif b.fSub==[42] then
    some 1
   else
    (bif b.fSub !=c.fSub then
     some (-1)
    else
     (zAF (zBu b c) 0).bind fun d=>match d with
     | .inr e=>some e
     | .inl _ =>
      some (wr (2+(b.fParams.length:Int)))))))
def zBG (c:(List Str)) (d:(List Str)) (b:Int):Option (Int ⊕ (Unit ⊕ Int)) :=
  (bif decide (b<(c.length:Int)) then
   (bif b==(d.length:Int) then
    some true
   else
    (xnth c b).bind fun f =>
    (xnth d b).bind fun h =>
    (zBr f h).bind fun i =>
    some (!i)).bind fun j =>
   (bif j then
    some (.inr (.inr (-1)))
   else
    some (.inl (wr (b+1))))
  else
   some (.inr (.inl ())))
def zEq (b:Str) (c:Str):Option Int :=
 (zEa b).bind fun f =>
 (bif !f then
  some true
 else
  (zGH c).bind fun h =>
  some (!h)).bind fun i =>
 (bif i then
  some (-1)
 else
  (bif b==[42] then
   some 0
  else
   (zDN b).bind fun d =>
   (zDN c).bind fun j =>
   (zAF (zBG d j) 0).bind fun k=>match k with
   | .inr e=>some e
   | .inl _ =>
    some (d.length:Int)))
def zDJ (b:Int) (c:Str) (d:Str):Option Int :=
 (bif c==[42] then
  some 0
 else
  (zA7 b c).bind fun f =>
  (zA7 b d).bind fun h =>
  (bif f==h then
   some 1
  else
   some (-1)))
def zG1 (b:Int) (d:Str) (c:Str):Option Int :=
 ((bif b==1 then
  (zBU d).bind fun f =>
  (zCr c).bind fun h =>
  (bif (f.2&&h.2) then
   (zEB f.1 h.1).bind fun i =>
   some (.inr i)
  else
   some (.inl ()))
 else
  (bif b==2 then
   (zEq d c).bind fun j =>
   some (.inr j)
  else
   ((bif b==3 then
    some (b==3)
   else
    some (b==4))).bind fun (k:Bool) =>
   (bif k then
    (zA6 d).bind fun l =>
    (bif l then
     (zA6 c).bind fun o =>
     some (o)
    else
     some false).bind fun p =>
    (bif (p&&(c !=[42])) then
     (zDJ b d c).bind fun q =>
     some (.inr q)
    else
     some (.inl ()))
   else
    some (.inl ()))))).bind fun (r:(Unit ⊕ Int))=>match r with
 | .inr e=>some e
 | .inl _ =>
  some (-1)
def zCZ (i:Int) (c:(List GPref)) (j:Str):(Int×Int×Int)→Option ((Int×Int×Int) ⊕ Int)
 | (d,f,b) =>
  (bif decide (b<(c.length:Int)) then
   (xnth c b).bind fun k =>
   (zG1 i k.fRange j).bind fun h =>
   (bif decide (d<h) then
    (xnth c b).bind fun l =>
    some (.inl (h,l.fQ,wr (b+1)))
   else
    some (.inl (d,f,wr (b+1))))
  else
   some (.inr f))
def zBA (b:Int) (d:(List GPref)) (f:Bool) (c:Str):Option Int :=
 (bif !f then
  some 1000
 else
  (bif b==4 then
   (zBr c [105,100,101,110,116,105,116,121]).bind fun h =>
   some (h)
  else
   some false).bind fun i =>
  ((bif i then
   some 1
  else
   some 0)).bind fun (j:Int) =>
  (zAF (zCZ b d c) ((-1),j,0)).bind fun k =>
  some k)
def zDA (h:Int) (i:(List GPref)) (j:Bool) (f:(List Str)) (k:(List Str)) (l:Int):(Int×Int)→Option ((Int×Int) ⊕ Int)
 | (b,c) =>
  (bif decide (c<(f.length:Int)) then
   (xnth f c).bind fun o =>
   (zBA h i j o).bind fun d =>
   (bif (((k.length:Int)==0)||(decide (d<l))) then
    some (.inl ((if b<d then d else b),wr (c+1)))
   else
    some (.inl (b,wr (c+1))))
  else
   some (.inr b))
def zDC (f:Int) (h:(List GPref)) (i:Bool) (c:(List Str)) (j:Int):((List Str)×Int)→Option (((List Str)×Int) ⊕ (List Str))
 | (d,b) =>
  (bif decide (b<(c.length:Int)) then
   (xnth c b).bind fun k =>
   (zBA f h i k).bind fun l =>
   (bif l==j then
    (xnth c b).bind fun o =>
    (xapp d ([o]:List Str)).bind fun p =>
    some (.inl (p,wr (b+1)))
   else
    some (.inl (d,wr (b+1))))
  else
   some (.inr d))
def zDH (c:Int) (d:(List GPref)) (f:Bool) (h:(List Str)) (b:(List Str)):Option ((List Str) ⊕ (List Str)) :=
  (bif decide ((b.length:Int)<(h.length:Int)) then
   ((bif decide (0<(b.length:Int)) then
    (xnth b (wr ((b.length:Int) - 1))).bind fun j =>
    (zBA c d f j).bind fun k =>
    some k
   else
    some 0)).bind fun (l:Int) =>
   (zAF (zDA c d f h b l) (0,0)).bind fun i =>
   (bif decide (i≤0) then
    some (.inr b)
   else
    (zAF (zDC c d f h i) (b,0)).bind fun o =>
    some (.inl o))
  else
   some (.inr b))
def zFV (b:Int) (c:(List GPref)) (d:Bool) (f:(List Str)):Option (List Str) :=
 (zAF (zDH b c d f) ([]:List Str)).bind fun h =>
 some h
def zCI (d:GAxis) (f:Str):((List Str)×Int)→Option (((List Str)×Int) ⊕ (List Str))
 | (c,b) =>
  (bif decide (b<(d.fValues.length:Int)) then
   (xnth d.fValues b).bind fun h =>
   (bif h==f then
    (xapp c ([f]:List Str)).bind fun i =>
    some (.inl (i,wr (b+1)))
   else
    some (.inl (c,wr (b+1))))
  else
   some (.inr c))
def zFy (b:GAxis) (d:(List GField)) (i:Bool):Option (List Str) :=
 (zCu b).bind fun j =>
 (bif !j then
  some ([]:List Str)
 else
  (zFU b.fName).bind fun c =>
  ((bif c !=0 then
   (zFc c d).bind fun f =>
   (zFV c f.1 f.2 b.fValues).bind fun k =>
   some k
  else
   (zGN d b.fName).bind fun l =>
   (zGb l).bind fun o =>
   (zAF (zCI b o) (([]:List Str),0)).bind fun p =>
   some p)).bind fun (h:(List Str)) =>
  ((bif (((h.length:Int)==0)&&(!i)) then
   (xnth b.fValues 0).bind fun q =>
   some ([q]:List Str)
  else
   some h)).bind fun (r:(List Str)) =>
  some r)
def zC8 (f:(List (List Str))) (c:(List Str)) (h:Int):((List (List Str))×Int)→Option (((List (List Str))×Int) ⊕ (List (List Str)))
 | (d,b) =>
  (bif decide (b<(c.length:Int)) then
   (xnth f h).bind fun i =>
   (xapp ([]:List Str) i).bind fun j =>
   (xnth c b).bind fun k =>
   (xapp j ([k]:List Str)).bind fun l =>
   (xapp d ([l]:List (List Str))).bind fun o =>
   some (.inl (o,wr (b+1)))
  else
   some (.inr d))
def zDF (c:(List (List Str))) (f:(List Str)):((List (List Str))×Int)→Option (((List (List Str))×Int) ⊕ (List (List Str)))
 | (d,b) =>
  (bif decide (b<(c.length:Int)) then
   (zAF (zC8 c f b) (d,0)).bind fun h =>
   some (.inl (h,wr (b+1)))
  else
   some (.inr d))
def zDE (c:(List GAxis)) (f:(List GField)) (h:Bool):((List (List Str))×Int)→Option (((List (List Str))×Int) ⊕ (List (List Str)))
 | (d,b) =>
  (bif decide (b<(c.length:Int)) then
   (xnth c b).bind fun i =>
   (zFy i f h).bind fun j =>
   (zAF (zDF d j) (([]:List (List Str)),0)).bind fun k =>
   some (.inl (k,wr (b+1)))
  else
   some (.inr d))
def zIz (c:(List GAxis)) (d:(List GField)) (f:Bool):Option (List (List Str)) :=
 (zGw c).bind fun h =>
 (bif !h then
  some ([]:List (List Str))
 else
  (zAF (zDE c d f) (([([]:List Str)]:List (List Str)),0)).bind fun b =>
  ((bif decide (64<(b.length:Int)) then
   (xsub b 0 64).bind fun i =>
   some i
  else
   some b)).bind fun (j:(List (List Str))) =>
  some j)
def zHq (c:(List GAxis)) (d:(List GField)) (f:Bool):Option ((List Str)×Bool) :=
 (zIz c d f).bind fun b =>
 (bif (b.length:Int)==0 then
  some (([]:List Str),false)
 else
  (xnth b 0).bind fun h =>
  some (h,true))
def zBs (c:(List GAxis)) (d:(List Str)) (f:(List Str)) (b:Int):Option (Int ⊕ (Unit ⊕ Bool)) :=
  (bif decide (b<(c.length:Int)) then
   (xnth c b).bind fun h =>
   (xnth d b).bind fun i =>
   (xnth f b).bind fun j =>
   (zGX h.fName i j).bind fun k =>
   (bif !k then
    some (.inr (.inr false))
   else
    some (.inl (wr (b+1))))
  else
   some (.inr (.inl ())))
def zFL (b:(List GAxis)) (c:(List Str)) (d:(List Str)):Option Bool :=
 (bif (((c.length:Int) !=(b.length:Int))||((d.length:Int) !=(b.length:Int))) then
  some false
 else
  (zAF (zBs b c d) 0).bind fun f=>match f with
  | .inr e=>some e
  | .inl _ =>
   some true)
def zEC (c:(List GAxis)):((List GAxis)×Int)→Option (((List GAxis)×Int) ⊕ (List GAxis))
 | (d,b) =>
  (bif decide (b<(c.length:Int)) then
   (xnth c b).bind fun f =>
   (zAZ f.fValues).bind fun h =>
   (xapp d ([(⟨f.fName,h⟩:GAxis)]:List GAxis)).bind fun i =>
   some (.inl (i,wr (b+1)))
  else
   some (.inr d))
def zGc (b:(List GAxis)):Option (List GAxis) :=
 (zAF (zEC b) (([]:List GAxis),0)).bind fun c =>
 some c
def zDY (c:GTable):(Int×(List GAxis)×(List GEntry))→Option ((Int×(List GAxis)×(List GEntry)) ⊕ ((List GAxis)×(List GEntry)))
 | (b,d,f) =>
  (bif decide (b<(c.fEntries.length:Int)) then
   (xnth c.fEntries b).bind fun h =>
   (zEc h).bind fun i =>
   (xapp f ([i]:List GEntry)).bind fun j =>
   some (.inl (wr (b+1),d,j))
  else
   some (.inr (d,f)))
def zGk (b:GTable):Option GTable :=
 (zGc b.fAxes).bind fun c =>
 (zAF (zDY b) (0,c,([]:List GEntry))).bind fun d=>match d with
 | (f,h) =>
  some (⟨f,h⟩:GTable)
def zAP (c:(List GAxis)) (d:(List GAxis)) (f:(GAxis→GAxis→Option Bool)) (b:Int):Option (Int ⊕ (Unit ⊕ Bool)) :=
  (bif decide (b<(c.length:Int)) then
   (xnth c b).bind fun h =>
   (xnth d b).bind fun i =>
   (f h i).bind fun j =>
   (bif !j then
    some (.inr (.inr false))
   else
    some (.inl (wr (b+1))))
  else
   some (.inr (.inl ())))
def zAb (b:(List GAxis)) (c:(List GAxis)) (d:(GAxis→GAxis→Option Bool)):Option Bool :=
 (bif (b.length:Int) !=(c.length:Int) then
  some false
 else
  (zAF (zAP b c d) 0).bind fun f=>match f with
  | .inr e=>some e
  | .inl _ =>
   some true)
def zDs (b:GAxis) (c:GAxis):Option Bool :=
 (bif b.fName==c.fName then
  (zAY b.fValues c.fValues).bind fun d =>
  some (d)
 else
  some false).bind fun f =>
 some f
def zEh (b:(List GAxis)) (c:(List GAxis)):Option Bool :=
 (zAb b c zDs).bind fun d =>
 some d
def zCX (b:(List Str)) (c:(List GAxis)) (d:GEntry):Option Bool :=
 (zHd c d b).bind fun f =>
 some f
def zDc (d:(List GAxis)) (b:GEntry) (c:GEntry):Option Bool :=
 (bif (d.length:Int)==0 then
  (zAY b.fVary c.fVary).bind fun f =>
  (bif f then
   (zAY b.fSnapshot c.fSnapshot).bind fun h =>
   some (h)
  else
   some false).bind fun i =>
  some i
 else
  (zAO b.fKeys (fun j=>zCX j d c)).bind fun k =>
  some k)
def zFg (b:GEntry) (c:(List GAxis)) (d:GEntry):Option Bool :=
 (zDc c d b).bind fun f =>
 some f
def zAQ (c:(List GEntry)) (d:(GEntry→Option Bool)) (b:Int):Option (Int ⊕ (Unit ⊕ Int)) :=
  (bif decide (b<(c.length:Int)) then
   (xnth c b).bind fun f =>
   (d f).bind fun h =>
   (bif h then
    some (.inr (.inr b))
   else
    some (.inl (wr (b+1))))
  else
   some (.inr (.inl ())))
def zAp (b:(List GEntry)) (c:(GEntry→Option Bool)):Option Int :=
 (zAF (zAQ b c) 0).bind fun d=>match d with
 | .inr e=>some e
 | .inl _ =>
  some (-1)
def zC4 (c:GEntry) (b:Int):Option (Int ⊕ (Unit ⊕ Bool)) :=
  (bif decide (b<(c.fVary.length:Int)) then
   (xnth c.fVary (wr (b - 1))).bind fun d =>
   (xnth c.fVary b).bind fun f =>
   (bif !(Op.bytesLess d f) then
    some (.inr (.inr false))
   else
    some (.inl (wr (b+1))))
  else
   some (.inr (.inl ())))
def zF2 (b:GEntry):Option Bool :=
 (bif ((decide (0<(b.fKeys.length:Int)))||((b.fVary.length:Int) !=(b.fSnapshot.length:Int))) then
  some false
 else
  (zAF (zC4 b) 1).bind fun c=>match c with
  | .inr e=>some e
  | .inl _ =>
   some true)
def zCA (c:(List GAxis)) (d:(List Str)) (b:Int):Option (Int ⊕ (Unit ⊕ (Int ⊕ (Unit ⊕ Bool)))) :=
  (bif decide (b<(c.length:Int)) then
   (xnth c b).bind fun f =>
   (xnth d b).bind fun h =>
   (zAg f.fValues h).bind fun i =>
   (bif !i then
    some (.inr (.inr (.inr (.inr false))))
   else
    some (.inl (wr (b+1))))
  else
   some (.inr (.inl ())))
def zCh (c:(List GAxis)) (d:GEntry) (b:Int):Option (Int ⊕ (Unit ⊕ Bool)) :=
  (bif decide (b<(d.fKeys.length:Int)) then
   (xnth d.fKeys b).bind fun f =>
   (bif (f.length:Int) !=(c.length:Int) then
    some (.inr (.inr false))
   else
    (zAF (zCA c f) 0).bind fun h=>match h with
    | .inr e=>some e
    | .inl _ =>
     some (.inl (wr (b+1))))
  else
   some (.inr (.inl ())))
def zGm (c:(List GAxis)) (b:GEntry):Option Bool :=
 (bif (((decide ((b.fKeys.length:Int)<1))||(decide (64<(b.fKeys.length:Int))))||(decide (0<(wr ((b.fVary.length:Int)+(b.fSnapshot.length:Int)))))) then
  some false
 else
  (zAF (zCh c b) 0).bind fun d=>match d with
  | .inr e=>some e
  | .inl _ =>
   some true)
def zFJ (b:GEntry) (c:GTable) (d:GEntry):Option Bool :=
 (zDc c.fAxes d b).bind fun f =>
 some f
def zCg (b:GTable) (c:Int):Option (Int ⊕ (Unit ⊕ Bool)) :=
  (bif decide (c<(b.fEntries.length:Int)) then
   (xnth b.fEntries c).bind fun d =>
   (bif (b.fAxes.length:Int)==0 then
    (zF2 d).bind fun f =>
    (bif !f then
     some (.inr (.inr false))
    else
     some (.inl (wr (c+1))))
   else
    (zGm b.fAxes d).bind fun h =>
    (bif !h then
     some true
    else
     (xsub b.fEntries 0 c).bind fun i =>
     (zFT i (fun j=>zFJ j b d)).bind fun k =>
     some (decide (0≤k))).bind fun l =>
    (bif l then
     some (.inr (.inr false))
    else
     some (.inl (wr (c+1)))))
  else
   some (.inr (.inl ())))
def zFb (b:GTable) (c:Int):Option Bool :=
 (bif decide (c<(b.fEntries.length:Int)) then
  some true
 else
  (bif decide (0<(b.fAxes.length:Int)) then
   (zBd b.fAxes).bind fun d =>
   some (!d)
  else
   some false).bind fun f =>
  some (f)).bind fun h =>
 (bif h then
  some false
 else
  (zAF (zCg b) 0).bind fun i=>match i with
  | .inr e=>some e
  | .inl _ =>
   some true)
def zAR (b:(List GEntry)) (c:(GEntry→Option Bool)):Option (List GEntry) :=
 (zAp b c).bind fun i=>delR b c i
def zEy (f:GTable) (h:GEntry) (d:(List GAxis)) (b:Int):Option GTable :=
 (zGk f).bind fun i =>
 (zEh f.fAxes d).bind fun j =>
 ((bif !j then
  (zGc d).bind fun k =>
  some (k,([]:List GEntry))
 else
  some (i.fAxes,i.fEntries))).bind fun (l:((List GAxis)×(List GEntry))) =>
 match l with
 | (o,p) =>
  (zAR p (fun q=>zFg q d h)).bind fun r =>
  (zEc h).bind fun t =>
  (xapp r ([t]:List GEntry)).bind fun c =>
  (xsub c (if (wr ((c.length:Int) - (if b<0 then 0 else b)))<0 then 0 else (wr ((c.length:Int) - (if b<0 then 0 else b)))) c.length).bind fun u =>
  some (⟨o,u⟩:GTable)
def zFY:Option Bool :=
 (zEy (⟨([]:List GAxis),([]:List GEntry)⟩:GTable) (⟨([([[101,110]]:List Str),([[102,114]]:List Str)]:List (List Str)),([]:List Str),([]:List Str),[],([]:List GField),[49],0,0⟩:GEntry) ([(⟨[97,99,99,101,112,116,45,108,97,110,103,117,97,103,101],([[101,110],[102,114]]:List Str)⟩:GAxis)]:List GAxis) 5).bind fun d =>
 (zEy d (⟨([([[102,114]]:List Str)]:List (List Str)),([]:List Str),([]:List Str),[],([]:List GField),[50],0,0⟩:GEntry) ([(⟨[97,99,99,101,112,116,45,108,97,110,103,117,97,103,101],([[101,110],[102,114]]:List Str)⟩:GAxis)]:List GAxis) 5).bind fun b =>
 (zFW b ([(⟨[65,99,99,101,112,116,45,76,97,110,103,117,97,103,101],[101,110]⟩:GField)]:List GField) true).bind fun c =>
 (bif (b.fEntries.length:Int)==1 then
  (xnth b.fEntries 0).bind fun f =>
  some (f.fBody==[50])
 else
  some false).bind fun h =>
 (bif ((h&&(c.1==(-1)))&&c.2) then
  (zFb b 5).bind fun i =>
  some (i)
 else
  some false).bind fun j =>
 some j
def zAi (b:(GEntry×(List GAxis))) (f:((List Str)×Bool)):(Bool×Int)→Option ((Bool×Int) ⊕ Bool)
 | (d,c) =>
  (bif decide (c<(b.1.fKeys.length:Int)) then
   (bif d then
    some true
   else
    (xnth b.1.fKeys c).bind fun h =>
    (zFL b.2 h f.1).bind fun i =>
    some (i)).bind fun j =>
   some (.inl (j,wr (c+1)))
  else
   some (.inr d))
def zCj (i:GTable) (c:GRequest) (j:GResponse) (k:Bool):Option Bool :=
 (zHj i).bind fun l =>
 (bif !l then
  some true
 else
  (zF1 c).bind fun o =>
  some (!o)).bind fun p =>
 (bif p then
  some true
 else
  (zFR j).bind fun q =>
  some (!q)).bind fun r =>
 (bif r then
  some true
 else
  (zHl c j 0 0).bind fun b =>
  (zEy i b.1 b.2 64).bind fun f =>
  (zFW f c.fFields k).bind fun d =>
  (bif (b.2.length:Int)==0 then
   (bif (d.2&&(d.1==(wr ((f.fEntries.length:Int) - 1)))) then
    (zFY).bind fun t =>
    some (t)
   else
    some false).bind fun u =>
   some u
  else
   (zHq b.2 c.fFields k).bind fun h =>
   (zAF (zAi b h) (false,0)).bind fun v =>
   (bif ((d.2==h.2)&&((d.1==(wr ((f.fEntries.length:Int) - 1)))==(h.2&&v))) then
    (zFY).bind fun x =>
    some (x)
   else
    some false).bind fun z =>
   some z))
end
end Go.Eng.Pure
