/- A part. -/
import Derived.Test.YtffangblkofjdaaGreatDoorPure2
set_option linter.unusedVariables false
namespace Go.Eng.Pure
open Go Go.Eng
set_option linter.unusedVariables false
noncomputable section
def zEd (b:Int) (c:Str) (d:Str):Option Int :=
 (bif c==[42] then
  some 0
 else
  (zAq b c).bind fun f =>
  (zAq b d).bind fun h =>
  (bif f==h then
   some 1
  else
   some (-1)))
def zEb (b:Int) (d:Str) (c:Str):Option Int :=
 ((bif b==1 then
  (zAo d).bind fun f =>
  (zBm c).bind fun h =>
  (bif ((!f.2)||(!h.2)) then
   some (.inr (-1))
  else
   (zC2 f.1 h.1).bind fun i =>
   some (.inr i))
 else
  (bif b==2 then
   (zDh d c).bind fun j =>
   some (.inr j)
  else
   ((bif b==3 then
    some (b==3)
   else
    some (b==4))).bind fun (k:Bool) =>
   (bif k then
    (zAW d).bind fun l =>
    (bif !l then
     some true
    else
     (zAW c).bind fun o =>
     some (!o)).bind fun p =>
    (bif (p||(c==[42])) then
     some (.inr (-1))
    else
     (zEd b d c).bind fun r =>
     some (.inr r))
   else
    some (.inl ()))))).bind fun (t:(Unit ⊕ Int))=>match t with
 | .inr e=>some e
 | .inl _ =>
  some (-1)
def zDK (j:Int) (d:(List GPref)) (k:Str):(Int×Int×Int)→Option ((Int×Int×Int) ⊕ (Int×Int))
 | (c,f,b) =>
  (bif decide (b<(d.length:Int)) then
   (xnth d b).bind fun h =>
   (zEb j h.fRange k).bind fun i =>
   (bif decide (c<i) then
    some (.inl (i,h.fQ,wr (b+1)))
   else
    some (.inl (c,f,wr (b+1))))
  else
   some (.inr (c,f)))
def zCu (b:Int) (d:(List GPref)) (f:Bool) (c:Str):Option Int :=
 (bif !f then
  some 1000
 else
  (zAE (zDK b d c) ((-1),0,0)).bind fun h=>match h with
  | (i,j) =>
   (bif ((decide (i<0))&&(b==4)) then
    (zA0 c [105,100,101,110,116,105,116,121]).bind fun k =>
    some (k)
   else
    some false).bind fun l =>
   (bif l then
    some 1
   else
    some j))
def zCx (c:(List Int)) (d:Int) (b:Int):Option (Int ⊕ Int) :=
  (bif decide (0<b) then
   (xnth c (wr (b - 1))).bind fun f =>
   some (decide (f<d))
  else
   some false).bind fun h =>
  (bif h then
   some (.inl (wr (b - 1)))
  else
   some (.inr b))
def zBr (k:Int) (l:(List GPref)) (o:Bool) (h:(List Str)):((List Str)×(List Int)×Int)→Option (((List Str)×(List Int)×Int) ⊕ (List Str))
 | (d,b,c) =>
  (bif decide (c<(h.length:Int)) then
   (xnth h c).bind fun i =>
   (zCu k l o i).bind fun f =>
   (bif decide (f≤0) then
    some (.inl (d,b,wr (c+1)))
   else
    (zAE (zCx b f) (b.length:Int)).bind fun j =>
    (insS d j ([i]:List Str)).bind fun p =>
    (insS b j ([f]:List Int)).bind fun r =>
    some (.inl (p,r,wr (c+1))))
  else
   some (.inr d))
def zET (b:Int) (c:(List GPref)) (d:Bool) (f:(List Str)):Option (List Str) :=
 (zAE (zBr b c d f) (([]:List Str),([]:List Int),0)).bind fun h =>
 some h
def zAV (b:(List Str)):Option (List Str) :=
 xapp [] b
def zAi (b:(List GField)):Option (List GField) :=
 xapp [] b
def zJs (c:GEntry):(Int×(List (List Str))×(List Str)×(List Str)×Str×(List GField)×Str×Int×Int)→Option ((Int×(List (List Str))×(List Str)×(List Str)×Str×(List GField)×Str×Int×Int) ⊕ ((List (List Str))×(List Str)×(List Str)×Str×(List GField)×Str×Int×Int))
 | (b,d,f,h,i,j,k,l,o) =>
  (bif decide (b<(c.fKeys.length:Int)) then
   (xnth c.fKeys b).bind fun p =>
   (zAV p).bind fun r =>
   (xapp d ([r]:List (List Str))).bind fun t =>
   some (.inl (wr (b+1),t,f,h,i,j,k,l,o))
  else
   some (.inr (d,f,h,i,j,k,l,o)))
def zIz (b:GEntry):Option GEntry :=
 (zAE (zJs b) (0,([]:List (List Str)),b.fVary,b.fSnapshot,b.fReason,b.fFields,b.fBody,b.fRequested,b.fReceived)).bind fun c=>match c with
 | (d,f,h,i,j,k,l,o) =>
  (zAV f).bind fun p =>
  (zAV h).bind fun r =>
  (zAi j).bind fun t =>
  some (⟨d,p,r,i,t,k,l,o⟩:GEntry)
def zGD (c:(List GAxis)) (b:Int):Option (Int ⊕ (Unit ⊕ Bool)) :=
  (bif ((decide (b<(c.length:Int)))&&(decide (b<7))) then
   (xnth c b).bind fun d =>
   (bif decide (100<(d.fName.length:Int)) then
    some true
   else
    (xnth c b).bind fun f =>
    (zCM f.fValues).bind fun h =>
    some (!h)).bind fun i =>
   (bif i then
    some (.inr (.inr false))
   else
    some (.inl (wr (b+1))))
  else
   some (.inr (.inl ())))
def zHo (b:(List GAxis)):Option Bool :=
 (zAE (zGD b) 0).bind fun c=>match c with
 | .inr e=>some e
 | .inl _ =>
  some (decide ((b.length:Int)≤6))
def zFi (c:GTable) (b:Int):Option (Int ⊕ (Unit ⊕ Bool)) :=
  (bif ((decide (b<(c.fEntries.length:Int)))&&(decide (b<9))) then
   (xnth c.fEntries b).bind fun d =>
   (zGR d).bind fun f =>
   (bif !f then
    some (.inr (.inr false))
   else
    some (.inl (wr (b+1))))
  else
   some (.inr (.inl ())))
def zGS (b:GTable):Option Bool :=
 (zAE (zFi b) 0).bind fun c=>match c with
 | .inr e=>some e
 | .inl _ =>
  (bif decide ((b.fEntries.length:Int)≤8) then
   (zHo b.fAxes).bind fun d =>
   some (d)
  else
   some false).bind fun f =>
  some f
def zEn (b:GEntry) (c:(List GField)):Option Bool :=
 (zFC b.fVary b.fSnapshot c).bind fun d =>
 some d
def zCO (c:(List GEntry)) (d:(GEntry→Option Bool)) (b:Int):Option (Int ⊕ (Unit ⊕ Int)) :=
  (bif decide (0≤b) then
   (xnth c b).bind fun f =>
   (d f).bind fun h =>
   (bif h then
    some (.inr (.inr b))
   else
    some (.inl (wr (b - 1))))
  else
   some (.inr (.inl ())))
def zE7 (b:(List GEntry)) (c:(GEntry→Option Bool)):Option Int :=
 (zAE (zCO b c) (wr ((b.length:Int) - 1))).bind fun d=>match d with
 | .inr e=>some e
 | .inl _ =>
  some (-1)
def zCT (b:GParam):Option Bool :=
 some (b.fName==[113])
def zJp (c:Str):((List UInt8)×Int)→Option (((List UInt8)×Int) ⊕ (List UInt8))
 | (d,b) =>
  (bif decide (b<(c.length:Int)) then
   (xnth c b).bind fun c26 =>
   (bif c26==34 then
    some true
   else
    (xnth c b).bind fun c29 =>
    some (c29==92)).bind fun f =>
   ((bif f then
    (xapp d ([92]:List UInt8)).bind fun h =>
    some h
   else
    some d)).bind fun (i:(List UInt8)) =>
   (xnth c b).bind fun c54 =>
   (xapp i ([c54]:List UInt8)).bind fun j =>
   some (.inl (j,wr (b+1)))
  else
   some (.inr d))
def zEL (b:Str):Option Str :=
 (zAE (zJp b) (([34]:List UInt8),0)).bind fun c =>
 (xapp c ([34]:List UInt8)).bind fun d =>
 some d
def zCF (d:(List GParam)):(Int×(List UInt8))→Option ((Int×(List UInt8)) ⊕ (List UInt8))
 | (b,f) =>
  (bif decide (b<(d.length:Int)) then
   (xnth d b).bind fun c =>
   (xcat [59] c.fName).bind fun i =>
   (xcat i [61]).bind fun j =>
   (zAD j f).bind fun h =>
   (zAW c.fValue).bind fun k =>
   (bif k then
    (zAD c.fValue h.2.2).bind fun l =>
    some (.inl (wr (b+1),l.2.2))
   else
    (zEL c.fValue).bind fun o =>
    (zAD o h.2.2).bind fun p =>
    some (.inl (wr (b+1),p.2.2)))
  else
   some (.inr f))
def zEl (b:Str) (c:(List GParam)):Option Str :=
 (zAD b ([]:List UInt8)).bind fun d =>
 (zAE (zCF c) (0,d.2.2)).bind fun f =>
 (zAa f).bind fun h =>
 some h
def zCi (b:GMediaType):Option Str :=
 (xcat b.fType [47]).bind fun c =>
 (xcat c b.fSub).bind fun d =>
 (zEl d b.fParams).bind fun f =>
 some f
def zEY (c:Str) (d:(List GParam)):Option (Str×Bool) :=
 (zAo c).bind fun b =>
 (zCi (⟨b.1.fType,b.1.fSub,d⟩:GMediaType)).bind fun f =>
 some (f,b.2)
def zEQ (c:Int) (b:Str) (d:(List GParam)):Option (Str×Bool) :=
 (zAq c b).bind fun f =>
 (zB3 b).bind fun h =>
 some (f,(h&&((d.length:Int)==0)))
def zDA (b:Int) (c:Str) (d:(List GParam)):Option (Str×Bool) :=
 (bif decide (b=1) then
  (zEY c d).bind fun f =>
  some (f.1,f.2)
 else
  (bif decide (b=2) then
   (zEQ b c d).bind fun h =>
   some (h.1,h.2)
  else
   (zAq b c).bind fun i =>
   (zAW c).bind fun j =>
   some (i,(j&&((d.length:Int)==0)))))
def zFW (h:Int) (i:Str):Option (GPref×Bool) :=
 (zEJ i).bind fun b =>
 (bif !b.2.2 then
  some ((⟨[],0⟩:GPref),false)
 else
  (zAP b.2.1 zCT).bind fun c =>
  ((bif decide (0≤c) then
   (xnth b.2.1 c).bind fun j =>
   (zBX j.fValue).bind fun d =>
   (bif !d.2 then
    some (.inr ((⟨[],0⟩:GPref),false))
   else
    (xsub b.2.1 0 c).bind fun k =>
    some (.inl (k,d.1)))
  else
   some (.inl (b.2.1,1000)))).bind fun (l:(((List GParam)×Int) ⊕ (GPref×Bool)))=>match l with
  | .inr e=>some e
  | .inl (o,p) =>
   (zDA h b.1 o).bind fun f =>
   some ((⟨f.1,p⟩:GPref),f.2))
def zDJ (h:Int) (d:(List Str)):((List GPref)×Int)→Option (((List GPref)×Int) ⊕ (List GPref))
 | (c,b) =>
  (bif decide (b<(d.length:Int)) then
   (xnth d b).bind fun i =>
   (zFW h i).bind fun f =>
   (bif f.2 then
    (xapp c ([f.1]:List GPref)).bind fun j =>
    some (.inl (j,wr (b+1)))
   else
    some (.inl (c,wr (b+1))))
  else
   some (.inr c))
def zDo (c:Int) (d:(List GField)):Option ((List GPref)×Bool) :=
 (zBC c).bind fun b =>
 (bif b==[] then
  some true
 else
  (zA5 d b).bind fun f =>
  some (!f)).bind fun h =>
 (bif h then
  some (([]:List GPref),false)
 else
  (zB8 d b).bind fun i =>
  (zAE (zDJ c i) (([]:List GPref),0)).bind fun j =>
  some (j,true))
def zAf (c:(List Str)) (d:Str) (b:Int):Option (Int ⊕ (Unit ⊕ Int)) :=
  (bif decide (b<(c.length:Int)) then
   (xnth c b).bind fun f =>
   (bif d==f then
    some (.inr (.inr b))
   else
    some (.inl (wr (b+1))))
  else
   some (.inr (.inl ())))
def zBS (b:(List Str)) (c:Str):Option Int :=
 (zAE (zAf b c) 0).bind fun d=>match d with
 | .inr e=>some e
 | .inl _ =>
  some (-1)
def zAd (b:(List Str)) (c:Str):Option Bool :=
 (zBS b c).bind fun d =>
 some (decide (0≤d))
def zBD (b:GAxis) (d:(List GField)) (j:Bool):Option (List Str) :=
 (zA6 ([b]:List GAxis)).bind fun k =>
 (bif !k then
  some ([]:List Str)
 else
  (zCn b.fName).bind fun c =>
  ((bif c !=0 then
   (zDo c d).bind fun f =>
   (zET c f.1 f.2 b.fValues).bind fun l =>
   some l
  else
   (zB8 d b.fName).bind fun o =>
   (zE5 o).bind fun h =>
   (zAd b.fValues h).bind fun p =>
   (bif p then
    some ([h]:List Str)
   else
    some ([]:List Str)))).bind fun (i:(List Str)) =>
  ((bif (((i.length:Int)==0)&&(!j)) then
   (xnth b.fValues 0).bind fun r =>
   some ([r]:List Str)
  else
   some i)).bind fun (t:(List Str)) =>
  some t)
def zBH (d:(List GAxis)) (h:(List GField)) (i:Bool):(Int×(List (List Str)))→Option ((Int×(List (List Str))) ⊕ ((List (List Str)) ⊕ (List (List Str))))
 | (b,c) =>
  (bif decide (b<(d.length:Int)) then
   (xnth d b).bind fun j =>
   (zBD j h i).bind fun k =>
   (xnth c b).bind fun o =>
   (xput c b k).bind fun f =>
   (xnth f b).bind fun l =>
   (bif (l.length:Int)==0 then
    some (.inr (.inr ([]:List (List Str))))
   else
    some (.inl (wr (b+1),f)))
  else
   some (.inr (.inl c)))
def zBK (f:(List (List Str))) (d:(List Int)):(Int×(List Str))→Option ((Int×(List Str)) ⊕ (List Str))
 | (b,c) =>
  (bif decide (b<(d.length:Int)) then
   (xnth d b).bind fun h =>
   (xnth f b).bind fun i =>
   (xnth i h).bind fun j =>
   (xnth c b).bind fun l =>
   (xput c b j).bind fun k =>
   some (.inl (wr (b+1),k))
  else
   some (.inr c))
def zBI (d:(List (List Str))):(Int×(List Int))→Option ((Int×(List Int)) ⊕ (Int×(List Int)))
 | (b,c) =>
  (bif decide (0≤b) then
   (xnth c b).bind fun f =>
   (xnth d b).bind fun h =>
   some (f==(wr ((h.length:Int) - 1)))
  else
   some false).bind fun i =>
  (bif i then
   (xnth c b).bind fun k =>
   (xput c b 0).bind fun j =>
   some (.inl (wr (b - 1),j))
  else
   some (.inr (b,c)))
def zA3 (j:(List GAxis)) (k:Int) (h:(List (List Str))):((List (List Str))×(List Int))→Option (((List (List Str))×(List Int)) ⊕ (List (List Str)))
 | (c,d) =>
  (bif decide ((c.length:Int)<k) then
   (xmake (j.length:Int) ([]:Str)).bind fun l =>
   (zAE (zBK h d) (0,l)).bind fun o =>
   (xapp c ([o]:List (List Str))).bind fun i =>
   (zAE (zBI h) (wr ((d.length:Int) - 1),d)).bind fun p=>match p with
   | (b,f) =>
    (bif decide (b<0) then
     some (.inr i)
    else
     (xnth f b).bind fun r =>
     (xnth f b).bind fun u =>
     (xput f b (wr (r+1))).bind fun t =>
     some (.inl (i,t)))
  else
   some (.inr c))
def zDj (b:(List GAxis)) (c:(List GField)) (d:Bool) (f:Int):Option (List (List Str)) :=
 (zA6 b).bind fun h =>
 (bif !h then
  some ([]:List (List Str))
 else
  (xmake (b.length:Int) (([]:List Str):(List Str))).bind fun i =>
  (zAE (zBH b c d) (0,i)).bind fun j=>match j with
  | .inr e=>some e
  | .inl k =>
   (xmake (b.length:Int) (0:Int)).bind fun l =>
   (zAE (zA3 b f k) (([]:List (List Str)),l)).bind fun o =>
   some o)
def zCe (c:(List GAxis)) (d:(List GField)) (f:Bool):Option ((List Str)×Bool) :=
 (zDj c d f 1).bind fun b =>
 (bif (b.length:Int)==0 then
  some (([]:List Str),false)
 else
  (xnth b 0).bind fun h =>
  some (h,true))
def zCa (c:Str) (d:Str) (f:(List GAxis)) (b:Int):Option (Bool×Int) :=
 (xnth f (wr (b+1))).bind fun h =>
 (zDE h.fName c d).bind fun i =>
 some (i,wr (b+1))
def zAJ (d:(List Str)) (h:(List Str)) (i:(List GAxis)):(Int×Int)→Option ((Int×Int) ⊕ (Int ⊕ (Bool×Int)))
 | (b,f) =>
  (bif decide (b<(d.length:Int)) then
   (xnth d b).bind fun j =>
   (xnth h b).bind fun k =>
   (zCa j k i f).bind fun c =>
   (bif !c.1 then
    some (.inr (.inr (false,c.2)))
   else
    some (.inl (wr (b+1),c.2)))
  else
   some (.inr (.inl f)))
def zAc (b:(List Str)) (c:(List Str)) (f:(List GAxis)) (d:Int):Option (Bool×Int) :=
 (bif (b.length:Int) !=(c.length:Int) then
  some (false,d)
 else
  (zAE (zAJ b c f) (0,d)).bind fun h=>match h with
  | .inr e=>some e
  | .inl i =>
   some (true,i))
def zC3 (b:(List GAxis)) (c:(List Str)) (d:(List Str)):Option Bool :=
 (bif (c.length:Int) !=(b.length:Int) then
  some false
 else
  (zAc c d b (-1)).bind fun f =>
  some f.1)
def zEK (b:(List Str)) (c:(List GAxis)) (d:(List Str)):Option Bool :=
 (zC3 c b d).bind fun f =>
 some f
def zHm (b:(List GAxis)) (c:GEntry) (d:(List Str)):Option Bool :=
 (zAb c.fKeys (fun f=>zEK f b d)).bind fun h =>
 some h
def zEq (b:GEntry) (c:GTable) (d:(List Str)):Option Bool :=
 (zHm c.fAxes b d).bind fun f =>
 some f
def zEG (b:GTable) (d:(List GField)) (h:Bool):Option (Int×Bool) :=
 (bif (b.fAxes.length:Int)==0 then
  (zE7 b.fEntries (fun c=>zEn c d)).bind fun i =>
  some (i,true)
 else
  (zCe b.fAxes d h).bind fun f =>
  (bif !f.2 then
   some ((-1),false)
  else
   (zE7 b.fEntries (fun c=>zEq c b f.1)).bind fun j =>
   some (j,true)))
def zKt (c:(List GAxis)):((List GAxis)×Int)→Option (((List GAxis)×Int) ⊕ (List GAxis))
 | (d,b) =>
  (bif decide (b<(c.length:Int)) then
   (xnth c b).bind fun f =>
   (zAV f.fValues).bind fun h =>
   (xapp d ([(⟨f.fName,h⟩:GAxis)]:List GAxis)).bind fun i =>
   some (.inl (i,wr (b+1)))
  else
   some (.inr d))
def zJ0 (b:(List GAxis)):Option (List GAxis) :=
 (zAE (zKt b) (([]:List GAxis),0)).bind fun c =>
 some c
def zJy (c:GTable):(Int×(List GAxis)×(List GEntry))→Option ((Int×(List GAxis)×(List GEntry)) ⊕ ((List GAxis)×(List GEntry)))
 | (b,d,f) =>
  (bif decide (b<(c.fEntries.length:Int)) then
   (xnth c.fEntries b).bind fun h =>
   (zIz h).bind fun i =>
   (xapp f ([i]:List GEntry)).bind fun j =>
   some (.inl (wr (b+1),d,j))
  else
   some (.inr (d,f)))
def zMh (b:GTable):Option GTable :=
 (zJ0 b.fAxes).bind fun c =>
 (zAE (zJy b) (0,c,([]:List GEntry))).bind fun d=>match d with
 | (f,h) =>
  some (⟨f,h⟩:GTable)
def zBB (c:(List GAxis)) (d:(List GAxis)) (f:(GAxis→GAxis→Option Bool)) (b:Int):Option (Int ⊕ (Unit ⊕ Bool)) :=
  (bif decide (b<(c.length:Int)) then
   (xnth c b).bind fun h =>
   (xnth d b).bind fun i =>
   (f h i).bind fun j =>
   (bif !j then
    some (.inr (.inr false))
   else
    some (.inl (wr (b+1))))
  else
   some (.inr (.inl ())))
def zBJ (b:(List GAxis)) (c:(List GAxis)) (d:(GAxis→GAxis→Option Bool)):Option Bool :=
 (bif (b.length:Int) !=(c.length:Int) then
  some false
 else
  (zAE (zBB b c d) 0).bind fun f=>match f with
  | .inr e=>some e
  | .inl _ =>
   some true)
def zFj (b:GAxis) (c:GAxis):Option Bool :=
 (bif b.fName==c.fName then
  (zAn b.fValues c.fValues).bind fun d =>
  some (d)
 else
  some false).bind fun f =>
 some f
def zJw (b:(List GAxis)) (c:(List GAxis)):Option Bool :=
 (zBJ b c zFj).bind fun d =>
 some d
def zKl (c:GTable):(Int×Int)→Option ((Int×Int) ⊕ Int)
 | (d,b) =>
  (bif decide (b<(c.fEntries.length:Int)) then
   (xnth c.fEntries b).bind fun f =>
   (zJz f).bind fun h =>
   some (.inl (wr (d+h),wr (b+1)))
  else
   some (.inr d))
def zOF (b:GTable):Option Int :=
 (zAE (zKl b) (0,0)).bind fun c =>
 some c
def zJW (b:Str):Option Bool :=
 (bif decide (7≤(b.length:Int)) then
  (xsub b 0 7).bind fun c =>
  (zA0 c [104,116,116,112,58,47,47]).bind fun d =>
  some (d)
 else
  some false).bind fun f =>
 some f
def zCl (b:UInt8):Option Bool :=
 some ((((decide (48≤b))&&(decide (b≤57)))||((decide (65≤b))&&(decide (b≤90))))||((decide (97≤b))&&(decide (b≤122))))
def zGH (b:UInt8):Option Bool :=
 (zCl b).bind fun c =>
 some ((c||(b==45))||(b==46))
end
end Go.Eng.Pure
