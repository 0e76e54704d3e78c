/- A part. -/
import Derived.Test.YtipgfplekgdoiaaGreatDoorPure1
set_option linter.unusedVariables false
namespace Go.Eng.Pure
open Go Go.Eng
set_option linter.unusedVariables false
noncomputable section
def zCq (c:(List (List Str))) (d:(List (List Str))) (b:Int):Option (Int ⊕ (Unit ⊕ Bool)) :=
  (bif decide (b<(c.length:Int)) then
   (xnth c b).bind fun f =>
   (xnth d b).bind fun h =>
   (zAs f h).bind fun i =>
   (bif !i then
    some (.inr (.inr false))
   else
    some (.inl (wr (b+1))))
  else
   some (.inr (.inl ())))
def zEF (b:(List (List Str))) (c:(List (List Str))):Option Bool :=
 (bif (b.length:Int) !=(c.length:Int) then
  some false
 else
  (zAG (zCq b c) 0).bind fun d=>match d with
  | .inr e=>some e
  | .inl _ =>
   some true)
def zB6 (c:(List GField)) (h:(List GField)) (b:Int):Option (Int ⊕ (Unit ⊕ Bool)) :=
  (bif decide (b<(c.length:Int)) then
   (xnth c b).bind fun d =>
   (xnth h b).bind fun f =>
   (bif (!((d.fName==f.fName)&&((d.fValue==f.fValue)&&true))) then
    some (.inr (.inr false))
   else
    some (.inl (wr (b+1))))
  else
   some (.inr (.inl ())))
def zDE (b:(List GField)) (c:(List GField)):Option Bool :=
 (bif (b.length:Int) !=(c.length:Int) then
  some false
 else
  (zAG (zB6 b c) 0).bind fun d=>match d with
  | .inr e=>some e
  | .inl _ =>
   some true)
def zGC (b:GEntry) (c:GEntry):Option Bool :=
 (zEF b.fKeys c.fKeys).bind fun d =>
 (bif d then
  (zAs b.fVary c.fVary).bind fun f =>
  some (f)
 else
  some false).bind fun h =>
 (bif h then
  (zAs b.fSnapshot c.fSnapshot).bind fun i =>
  some (i)
 else
  some false).bind fun j =>
 (bif (j&&(b.fReason==c.fReason)) then
  (zDE b.fFields c.fFields).bind fun k =>
  some (k)
 else
  some false).bind fun l =>
 some (((l&&(b.fBody==c.fBody))&&(b.fRequested==c.fRequested))&&(b.fReceived==c.fReceived))
def zBy (c:GEntry):(Int×(List (List Str))×(List Str)×(List Str)×Str×(List GField)×Str×Int×Int)→Option ((Int×(List (List Str))×(List Str)×(List Str)×Str×(List GField)×Str×Int×Int) ⊕ ((List (List Str))×(List Str)×(List Str)×Str×(List GField)×Str×Int×Int))
 | (b,d,f,h,i,j,k,l,o) =>
  (bif decide (b<(c.fKeys.length:Int)) then
   (xnth c.fKeys b).bind fun p =>
   (xapp ([]:List Str) p).bind fun q =>
   (xapp d ([q]:List (List Str))).bind fun r =>
   some (.inl (wr (b+1),r,f,h,i,j,k,l,o))
  else
   some (.inr (d,f,h,i,j,k,l,o)))
def zEK (b:GEntry):Option GEntry :=
 (zAG (zBy b) (0,([]:List (List Str)),b.fVary,b.fSnapshot,b.fReason,b.fFields,b.fBody,b.fRequested,b.fReceived)).bind fun c=>match c with
 | (d,p,q,f,r,h,i,j) =>
  (xapp ([]:List Str) b.fVary).bind fun k =>
  (xapp ([]:List Str) b.fSnapshot).bind fun l =>
  (xapp ([]:List GField) b.fFields).bind fun o =>
  some (⟨d,k,l,f,o,h,i,j⟩:GEntry)
def zFE (b:Str) (d:Str):Option (Str×Str×Bool) :=
 (zA8 b d).bind fun c =>
 (bif decide (0≤c) then
  (xsub b 0 c).bind fun f =>
  (xsub b (wr (c+(d.length:Int))) b.length).bind fun h =>
  some (f,h,true)
 else
  some (b,[],false))
def zFA (c:Str) (d:Str):Option (Str×Str×Bool) :=
 (zFE c d).bind fun b =>
 some (b.1,b.2.1,b.2.2)
def zEY (s0_buf:(List UInt8)):Option Unit :=
 some ()
def zD7 (s0_buf:(List UInt8)):Option Unit :=
 some ()
def zAw (s0_buf:List UInt8):Option Unit :=
 some ()
def zAN (b:Str) (s0_buf:(List UInt8)):Option (Int×Unit×(List UInt8)) :=
 (zAw s0_buf).bind fun d =>
 (xapp s0_buf b).bind fun c =>
 some ((b.length:Int),(),c)
def zA9 (s0_buf:(List UInt8)):Option Str :=
 some s0_buf
def zBx (c:Str):Option Gvariants_domain :=
 (zD4 c).bind fun b =>
 ((bif b==1 then
  some (.inr (.media:Gvariants_domain))
 else
  (bif b==2 then
   some (.inr (.tags:Gvariants_domain))
  else
   ((bif b==3 then
    some (b==3)
   else
    some (b==4))).bind fun (d:Bool) =>
   (bif d then
    some (.inr (.words b:Gvariants_domain))
   else
    some (.inl ()))))).bind fun (f:(Unit ⊕ Gvariants_domain))=>match f with
 | .inr e=>some e
 | .inl _ =>
  some (.texts:Gvariants_domain)
def zDN (d:Str):((List Str)×Bool×Int×Int)→Option (((List Str)×Bool×Int×Int) ⊕ ((List Str)×Int))
 | (f,c,h,b) =>
  (bif decide (b<(d.length:Int)) then
   (bif c then
    (xnth d b).bind fun i =>
    some (i==92)
   else
    some false).bind fun j =>
   (bif j then
    some (.inl (f,c,h,wr ((wr (b+1))+1)))
   else
    (xnth d b).bind fun k =>
    (bif k==34 then
     some (.inl (f,!c,h,wr (b+1)))
    else
     (xnth d b).bind fun l =>
     (bif ((l==59)&&(!c)) then
      (xsub d h b).bind fun o =>
      (xapp f ([o]:List Str)).bind fun p =>
      some (.inl (p,c,wr (b+1),wr (b+1)))
     else
      some (.inl (f,c,h,wr (b+1))))))
  else
   some (.inr (f,h)))
def zH1 (b:Str):Option (List Str) :=
 (zAG (zDN b) (([]:List Str),false,0,0)).bind fun c=>match c with
 | (d,f) =>
  (xsub b f b.length).bind fun h =>
  (xapp d ([h]:List Str)).bind fun i =>
  some i
def zH2 (d:Str):Option (Str×Str×Bool) :=
 (zFA d [61]).bind fun b =>
 (bif !b.2.2 then
  some true
 else
  (zAy b.1).bind fun f =>
  some (!f)).bind fun h =>
 (bif h then
  some ([],[],false)
 else
  (zAy b.2.1).bind fun i =>
  ((bif !i then
   (zDa b.2.1).bind fun c =>
   some (c.1,c.2)
  else
   some (b.2.1,b.2.2))).bind fun (j:(Str×Bool)) =>
  match j with
  | (k,l) =>
   (zAp b.1).bind fun o =>
   some (o,k,l))
def zDA (f:(List Str)):((List GParam)×Int)→Option (((List GParam)×Int) ⊕ ((List GParam) ⊕ (Str×(List GParam)×Bool)))
 | (c,b) =>
  (bif decide (b<(f.length:Int)) then
   (xnth f b).bind fun i =>
   (zD5 i).bind fun h =>
   (bif h==[] then
    some (.inl (c,wr (b+1)))
   else
    (zH2 h).bind fun d =>
    (bif !d.2.2 then
     some (.inr (.inr ([],([]:List GParam),false)))
    else
     (xapp c ([(⟨d.1,d.2.1⟩:GParam)]:List GParam)).bind fun j =>
     some (.inl (j,wr (b+1)))))
  else
   some (.inr (.inl c)))
def zE5 (d:Str):Option (Str×(List GParam)×Bool) :=
 (zH1 d).bind fun b =>
 (xnth b 0).bind fun f =>
 (zD5 f).bind fun c =>
 (bif c==[] then
  some ([],([]:List GParam),false)
 else
  (xsub b 1 b.length).bind fun h =>
  (zAG (zDA h) (([]:List GParam),0)).bind fun i=>match i with
  | .inr e=>some e
  | .inl j =>
   some (c,j,true))
def zA0 (d:Str):Option (GMediaType×Bool) :=
 (zE5 d).bind fun c =>
 (bif !c.2.2 then
  some ((⟨[],[],([]:List GParam)⟩:GMediaType),false)
 else
  (zFA c.1 [47]).bind fun b =>
  (zAy b.1).bind fun f =>
  (bif !f then
   some true
  else
   (zAy b.2.1).bind fun h =>
   some (!h)).bind fun i =>
  (bif (i||((b.1==[42])&&(b.2.1 !=[42]))) then
   some ((⟨[],[],([]:List GParam)⟩:GMediaType),false)
  else
   (zAp b.1).bind fun j =>
   (zAp b.2.1).bind fun k =>
   some ((⟨j,k,c.2.1⟩:GMediaType),true)))
def zCg (c:Str):Option (GMediaType×Bool) :=
 (zA0 c).bind fun b =>
 (bif (((!b.2)||(b.1.fType==[42]))||(b.1.fSub==[42])) then
  some ((⟨[],[],([]:List GParam)⟩:GMediaType),false)
 else
  some (b.1,true))
def zBj (b:GParam) (c:GParam):Option Bool :=
 some (b.fName==c.fName)
def zAK (c:(List GParam)) (d:(GParam→Option Bool)) (b:Int):Option (Int ⊕ (Unit ⊕ Int)) :=
  (bif decide (b<(c.length:Int)) then
   (xnth c b).bind fun f =>
   (d f).bind fun h =>
   (bif h then
    some (.inr (.inr b))
   else
    some (.inl (wr (b+1))))
  else
   some (.inr (.inl ())))
def zAS (b:(List GParam)) (c:(GParam→Option Bool)):Option Int :=
 (zAG (zAK b c) 0).bind fun d=>match d with
 | .inr e=>some e
 | .inl _ =>
  some (-1)
def zAT (b:(List GParam)) (c:(GParam→Option Bool)):Option Bool :=
 (zAS b c).bind fun d =>
 some (decide (0≤d))
def zA3 (c:(GMediaType×Bool)):(Bool×Int)→Option ((Bool×Int) ⊕ Bool)
 | (d,b) =>
  (bif decide (b<(c.1.fParams.length:Int)) then
   (xnth c.1.fParams b).bind fun f =>
   (bif (d&&(f.fName !=[113])) then
    (xsub c.1.fParams 0 b).bind fun h =>
    (zAT h (fun i=>zBj i f)).bind fun j =>
    some (!j)
   else
    some false).bind fun k =>
   some (.inl (k,wr (b+1)))
  else
   some (.inr d))
def zB1 (h:Unit) (b:Str):Option (Str×Bool) :=
 (zCg b).bind fun c =>
 (zAG (zA3 c) (c.2,0)).bind fun d =>
 (zAp b).bind fun f =>
 some (f,d)
def zDz (b:Str) (c:Str):Option Int :=
 (zA8 b c).bind fun d =>
 some d
def zGR (c:Str):(Str×Int)→Option ((Str×Int) ⊕ Int)
 | (b,d) =>
  (zDz b c).bind fun f =>
  (bif f==(-1) then
   some (.inr d)
  else
   (xsub b (wr (f+(c.length:Int))) b.length).bind fun h =>
   some (.inl (h,wr (d+1))))
def zCm (c:Str) (b:Str):Option Int :=
 (bif (b.length:Int)==0 then
  none
 else
  (bif (b.length:Int)==1 then
   (xnth b 0).bind fun d =>
   some (c.count d:Nat)
  else
   (zAG (zGR b) (c,0)).bind fun f=>some f))
def zAv (h:Str) (i:Str) (k:Int) (j:Int):(Str×Int×(List Str))→Option ((Str×Int×(List Str)) ⊕ (Str×Int×(List Str)))
 | (b,c,d) =>
  (bif decide (c<(wr ((if (wr ((h.length:Int)+1))<j then (wr ((h.length:Int)+1)) else j) - 1))) then
   (zDz b i).bind fun f =>
   (bif decide (f<0) then
    some (.inr (b,c,d))
   else
    (xsub b 0 (wr (f+k))).bind fun l =>
    (xnth d c).bind fun q =>
    (xput d c l).bind fun o =>
    (xsub b (wr (f+(i.length:Int))) b.length).bind fun p =>
    some (.inl (p,wr (c+1),o)))
  else
   some (.inr (b,c,d)))
def zEc (b:Str) (c:Str) (j:Int) (d:Int):Option (List Str) :=
 (bif d==0 then
  some ([]:List Str)
 else
  (bif c==[] then
   none
  else
   ((bif decide (d<0) then
    (zCm b c).bind fun k =>
    some (wr (k+1))
   else
    some d)).bind fun (f:Int) =>
   (xmake (if (wr ((b.length:Int)+1))<f then (wr ((b.length:Int)+1)) else f) ([]:Str)).bind fun l =>
   (zAG (zAv b c j f) (b,0,l)).bind fun o=>match o with
   | (p,h,i) =>
    (xnth i h).bind fun t =>
    (xput i h p).bind fun q =>
    (xsub q 0 (wr (h+1))).bind fun r =>
    some r))
def zEo (b:Str) (c:Str):Option (List Str) :=
 (zEc b c 0 (-1)).bind fun d =>
 some d
def zBi (f:Bool) (d:Str) (b:Int):Option (Int ⊕ (Unit ⊕ Bool)) :=
  (bif decide (b<(d.length:Int)) then
   (xnth d b).bind fun h =>
   (xnth d b).bind fun c =>
   (bif (((decide (c<97))||(decide (122<c)))&&(((!f)||(decide (c<48)))||(decide (57<c)))) then
    some (.inr (.inr false))
   else
    some (.inl (wr (b+1))))
  else
   some (.inr (.inl ())))
def zDw (b:Str) (c:Bool):Option Bool :=
 (zAp b).bind fun d =>
 (zAG (zBi c d) 0).bind fun f=>match f with
 | .inr e=>some e
 | .inl _ =>
  some ((b !=[])&&(decide ((b.length:Int)≤8)))
def zCe (c:(List Str)) (b:Int):Option (Int ⊕ (Unit ⊕ Bool)) :=
  (bif decide (b<(c.length:Int)) then
   (xnth c b).bind fun d =>
   (zDw d (decide (0<b))).bind fun f =>
   (bif !f then
    some (.inr (.inr false))
   else
    some (.inl (wr (b+1))))
  else
   some (.inr (.inl ())))
def zDQ (b:Str):Option Bool :=
 (zEo b [45]).bind fun c =>
 (zAG (zCe c) 0).bind fun d=>match d with
 | .inr e=>some e
 | .inl _ =>
  some true
def zCQ (f:Unit) (b:Str):Option (Str×Bool) :=
 (zAp b).bind fun c =>
 (zDQ b).bind fun d =>
 some (c,d)
def zA2 (c:Int) (d:Str):Option Str :=
 (zAp d).bind fun b =>
 (bif c !=4 then
  some b
 else
  (((bif b==[103,122,105,112] then
   some (b==[103,122,105,112])
  else
   some (b==[120,45,103,122,105,112]))).bind fun (f:Bool) =>
  (bif f then
   some (.inr [103,122,105,112])
  else
   ((bif b==[99,111,109,112,114,101,115,115] then
    some (b==[99,111,109,112,114,101,115,115])
   else
    some (b==[120,45,99,111,109,112,114,101,115,115]))).bind fun (h:Bool) =>
   (bif h then
    some (.inr [99,111,109,112,114,101,115,115])
   else
    some (.inl ())))).bind fun (i:(Unit ⊕ Str))=>match i with
  | .inr e=>some e
  | .inl _ =>
   some b)
def zB8 (c:Int) (b:Str):Option (Str×Bool) :=
 (zA2 c b).bind fun d =>
 (zAy b).bind fun f =>
 some (d,(f&&(b !=[42])))
def zCA (i:Unit) (b:Str):Option (Str×Bool) :=
 (bif ((decide (1≤(b.length:Int)))&&(decide ((b.length:Int)≤100))) then
  (zFr b).bind fun c =>
  some (c)
 else
  some false).bind fun d =>
 (bif d then
  (zD5 b).bind fun f =>
  some (f==b)
 else
  some false).bind fun h =>
 some (b,h)
def zBL (x:Gvariants_domain) (p0:Str):Option (Str×Bool) :=
 match x with
 | .media=>zB1 () p0
 | .tags=>zCQ () p0
 | .words n=>zB8 n p0
 | .texts=>zCA () p0
def zEw (c:Str) (d:Str) (f:Str):Option Bool :=
 (zBx c).bind fun b =>
 (zBL b d).bind fun h =>
 (zBL b f).bind fun i =>
 some (h.1==i.1)
def zA7 (d:GAxis) (h:Gvariants_domain):(Int×(List (Str×Bool)))→Option ((Int×(List (Str×Bool))) ⊕ (Unit ⊕ Bool))
 | (b,f) =>
  (bif decide (b<(d.fValues.length:Int)) then
   (xnth d.fValues b).bind fun i =>
   (zBL h i).bind fun c =>
   (bif !c.2 then
    some true
   else
    (some (mget f c.1 false)).bind fun g38 =>
    some (g38.1)).bind fun j =>
   (bif j then
    some (.inr (.inr false))
   else
    some (.inl (wr (b+1),(mset f c.1 true))))
  else
   some (.inr (.inl ())))
def zED (b:GAxis):Option Bool :=
 (bif ((decide ((b.fValues.length:Int)<1))||(decide (16<(b.fValues.length:Int)))) then
  some false
 else
  (zBx b.fName).bind fun c =>
  (zAG (zA7 b c) (0,([]:List (Str×Bool)))).bind fun d=>match d with
  | .inr e=>some e
  | .inl _ =>
   some true)
def zBs (d:GAxis) (c:(List GAxis)) (b:Int):Option (Int ⊕ (Unit ⊕ (Int ⊕ (Unit ⊕ Bool)))) :=
  (bif decide (b<(c.length:Int)) then
   (xnth c b).bind fun f =>
   (bif d.fName==f.fName then
    some (.inr (.inr (.inr (.inr false))))
   else
    some (.inl (wr (b+1))))
  else
   some (.inr (.inl ())))
def zBu (d:(List GAxis)) (c:Int):Option (Int ⊕ (Unit ⊕ Bool)) :=
  (bif decide (c<(d.length:Int)) then
   (xnth d c).bind fun b =>
   (zAy b.fName).bind fun f =>
   (bif !f then
    some true
   else
    (zAp b.fName).bind fun h =>
    some (h !=b.fName)).bind fun i =>
   (bif i then
    some true
   else
    (zED b).bind fun j =>
    some (!j)).bind fun k =>
   (bif k then
    some (.inr (.inr false))
   else
    (xsub d 0 c).bind fun l =>
    (zAG (zBs b l) 0).bind fun o=>match o with
    | .inr e=>some e
    | .inl _ =>
     some (.inl (wr (c+1))))
  else
   some (.inr (.inl ())))
def zCK (b:(List GAxis)):Option Bool :=
 (bif ((decide ((b.length:Int)<1))||(decide (4<(b.length:Int)))) then
  some false
 else
  (zAG (zBu b) 0).bind fun c=>match c with
  | .inr e=>some e
  | .inl _ =>
   some true)
def zAR (c:(List (List Str))) (d:((List Str)→Option Bool)) (b:Int):Option (Int ⊕ (Unit ⊕ Int)) :=
  (bif decide (b<(c.length:Int)) then
   (xnth c b).bind fun f =>
   (d f).bind fun h =>
   (bif h then
    some (.inr (.inr b))
   else
    some (.inl (wr (b+1))))
  else
   some (.inr (.inl ())))
def zAz (b:(List (List Str))) (c:((List Str)→Option Bool)):Option Int :=
 (zAG (zAR b c) 0).bind fun d=>match d with
 | .inr e=>some e
 | .inl _ =>
  some (-1)
def zAV (b:(List (List Str))) (c:((List Str)→Option Bool)):Option Bool :=
 (zAz b c).bind fun d =>
 some (decide (0≤d))
def zBK (i:(List Str)):((List GParam)×Int)→Option (((List GParam)×Int) ⊕ ((List GParam) ⊕ (Str×(List GParam)×Bool)))
 | (f,c) =>
  (bif decide (c<(i.length:Int)) then
   (xnth i c).bind fun k =>
   (zE1 k).bind fun b =>
   (bif b==[] then
    some (.inl (f,wr (c+1)))
   else
    (zDM b 61 0).bind fun d =>
    (bif decide (d<0) then
     some true
    else
     (xsub b 0 d).bind fun l =>
     (zB5 l).bind fun o =>
     some (!o)).bind fun p =>
    (bif p then
     some (.inr (.inr ([],([]:List GParam),false)))
    else
     (xsub b (wr (d+1)) b.length).bind fun h =>
     (zB5 h).bind fun q =>
     ((bif !q then
      (zDm h).bind fun j =>
      (bif !j.2 then
       some (.inr (.inr (.inr ([],([]:List GParam),false))))
      else
       some (.inl j.1))
     else
      some (.inl h))).bind fun (r:(Str ⊕ (((List GParam)×Int) ⊕ ((List GParam) ⊕ (Str×(List GParam)×Bool)))))=>match r with
     | .inr e=>some e
     | .inl t =>
      (xsub b 0 d).bind fun u =>
      (zBR u).bind fun v =>
      (xapp f ([(⟨v,t⟩:GParam)]:List GParam)).bind fun x =>
      some (.inl (x,wr (c+1)))))
  else
   some (.inr (.inl f)))
def zCv (d:Str):Option (Str×(List GParam)×Bool) :=
 (zGe d 59).bind fun b =>
 (xnth b 0).bind fun f =>
 (zE1 f).bind fun c =>
 (bif c==[] then
  some ([],([]:List GParam),false)
 else
  (zAG (zBK b) (([]:List GParam),1)).bind fun h=>match h with
  | .inr e=>some e
  | .inl i =>
   some (c,i,true))
def zDC (d:Str):Option (GMediaType×Bool) :=
 (zCv d).bind fun b =>
 (bif !b.2.2 then
  some ((⟨[],[],([]:List GParam)⟩:GMediaType),false)
 else
  (zDM b.1 47 0).bind fun c =>
  (bif decide (c<0) then
   some true
  else
   (xsub b.1 0 c).bind fun f =>
   (zB5 f).bind fun h =>
   some (!h)).bind fun i =>
  (bif i then
   some true
  else
   (xsub b.1 (wr (c+1)) b.1.length).bind fun j =>
   (zB5 j).bind fun k =>
   some (!k)).bind fun l =>
  (bif l then
   some true
  else
   (xsub b.1 0 c).bind fun o =>
   (bif o==[42] then
    (xsub b.1 (wr (c+1)) b.1.length).bind fun p =>
    some (p !=[42])
   else
    some false).bind fun q =>
   some (q)).bind fun r =>
  (bif r then
   some ((⟨[],[],([]:List GParam)⟩:GMediaType),false)
  else
   (xsub b.1 0 c).bind fun t =>
   (zBR t).bind fun u =>
   (xsub b.1 (wr (c+1)) b.1.length).bind fun v =>
   (zBR v).bind fun x =>
   some ((⟨u,x,b.2.1⟩:GMediaType),true)))
def zDf (c:Str):Option (GMediaType×Bool) :=
 (zDC c).bind fun b =>
 (bif (((!b.2)||(b.1.fType==[42]))||(b.1.fSub==[42])) then
  some ((⟨[],[],([]:List GParam)⟩:GMediaType),false)
 else
  some (b.1,true))
def zBG:(Str×(List Str))→Option ((Str×(List Str)) ⊕ (List Str))
 | (b,d) =>
  (zDM b 45 0).bind fun c =>
  (bif decide (c<0) then
   (xapp d ([b]:List Str)).bind fun f =>
   some (.inr f)
  else
   (xsub b 0 c).bind fun h =>
   (xsub b (wr (c+1)) b.length).bind fun i =>
   (xapp d ([h]:List Str)).bind fun j =>
   some (.inl (i,j)))
def zEr (b:Str):Option (List Str) :=
 (zAG (zBG) (b,([]:List Str))).bind fun c=>some c
def zEV (f:(List Str)) (c:Int) (d:Int):Option (Int ⊕ (Unit ⊕ (Int ⊕ (Unit ⊕ Bool)))) :=
  (xnth f c).bind fun h =>
  (bif decide (d<(h.length:Int)) then
   (xnth f c).bind fun i =>
   (xnth i d).bind fun b =>
   (bif (((decide (97≤b))&&(decide (b≤122)))||((decide (65≤b))&&(decide (b≤90)))) then
    some true
   else
    (bif decide (0<c) then
     (zHS b).bind fun j =>
     some (j)
    else
     some false).bind fun k =>
    some (k)).bind fun l =>
   (bif !l then
    some (.inr (.inr (.inr (.inr false))))
   else
    some (.inl (wr (d+1))))
  else
   some (.inr (.inl ())))
def zET (c:(List Str)) (b:Int):Option (Int ⊕ (Unit ⊕ Bool)) :=
  (bif decide (b<(c.length:Int)) then
   (xnth c b).bind fun d =>
   (bif decide ((d.length:Int)<1) then
    some true
   else
    (xnth c b).bind fun f =>
    some (decide (8<(f.length:Int)))).bind fun h =>
   (bif h then
    some (.inr (.inr false))
   else
    (zAG (zEV c b) 0).bind fun i=>match i with
    | .inr e=>some e
    | .inl _ =>
     some (.inl (wr (b+1))))
  else
   some (.inr (.inl ())))
def zHk (b:Str):Option Bool :=
 (zEr b).bind fun c =>
 (zAG (zET c) 0).bind fun d=>match d with
 | .inr e=>some e
 | .inl _ =>
  some true
def zBp (c:(GMediaType×Bool)) (d:Int):(Bool×Int)→Option ((Bool×Int) ⊕ Bool)
 | (f,b) =>
  (bif decide (b<d) then
   (bif f then
    (xnth c.1.fParams d).bind fun h =>
    (xnth c.1.fParams b).bind fun i =>
    some (h.fName !=i.fName)
   else
    some false).bind fun j =>
   some (.inl (j,wr (b+1)))
  else
   some (.inr f))
def zCM (c:(GMediaType×Bool)):(Bool×Int)→Option ((Bool×Int) ⊕ Bool)
 | (d,b) =>
  (bif decide (b<(c.1.fParams.length:Int)) then
   (zAG (zBp c b) (d,0)).bind fun f =>
   (bif f then
    (xnth c.1.fParams b).bind fun h =>
    some (h.fName !=[113])
   else
    some false).bind fun i =>
   some (.inl (i,wr (b+1)))
  else
   some (.inr d))
def zGO (f:Str) (b:Str):Option Bool :=
 (zFy f).bind fun c =>
 ((bif c==1 then
  (zDf b).bind fun d =>
  (zAG (zCM d) (d.2,0)).bind fun h =>
  some (.inr h)
 else
  (bif c==2 then
   (zHk b).bind fun i =>
   some (.inr i)
  else
   ((bif c==3 then
    some (c==3)
   else
    some (c==4))).bind fun (j:Bool) =>
   (bif j then
    (zB5 b).bind fun k =>
    some (.inr (k&&(b !=[42])))
   else
    some (.inl ()))))).bind fun (l:(Unit ⊕ Bool))=>match l with
 | .inr e=>some e
 | .inl _ =>
  (bif ((decide (1≤(b.length:Int)))&&(decide ((b.length:Int)≤100))) then
   (zG4 b).bind fun o =>
   some (o)
  else
   some false).bind fun p =>
  (bif p then
   (zE1 b).bind fun q =>
   some (q==b)
  else
   some false).bind fun r =>
  some r
def zCi (c:Int) (d:Str):Option Str :=
 (zBR d).bind fun b =>
 (bif ((c==4)&&(b==[120,45,103,122,105,112])) then
  some [103,122,105,112]
 else
  (bif ((c==4)&&(b==[120,45,99,111,109,112,114,101,115,115])) then
   some [99,111,109,112,114,101,115,115]
  else
   some b))
def zFm (f:Str) (c:Str) (d:Str):Option Bool :=
 (zFy f).bind fun b =>
 (((bif b==1 then
  some (b==1)
 else
  some (b==2))).bind fun (h:Bool) =>
 (bif h then
  (zDS c d).bind fun i =>
  some (.inr i)
 else
  ((bif b==3 then
   some (b==3)
  else
   some (b==4))).bind fun (j:Bool) =>
  (bif j then
   (zCi b c).bind fun k =>
   (zCi b d).bind fun l =>
   some (.inr (k==l))
  else
   some (.inl ())))).bind fun (o:(Unit ⊕ Bool))=>match o with
 | .inr e=>some e
 | .inl _ =>
  some (c==d)
def zBd (b:GAxis) (d:Int) (c:Int):Option (Int ⊕ (Unit ⊕ (Int ⊕ (Unit ⊕ Bool)))) :=
  (bif decide (c<d) then
   (xnth b.fValues d).bind fun f =>
   (xnth b.fValues c).bind fun h =>
   (zFm b.fName f h).bind fun i =>
   (bif i then
    some (.inr (.inr (.inr (.inr false))))
   else
    some (.inl (wr (c+1))))
  else
   some (.inr (.inl ())))
def zBk (b:GAxis) (c:Int):Option (Int ⊕ (Unit ⊕ Bool)) :=
  (bif decide (c<(b.fValues.length:Int)) then
   (xnth b.fValues c).bind fun d =>
   (zGO b.fName d).bind fun f =>
   (bif !f then
    some (.inr (.inr false))
   else
    (zAG (zBd b c) 0).bind fun h=>match h with
    | .inr e=>some e
    | .inl _ =>
     some (.inl (wr (c+1))))
  else
   some (.inr (.inl ())))
def zDo (b:GAxis):Option Bool :=
 (zB5 b.fName).bind fun c =>
 (bif !c then
  some true
 else
  (zBR b.fName).bind fun d =>
  some (d !=b.fName)).bind fun f =>
 (bif ((f||(decide ((b.fValues.length:Int)<1)))||(decide (16<(b.fValues.length:Int)))) then
  some false
 else
  (zAG (zBk b) 0).bind fun h=>match h with
  | .inr e=>some e
  | .inl _ =>
   some true)
def zC1 (c:(List GAxis)) (d:Int) (b:Int):Option (Int ⊕ (Unit ⊕ (Int ⊕ (Unit ⊕ Bool)))) :=
  (bif decide (b<d) then
   (xnth c d).bind fun f =>
   (xnth c b).bind fun h =>
   (bif f.fName==h.fName then
    some (.inr (.inr (.inr (.inr false))))
   else
    some (.inl (wr (b+1))))
  else
   some (.inr (.inl ())))
def zC6 (c:(List GAxis)) (b:Int):Option (Int ⊕ (Unit ⊕ Bool)) :=
  (bif decide (b<(c.length:Int)) then
   (xnth c b).bind fun d =>
   (zDo d).bind fun f =>
   (bif !f then
    some (.inr (.inr false))
   else
    (zAG (zC1 c b) 0).bind fun h=>match h with
    | .inr e=>some e
    | .inl _ =>
     some (.inl (wr (b+1))))
  else
   some (.inr (.inl ())))
def zGH (b:(List GAxis)):Option Bool :=
 (bif ((decide ((b.length:Int)<1))||(decide (4<(b.length:Int)))) then
  some false
 else
  (zAG (zC6 b) 0).bind fun c=>match c with
  | .inr e=>some e
  | .inl _ =>
   some true)
def zEC (c:(List GAxis)) (d:(List GAxis)) (b:Int):Option (Int ⊕ (Unit ⊕ Bool)) :=
  (bif decide (b<(c.length:Int)) then
   (xnth c b).bind fun f =>
   (xnth d b).bind fun h =>
   (bif f.fName !=h.fName then
    some true
   else
    (xnth c b).bind fun i =>
    (xnth d b).bind fun j =>
    (zAs i.fValues j.fValues).bind fun k =>
    some (!k)).bind fun l =>
   (bif l then
    some (.inr (.inr false))
   else
    some (.inl (wr (b+1))))
  else
   some (.inr (.inl ())))
def zGF (b:(List GAxis)) (c:(List GAxis)):Option Bool :=
 (bif (b.length:Int) !=(c.length:Int) then
  some false
 else
  (zAG (zEC b c) 0).bind fun d=>match d with
  | .inr e=>some e
  | .inl _ =>
   some true)
def zBD (c:(List GParam)) (d:GParam) (b:Int):Option (Int ⊕ (Unit ⊕ Bool)) :=
  (bif decide (b<(c.length:Int)) then
   (xnth c b).bind fun f =>
   (bif f.fName==d.fName then
    (zCk f.fValue d.fValue).bind fun h =>
    some (h)
   else
    some false).bind fun i =>
   (bif i then
    some (.inr (.inr true))
   else
    some (.inl (wr (b+1))))
  else
   some (.inr (.inl ())))
def zCS (b:(List GParam)) (c:GParam):Option Bool :=
 (zAG (zBD b c) 0).bind fun d=>match d with
 | .inr e=>some e
 | .inl _ =>
  some false
def zBg (c:GMediaType) (d:GMediaType) (b:Int):Option (Int ⊕ (Unit ⊕ Int)) :=
  (bif decide (b<(c.fParams.length:Int)) then
   (xnth c.fParams b).bind fun f =>
   (zCS d.fParams f).bind fun h =>
   (bif !h then
    some (.inr (.inr (-1)))
   else
    some (.inl (wr (b+1))))
  else
   some (.inr (.inl ())))
def zDn (b:GMediaType) (c:GMediaType):Option Int :=
 (bif ((b.fType==[42])&&(b.fSub==[42])) then
  some 0
 else
  (bif ((b.fSub==[42])&&(b.fType==c.fType)) then
   some 1
  else
   (bif ((b.fType !=c.fType)||(b.fSub !=c.fSub)) then
    some (-1)
   else
    (zAG (zBg b c) 0).bind fun d=>match d with
    | .inr e=>some e
    | .inl _ =>
     some (wr (2+(b.fParams.length:Int))))))
def zC7 (b:Str):Option Bool :=
 (bif b==[42] then
  some true
 else
  (zDQ b).bind fun c =>
  some (c)).bind fun d =>
 some d
def zD2 (b:Str) (c:Str):Option Bool :=
 (zBh b c).bind fun d =>
 some d
def zEM (b:Str) (c:Str):Option Int :=
 (zC7 b).bind fun d =>
 (bif !d then
  some true
 else
  (zDQ c).bind fun f =>
  some (!f)).bind fun h =>
 (bif h then
  some (-1)
 else
  (bif b==[42] then
   some 0
  else
   (zAp c).bind fun i =>
   (xcat i [45]).bind fun j =>
   (zAp b).bind fun k =>
   (xcat k [45]).bind fun l =>
   (zD2 j l).bind fun o =>
   (bif !o then
    some (-1)
   else
    (zCm b [45]).bind fun p =>
    some (wr (p+1)))))
end
end Go.Eng.Pure
